/- A part of the proof; no condition. -/
import Derived.Test.YtkhonmhnchdpkaaGreatP21
import Derived.Orders
import Derived.Still
set_option maxRecDepth 100000
set_option maxHeartbeats 40000000
namespace Go.Proofs.YtkhonmhnchdpkaaGreat
open Go.RowKit _root_.Go.Proofs.Tryz
section
def Jy (P:Program) (K:Value->World->Prop):Result Next->Prop
 |.ok (.value v) w'=>K v w'
 |.ok .skip w'=>K undef w'
 |.ok (.enter f args) w'=>Calls P f args w' λ e w''=>∃ v,e=.returned v/\K v w''
 |_=>False
def Xb (a:Act) (vs:Nat->Value):List Oper->Nat->Act
 |[],_=>a
 |o :: l,i=>Xb (a.put o.dst (vs i)) vs l (i+1)
def Fd (o:Oper) (j:Nat):Bool:=o.after.any λ e=>e.on==j&&Region.binds .any e
def opOk (ops:Array Oper) (n:Nat) (i:Nat) (o:Oper):Bool:=
 o.guard.isNone&&o.after.all (λ e=>!Region.binds .any e || decide (e.on < i))&&(match o.dst with|none=>true|some d=>decide (d < n))&&
 (List.range ops.size).all λ j=>match ops[j]? with
  |none=>true
  |some oj=>match oj.dst with
   |none=>true
   |some d=>(i==j || o.dst !=some d)&&(!(o.looksAt ops).contains d || Fd o j)
def Uf (ops:Array Oper) (n:Nat):Bool:=Region.noSelect ops&&(List.range ops.size).all λ i=>match ops[i]? with|none=>true|some o=>opOk ops n i o
section
variable {P:Program} {ops:Array Oper} {n i m:Nat} {o:Oper} {a0:Act} {R:World->World->Prop} {wd:World} {F:Nat->Value->World->Prop}
def OpS (P:Program) (ops:Array Oper) (a0:Act) (R:World->World->Prop) (wd:World) (F:Nat->Value->World->Prop) (i:Nat) (o:Oper):Prop:=
 ∀ (a:Act) (wx:World),R wd wx->
  (∀ (t j:Nat) (oj:Oper),(o.looksAt ops).contains t=true->ops[j]? =some oj->oj.dst=some t->F j (a.eval (.tmp t)) wx)->
  (∀ (t:Nat),(o.looksAt ops).contains t=true->(∀ (j:Nat) (oj:Oper),ops[j]? =some oj->oj.dst≠some t)->a.eval (.tmp t)=a0.eval (.tmp t))->
  Jy P (λ v w'=>R wx w'/\F i v w') ((execOp a.eval o).run P wx)
structure Inv (ops:Array Oper) (a0:Act) (R:World->World->Prop) (wd:World) (F:Nat->Value->World->Prop) (listed:Array Bool) (a:Act) (wx:World):Prop where
 sz:listed.size=ops.size
 cls:R wd wx
 dfs:a.defers=a0.defers
 tsz:a.tmps.size=a0.tmps.size
 out:∀ (k:Nat),(∀ (j:Nat) (oj:Oper),ops[j]? =some oj->oj.dst=some k->listed.getD j true=false)->a.tmps.getD k undef=a0.tmps.getD k undef
 dwn:∀ (j:Nat) (oj:Oper),ops[j]? =some oj->listed.getD j false=true->∀ e∈oj.after,Region.binds .any e=true->listed.getD e.on false=true
 don:∀ (j:Nat) (oj:Oper),ops[j]? =some oj->listed.getD j false=true->match oj.dst with|none=>F j undef wx|some d=>F j (a.tmps.getD d undef) wx
theorem Q6 (h:Uf ops n=true) (hi:ops[i]? =some o):opOk ops n i o=true:=by
 unfold Uf at h;rw [Bool.and_eq_true,List.all_eq_true] at h;have:=h.2 i (by rw [List.mem_range];exact (Array.getElem?_eq_some_iff.1 hi).1);simpa [hi] using this
structure OpFacts (ops:Array Oper) (n:Nat) (i:Nat) (o:Oper):Prop where
 g:o.guard=none
 back:∀ e∈o.after,Region.binds .any e=true->e.on < i
 dn:∀ d,o.dst=some d->d < n
 dist:∀ (j:Nat) (oj:Oper) (d:Nat),ops[j]? =some oj->oj.dst=some d->i≠j->o.dst≠some d
 look:∀ (j:Nat) (oj:Oper) (d:Nat),ops[j]? =some oj->oj.dst=some d->(o.looksAt ops).contains d=true->∃ e∈o.after,e.on=j/\Region.binds .any e=true
theorem Qp (h:opOk ops n i o=true):OpFacts ops n i o:=by
 unfold opOk at h;simp only [Bool.and_eq_true,Array.all_eq_true,List.all_eq_true,List.mem_range] at h;obtain ⟨⟨⟨h1,h2⟩,h3⟩,h4⟩:=h;refine ⟨by simpa using h1,λ e he hbe=>?_,λ d hd=>?_,λ j oj d hj hd hne=>?_,λ j oj d hj hd hl=>?_⟩
 ·obtain ⟨k,hk,rfl⟩:=Array.mem_iff_getElem.1 he;have:=h2 k hk;rw [hbe] at this;simpa using this
 ·rw [hd] at h3;simpa using h3
 ·have:=h4 j (Array.getElem?_eq_some_iff.1 hj).1;rw [hj] at this;simp only [hd,Bool.and_eq_true,Bool.or_eq_true,beq_iff_eq,bne_iff_ne] at this;exact this.1.resolve_left hne
 ·have:=h4 j (Array.getElem?_eq_some_iff.1 hj).1;rw [hj] at this;simp only [hd,Bool.and_eq_true,Bool.or_eq_true,Bool.not_eq_true'] at this;have h5:=this.2.resolve_left (by rw [hl];decide);unfold Fd at h5;rw [Array.any_eq_true] at h5;obtain ⟨k,hk,h6⟩:=h5;simp only [Bool.and_eq_true,beq_iff_eq] at h6;exact ⟨_,Array.getElem_mem hk,h6.1,h6.2⟩
theorem Act.eval_tmp (a:Act) (t:Nat):a.eval (.tmp t)=a.tmps.getD t undef:=rfl
theorem Vn (a:Act) (d:Option Tmp) (v:Value) (k:Nat):(a.put d v).tmps.getD k undef=if d=some k/\k < a.tmps.size then v else a.tmps.getD k undef:=by
 cases d with
 |none=>simp [Act.put]
 |some d=>
  simp only [Act.put,Array.getD_eq_getD_getElem?,Array.getElem?_setIfInBounds,Option.some.injEq]
  by_cases h:d=k
  ·subst h
   by_cases h2:d < a.tmps.size <;> simp [h2]
  ·simp [h]
theorem G8 (a:Act) (d:Option Tmp) (v:Value):(a.put d v).tmps.size=a.tmps.size:=by cases d <;> simp [Act.put]
theorem Gg (a:Act) (d:Option Tmp) (v:Value):(a.put d v).defers=a.defers:=by cases d <;> rfl
theorem Jp (hreg:Uf ops a0.tmps.size=true) {listed:Array Bool} (hs:listed.size=ops.size) (hr:Region.ready .any ops listed=[]):∀ j,j < ops.size->listed.getD j false=true:=by
 intro j
 induction j using Nat.strongRecOn with
 |_ j ih=>
  intro hj;have hoj:ops[j]? =some ops[j]:=by simp [hj]
  have fi:=Qp (Q6 hreg hoj)
  by_cases hl:listed.getD j true=false
  ·exfalso;have:j∈Region.ready .any ops listed:=mem_ready.2 ⟨hl,_,hoj,λ e he hb=>ih e.on (fi.back e he hb) (Nat.lt_trans (fi.back e he hb) hj)⟩;rw [hr] at this;cases this
  ·have:j < listed.size:=by omega
   simp [this] at hl ⊢
   exact hl
def Fe (ops:Array Oper) (m:Nat):Bool:=(List.range m).all λ j=>(List.range (m+1)).any λ i=>match ops[i]? with|none=>false|some o=>decide (j < i)&&Fd o j
theorem Tr (h:Fe ops m=true) (j:Nat) (hj:j < m):∃ (k:Nat) (ok:Oper),ops[k]? =some ok/\j < k/\k<=m/\Fd ok j=true:=by
 unfold Fe at h;rw [List.all_eq_true] at h;have:=h j (List.mem_range.2 hj);rw [List.any_eq_true] at this;obtain ⟨k,hk,he⟩:=this;cases ho:ops[k]? with
 |none=>rw [ho] at he;cases he
 |some ok=>
  rw [ho] at he;simp only [Bool.and_eq_true,decide_eq_true_eq] at he;exact ⟨k,ok,ho,he.1,by have:=List.mem_range.1 hk;omega,he.2⟩
theorem Po {listed:Array Bool} (hs:listed.size=ops.size) (hsz:ops.size=m+1) (h:∀ j,j < m->listed.getD j false=true):Region.ready .any ops (listed.setIfInBounds m true)=[]:=by
 rw [List.eq_nil_iff_forall_not_mem];intro j hj;obtain ⟨hl,o,ho,_⟩:=mem_ready.1 hj;have hlt:=(Array.getElem?_eq_some_iff.1 ho).1
 by_cases hm:m=j
 ·subst hm;simp [hs,hlt] at hl
 ·rw [getD_set_ne true hm] at hl;have:=h j (by omega);have hj':j < listed.size:=by omega
  simp [hj'] at hl this;rw [hl] at this;cases this
theorem Inv.step (hreg:Uf ops a0.tmps.size=true) (hF:∀ i v w w',F i v w->R w w'->F i v w') (htr:∀ a b c,R a b->R b c->R a c) {listed:Array Bool} {a:Act} {wx:World} (h:Inv ops a0 R wd F listed a wx) (hi:ops[i]? =some o) (hl:listed.getD i true=false) (hall:∀ e∈o.after,Region.binds .any e=true->listed.getD e.on false=true) {v:Value} {w':World} (hR:R wx w') (hv:F i v w') (hu:o.dst=none->v=undef\/F i undef w'):
  Inv ops a0 R wd F (listed.setIfInBounds i true) (a.put o.dst v) w':=by
 have fi:=Qp (Q6 hreg hi);have hlt:i < listed.size:=by rw [h.sz];exact (Array.getElem?_eq_some_iff.1 hi).1
 refine ⟨by simpa using h.sz,htr _ _ _ h.cls hR,by rw [Gg];exact h.dfs,by rw [G8];exact h.tsz,λ k hk=>?_,λ j oj hj hlj e he hb=>getD_set_true (?_),λ j oj hj hlj=>?_⟩
 ·rw [Vn,if_neg (λ hh=>?_)]
  ·refine h.out k (λ j oj hj hd=>?_);have:=hk j oj hj hd
   by_cases hij:i=j
   ·subst hij;exact hl
   ·simpa [Array.getElem?_setIfInBounds,hij] using this
  ·have:=hk i o hi hh.1;simp [hlt] at this
 ·by_cases hij:i=j
  ·subst hij;rw [hi] at hj;obtain rfl:=Zo_ hj;exact hall e he hb
  ·exact h.dwn j oj hj (by simpa [Array.getElem?_setIfInBounds,hij] using hlj) e he hb
 ·by_cases hij:i=j
  ·subst hij;rw [hi] at hj;obtain rfl:=Zo_ hj;cases hd:o.dst with
   |none=>
    rcases hu hd with e|e
    ·rw [<-e];exact hv
    ·exact e
   |some d=>
    show F i ((a.put (some d) v).tmps.getD d undef) w';rw [Vn,if_pos ⟨rfl,by rw [h.tsz];exact fi.dn d hd⟩];exact hv
  ·have hlj':listed.getD j false=true:=by simpa [Array.getElem?_setIfInBounds,hij] using hlj
   have:=h.don j oj hj hlj';cases hd:oj.dst with
   |none=>rw [hd] at this;exact hF _ _ _ _ this hR
   |some d=>
    rw [hd] at this;show F j ((a.put o.dst v).tmps.getD d undef) w';rw [Vn,if_neg (λ hh=>fi.dist j oj d hj hd hij hh.1)];exact hF _ _ _ _ this hR
theorem Inv.run (hreg:Uf ops a0.tmps.size=true) (hF:∀ i v w w',F i v w->R w w'->F i v w') (htr:∀ a b c,R a b->R b c->R a c) {listed:Array Bool} {a:Act} {wx:World} {Q:Exit->Act->World->Prop} (hops:∀ i o,i < m->ops[i]? =some o->OpS P ops a0 R wd F i o) (h:Inv ops a0 R wd F listed a wx) (him:i < m) (hr:i∈Region.ready .any ops listed)
  {K:Act->World->Prop} (hK:∀ a' w',Inv ops a0 R wd F (listed.setIfInBounds i true) a' w'->K a' w') (hskip:∀ i v w',F i v w'->∀ o,ops[i]? =some o->o.dst=none->F i undef w'):wpOp P ops Q i K a wx:=by
 obtain ⟨hl,o,hi,hall⟩:=mem_ready.1 hr;have fi:=Qp (Q6 hreg hi);unfold wpOp;rw [hi];simp only;rw [if_pos (by unfold Region.wanted;rw [fi.g])];left;have:=hops i o him hi a wx h.cls (λ t j oj ht hj hd=>by
  obtain ⟨e,he,rfl,hb⟩:=fi.look j oj t hj hd ht;have:=h.don e.on oj hj (hall e he hb);rw [hd] at this;exact this) (λ t _ hno=>by
  rw [Act.eval_tmp,Act.eval_tmp];exact h.out t (λ j oj hj hd=>absurd hd (hno j oj hj)))
 unfold Oper.wp;revert this;generalize (execOp a.eval o).run P wx=r;intro this;cases r with
 |halt x w'=>exact this.elim
 |ok n w'=>
  cases n with
  |value v=>exact hK _ _ (h.step hreg hF htr hi hl hall this.1 this.2 (λ hd=>.inr (hskip _ _ _ this.2 o hi hd)))
  |skip=>exact hK _ _ (h.step hreg hF htr hi hl hall this.1 this.2 (λ _=>.inl rfl))
  |enter f args=>
   refine Calls.mono this (λ e w'' ⟨v,he,hv⟩=>?_);subst he;exact hK _ _ (h.step hreg hF htr hi hl hall hv.1 hv.2 (λ hd=>.inr (hskip _ _ _ hv.2 o hi hd)))
  |_=>exact this.elim
theorem Inv.all (hreg:Uf ops a0.tmps.size=true) (hF:∀ i v w w',F i v w->R w w'->F i v w') (htr:∀ a b c,R a b->R b c->R a c) {Q:Exit->Act->World->Prop} (hsz:ops.size=m+1) (hcov:Fe ops m=true) (hops:∀ i o,i < m->ops[i]? =some o->OpS P ops a0 R wd F i o) (hskip:∀ i v w',F i v w'->∀ o,ops[i]? =some o->o.dst=none->F i undef w')
  (hend:∀ a w',(∀ listed,Inv ops a0 R wd F listed a w'->listed.getD m true=false->(∀ j,j < m->listed.getD j false=true)->wpList P ops Q [ops[m]!] a w')):∀ (fuel:Nat) (listed:Array Bool) (a:Act) (wx:World),listed.getD m true=false->(∀ n,n=(List.range ops.size).countP (λ i=>!listed.getD i true)->n<=fuel)->Inv ops a0 R wd F listed a wx->wpAny P .any ops Q fuel listed a wx
 |0,listed,a,wx,hlm,hn,h=>by
  exfalso;have h0:=hn _ rfl;have hz:(List.range ops.size).countP (λ i=>!listed.getD i true)=0:=by omega
  rw [List.countP_eq_zero] at hz;have:=hz m (by rw [List.mem_range];omega);rw [hlm] at this;simp at this
 |fuel+1,listed,a,wx,hlm,hn,h=>by
  refine ⟨λ hr=>?_,λ i hi=>?_⟩
  ·exfalso;have:=Jp hreg h.sz hr m (by omega);have hm':m < listed.size:=by rw [h.sz];omega
   have e:listed.getD m false=listed.getD m true:=by simp [hm']
   rw [e,hlm] at this;cases this
  by_cases him:i=m
  ·subst him;have hom:ops[i]? =some ops[i]!:=by simp [hsz]
   obtain ⟨hl,o,ho,hall⟩:=mem_ready.1 hi;have hc:∀ d j,j+d=i->0 < d->listed.getD j false=true:=by
    intro d
    induction d using Nat.strongRecOn with
    |_ d ih=>
     intro j hj hd;obtain ⟨k,ok,hk,hjk,hki,he⟩:=Tr hcov j (by omega);unfold Fd at he;rw [Array.any_eq_true] at he;obtain ⟨q,hq,hb⟩:=he;simp only [Bool.and_eq_true,beq_iff_eq] at hb;rw [<-hb.1]
     by_cases hki':k=i
     ·subst hki';rw [ho] at hk;obtain rfl:=Zo_ hk;exact hall _ (Array.getElem_mem hq) hb.2
     ·exact h.dwn k ok hk (ih (i - k) (by omega) k (by omega) (by omega)) _ (Array.getElem_mem hq) hb.2
   have hw:=hend a wx listed h hlm (λ j hj=>hc (i - j) j (by omega) (by omega));unfold wpOp;rw [hom];have fi:=Qp (Q6 hreg hom);simp only;rw [if_pos (by unfold Region.wanted;rw [fi.g])];unfold wpList at hw;rw [if_pos (by unfold Region.wanted;rw [fi.g])] at hw;refine hw.imp (Oper.wp_mono (λ a' w' hq=>?_)) id;have e:=Po h.sz hsz (λ j hj=>hc (i - j) j (by omega) (by omega));have hq:Q .normal a' w':=hq;cases fuel with
   |zero=>exact ⟨e,hq⟩
   |succ f=>exact ⟨λ _=>hq,λ j hj=>by rw [e] at hj;cases hj⟩
  refine h.run hreg hF htr hops (by have:=(Array.getElem?_eq_some_iff.1 (mem_ready.1 hi).2.choose_spec.1).1;omega) hi (λ a' w' h'=>Inv.all hreg hF htr hsz hcov hops hskip hend fuel _ a' w' (by rw [getD_set_ne true him];exact hlm) ?_ h') hskip;intro n hn';obtain ⟨hl,o,ho,_⟩:=mem_ready.1 hi;have hlt:=(Array.getElem?_eq_some_iff.1 ho).1;have h1:=hn _ rfl;have:(List.range ops.size).countP (λ j=>!(listed.setIfInBounds i true).getD j true)+1<=(List.range ops.size).countP (λ j=>!listed.getD j true):=by
   have key:∀ l:List Nat,l.Nodup->i∈l->l.countP (λ j=>!(listed.setIfInBounds i true).getD j true)+1<=l.countP (λ j=>!listed.getD j true):=by
    intro l
    induction l with
    |nil=>intro _ hm;cases hm
    |cons x l ih=>
     intro hnd hm;rw [List.nodup_cons] at hnd;rw [List.countP_cons,List.countP_cons];rcases List.mem_cons.1 hm with rfl|hm
     ·have e1:(!(listed.setIfInBounds i true).getD i true)=false:=by
       simp [Array.getElem?_setIfInBounds];split <;> rfl
      have e2:(!listed.getD i true)=true:=by rw [hl];rfl
      rw [e1,e2];have:l.countP (λ j=>!(listed.setIfInBounds i true).getD j true)<=l.countP (λ j=>!listed.getD j true):=by
       refine List.countP_mono_left (λ y hy=>?_);have hne:i≠y:=λ e=>hnd.1 (e ▸ hy);simp [hne]
      rw [if_neg (by decide),if_pos rfl];omega
     ·have hne:i≠x:=λ e=>hnd.1 (e ▸ hm);have e1:(!(listed.setIfInBounds i true).getD x true)=!listed.getD x true:=by simp [hne]
      rw [e1];have:=ih hnd.2 hm;omega
   exact key _ List.nodup_range (List.mem_range.2 hlt)
  omega
end
section
variable {P:Program} {ops:Array Oper} {n i m:Nat} {o:Oper} {a0:Act} {R:World->World->Prop} {wd:World} {F:Nat->Value->World->Prop}
theorem U8 (a:Act) (vs:Nat->Value):∀ (l:List Oper) (i:Nat),(Xb a vs l i).tmps.size=a.tmps.size
 |[],_=>rfl
 |o :: l,i=>by rw [Xb,U8,G8]
theorem Vo (a:Act) (vs:Nat->Value):∀ (l:List Oper) (i:Nat),(Xb a vs l i).defers=a.defers
 |[],_=>rfl
 |o :: l,i=>by rw [Xb,Vo,Gg]
theorem U9 (vs:Nat->Value) (k:Nat):∀ (l:List Oper) (i:Nat) (a:Act),(∀ o∈l,o.dst≠some k)->(Xb a vs l i).tmps.getD k undef=a.tmps.getD k undef
 |[],_,_,_=>rfl
 |o :: l,i,a,h=>by
  rw [Xb,U9 vs k l (i+1) _ (λ o ho=>h o (List.mem_cons_of_mem _ ho)),Vn,if_neg (λ hh=>h o (List.mem_cons_self ..) hh.1)]
theorem G9 (vs:Nat->Value) (k:Nat):∀ (l:List Oper) (i:Nat) (a:Act) (j:Nat) (o:Oper),l[j]? =some o->o.dst=some k->k < a.tmps.size->(∀ j' o',l[j']? =some o'->j'≠j->o'.dst≠some k)->(Xb a vs l i).tmps.getD k undef=vs (i+j)
 |[],_,_,_,_,h,_,_,_=>by simp at h
 |o :: l,i,a,0,o',h,hd,hk,hu=>by
  simp at h;subst h;rw [Xb,U9 vs k l (i+1) _ (λ x hx=>by
   obtain ⟨j,hj⟩:=List.getElem?_of_mem hx;exact hu (j+1) x (by simpa using hj) (by omega)),Vn,if_pos ⟨hd,hk⟩]
  rfl
 |o :: l,i,a,j+1,o',h,hd,hk,hu=>by
  rw [Xb,G9 vs k l (i+1) _ j o' (by simpa using h) hd (by rw [G8];exact hk) (λ j' x hx hne=>hu (j'+1) x (by simpa using hx) (by omega))];congr 1
  omega
theorem Yt {id:Nat} {Q:Exit->Act->World->Prop} {w:World} (hm:P.follows .mixedOrders=true) (m:Nat) {ol:Oper} (hol:ops[m]? =some ol) (R:World->World->Prop) (F:Nat->Value->World->Prop)
  (hreg:Uf ops a0.tmps.size=true) (hsz:ops.size=m+1) (hcov:Fe ops m=true) (hF:∀ i v w w',F i v w->R w w'->F i v w') (hrf:∀ a,R a a) (htr:∀ a b c,R a b->R b c->R a c)
  (hskip:∀ i v w',F i v w'->∀ o,ops[i]? =some o->o.dst=none->F i undef w')
  (hops:∀ i o,i < m->ops[i]? =some o->OpS P ops a0 R w.drew F i o)
  (hend:∀ (vs:Nat->Value) w',R w.drew w'->(∀ i,i < m->F i (vs i) w')->wpList P ops Q [ol] (Xb a0 vs (ops.toList.take m) 0) w'):(Code.region id ops true).wp P Q a0 w:=by
 refine wp_region_any hm (Inv.all hreg hF htr hsz hcov hops hskip ?_ ops.size _ a0 _ (by simp [hsz]) ?_ ⟨by simp,hrf _,rfl,rfl,λ _ _=>rfl,λ j oj hj hl=>?_,λ j oj hj hl=>?_⟩)
 ·intro a w' listed h hlm hall
  let vs:Nat->Value:=λ i=>match (ops[i]?).bind (·.dst) with|none=>undef|some d=>a.tmps.getD d undef
  have e:a=Xb a0 vs (ops.toList.take m) 0:=by
   have hsz':a.tmps.size=(Xb a0 vs (ops.toList.take m) 0).tmps.size:=by rw [U8];exact h.tsz
   have ht:a.tmps=(Xb a0 vs (ops.toList.take m) 0).tmps:=by
    refine Array.ext hsz' (λ k hk1 hk2=>?_);have g1:a.tmps.getD k undef=a.tmps[k]:=by simp [hk1]
    have g2:(Xb a0 vs (ops.toList.take m) 0).tmps.getD k undef=(Xb a0 vs (ops.toList.take m) 0).tmps[k]:=by simp [hk2]
    rw [<-g1,<-g2]
    by_cases hex:∃ (j:Nat) (oj:Oper),j < m/\ops[j]? =some oj/\oj.dst=some k
    ·obtain ⟨j,oj,hjm,hj,hd⟩:=hex;rw [G9 vs k (ops.toList.take m) 0 a0 j oj (by rw [List.getElem?_take_of_lt hjm];simpa using hj) hd (by rw [<-h.tsz];exact hk1) (λ j' o' hj' hne hd'=>by
      have hj2:ops[j']? =some o':=by
       by_cases hlt:j' < m
       ·rw [List.getElem?_take_of_lt hlt] at hj';simpa using hj'
       ·rw [List.getElem?_eq_none (by simp;omega)] at hj';cases hj'
      exact (Qp (Q6 hreg hj)).dist j' o' k hj2 hd' (Ne.symm hne) hd)]
     show _=(match (ops[0+j]?).bind (·.dst) with|none=>undef|some d=>a.tmps.getD d undef);rw [Nat.zero_add,hj];simp [hd]
    ·rw [U9 vs k (ops.toList.take m) 0 a0 (λ o ho hd=>by
      obtain ⟨j,hj⟩:=List.getElem?_of_mem ho;have hlt:j < m:=by
       have:=(List.getElem?_eq_some_iff.1 hj).1;simp at this;omega
      rw [List.getElem?_take_of_lt hlt] at hj;exact hex ⟨j,o,hlt,by simpa using hj,hd⟩)]
     exact h.out k (λ j oj hj hd=>by
      by_cases hlt:j < m
      ·exact absurd ⟨j,oj,hlt,hj,hd⟩ hex
      ·have:=(Array.getElem?_eq_some_iff.1 hj).1;obtain rfl:j=m:=by omega
       exact hlm)
   have hd:a.defers=(Xb a0 vs (ops.toList.take m) 0).defers:=by rw [Vo];exact h.dfs
   cases a
   cases hp:Xb a0 vs (ops.toList.take m) 0
   rw [hp] at ht hd;simp only at ht hd;rw [ht,hd]
  rw [e];have hom:ops[m]! =ol:=by
   have:=hol;simp only [getElem!_def,this]
  rw [hom];refine hend vs w' h.cls (λ i hi=>?_);have hi':i < ops.size:=by omega
  have hoi:ops[i]? =some ops[i]:=by simp [hi']
  have:=h.don i _ hoi (hall i hi);show F i (match (ops[i]?).bind (·.dst) with|none=>undef|some d=>a.tmps.getD d undef) w';rw [hoi];simp only [Option.bind_some];cases hd:ops[i].dst with
  |none=>rw [hd] at this;exact this
  |some d=>rw [hd] at this;exact this
 ·intro k hk;rw [hk];refine Nat.le_trans List.countP_le_length (by simp)
 ·have hlt:=(Array.getElem?_eq_some_iff.1 hj).1;simp [hlt] at hl
 ·have hlt:=(Array.getElem?_eq_some_iff.1 hj).1;simp [hlt] at hl
end
end
section
attribute [local go_sem] Zj
def notOut (ops:Array Oper) (t:Nat):Bool:=ops.all λ o=>o.dst !=some t
theorem Zm {ops:Array Oper} {t:Nat} (h:notOut ops t=true) (j:Nat) (oj:Oper) (hj:ops[j]? =some oj):oj.dst≠some t:=by
 unfold notOut at h;rw [Array.all_eq_true] at h;obtain ⟨hlt,rfl⟩:=Array.getElem?_eq_some_iff.1 hj;simpa using h j hlt
def Ro (ops:Array Oper) (m:Nat):Bool:=(List.range m).all λ i=>match ops[i]? with|none=>true|some o=>o.dst.isSome
theorem Vb {ops:Array Oper} {m:Nat} {F:Nat->Value->World->Prop} (h:Ro ops m=true) (ht:∀ i,m<=i->∀ v w,F i v w) {i:Nat} {w:World} {o:Oper} (ho:ops[i]? =some o) (hd:o.dst=none):F i undef w:=by
 by_cases hi:i < m
 ·exfalso;unfold Ro at h;rw [List.all_eq_true] at h;have:=h i (List.mem_range.2 hi);rw [ho] at this;simp [hd] at this
 ·exact ht i (by omega) _ _
def Z8 (n0:Nat) (t:TypeId) (z n:Nat) (xs:List Value) (v:Value) (w:World):Prop:=w.ownsRow 0 t z v n xs/\∀ g,v.ownBlock=some g->n0<=g
theorem Z8.mod {n0:Nat} {t:TypeId} {z n:Nat} {xs:List Value} {v:Value} {w w':World} (h:Z8 n0 t z n xs v w) (m:Ze [] w w'):Z8 n0 t z n xs v w':=⟨Zs h.1 m (by simp),h.2⟩
theorem Z8.copied {n0:Nat} {t:TypeId} {z n:Nat} {xs:List Value} {e:Ending} {w w':World} (h:Qv w t z n xs e w') (h0:n0<=w.heap.size):∃ v,e=.returned v/\Ze [] w w'/\Z8 n0 t z n xs v w':=by
 obtain ⟨u,rfl,h1,h2,h3⟩:=h;exact ⟨u,rfl,h3,h1,λ g hg=>Nat.le_trans h0 (h2 g hg)⟩
def Ya:Array Value:=#[.int .i64 0,.int .i64 0,.int .i64 0,.int .i64 0,.slice none 0 0,.int .i64 0,.int .i64 0,.slice none 0 0,.slice none 0 0,.slice none 0 0,.int .i64 0,.int .i64 0,.int .i64 0,.int .i64 0,.int .i64 0,.int .i64 0,.int .i64 0,.int .i64 0,.int .i64 0]
def Q3 (n0:Nat) (v:Value) (w:World):Prop:=∃ g,v=.pointer (some ⟨g,0,none⟩)/\w.heap[g]? =some (.cells Ya 50 (0,0))/\n0<=g
theorem Q3.mod {n0:Nat} {v:Value} {w w':World} (h:Q3 n0 v w) (m:Ze [] w w'):Q3 n0 v w':=by
 obtain ⟨g,h1,h2,h3⟩:=h;exact ⟨g,h1,m.at h2 (by simp),h3⟩
def U2 (tag mark num st:Int) (va vr vw vo:Value):Array Value:=#[.int .i64 0,.int .i64 0,.int .i64 0,.int .i64 tag,va,.int .i64 mark,.int .i64 num,vr,vw,vo,.int .i64 0,.int .i64 0,.int .i64 0,.int .i64 0,.int .i64 0,.int .i64 st,.int .i64 0,.int .i64 0,.int .i64 0]
def Jt (n0:Nat) (tag mark num st:Int) (args:List Nat) (m:Zl) (v:Value) (w:World):Prop:=
 ∃ va vr vw vo,v=.agg (U2 tag mark num st va vr vw vo)/\Z8 n0 51 1 args.length (args.map (Value.float .f64)) va w/\Z8 n0 53 2 m.reads.length (Yh m.reads) vr w/\Z8 n0 53 2 m.buf.order.length (Yh m.buf.all) vw w/\Z8 n0 51 1 m.out.length (m.out.map (Value.float .f64)) vo w
theorem Jt.mod {n0:Nat} {tag mark num st:Int} {args:List Nat} {m:Zl} {v:Value} {w w':World} (h:Jt n0 tag mark num st args m v w) (k:Ze [] w w'):Jt n0 tag mark num st args m v w':=by
 obtain ⟨va,vr,vw,vo,h0,h1,h2,h3,h4⟩:=h;exact ⟨va,vr,vw,vo,h0,h1.mod k,h2.mod k,h3.mod k,h4.mod k⟩
def Qe (tag mark num st how ec ee:Int) (va vr vw vo:Value):Array Value:=#[.int .i64 0,.int .i64 0,.int .i64 0,.int .i64 tag,va,.int .i64 mark,.int .i64 num,vr,vw,vo,.int .i64 how,.int .i64 ec,.int .i64 ee,.int .i64 0,.int .i64 0,.int .i64 st,.int .i64 0,.int .i64 0,.int .i64 0]
def Qf (n0:Nat) (l:List (Int×Nat)):Value->World->Prop:=Z8 n0 53 2 l.length (Yh l)
def Xm (n0:Nat) (l:List Nat):Value->World->Prop:=Z8 n0 51 1 l.length (l.map (Value.float .f64))
def J9 (w:World) (d:Zv) (e:Ending) (w':World):Prop:=
 ∃ st va vr vw vo,e=.returned (.agg (Qe d.tag d.mark d.number st d.how d.ecode d.eerr va vr vw vo))/\Xm w.heap.size d.args va w'/\Qf w.heap.size d.reads vr w'/\Qf w.heap.size d.writes vw w'/\Xm w.heap.size d.out vo w'/\Ze [] w w'
def L7 (n1:Nat) (tag mark num st:Int) (args:List Nat) (m:Zl) (A:Value) (w:World):Prop:=
 ∃ g va vr vw vo,A=.pointer (some ⟨g,0,none⟩)/\w.heap[g]? =some (.cells (U2 tag mark num st va vr vw vo) 50 (0,0))/\n1<=g/\Xm n1 args va w/\Qf n1 m.reads vr w/\Qf n1 m.buf.all vw w/\Xm n1 m.out vo w
theorem Ze.set_own {g:Nat} {x y:World} (h:Ze [g] x y) (i:Nat) (v:Value):Ze [g] x (y.setCell ⟨g,i,none⟩ v):=h.setCell _ _ (.inl (by simp))
theorem Z8.weak {n0 n1:Nat} {t:TypeId} {z n:Nat} {xs:List Value} {v:Value} {w:World} (h:Z8 n1 t z n xs v w) (hn:n0<=n1):Z8 n0 t z n xs v w:=⟨h.1,λ g hg=>Nat.le_trans hn (h.2 g hg)⟩
def Py (n0:Nat) (d:Zv) (v:Value) (w:World):Prop:=
 ∃ st va vr vw vo,v=.agg (Qe d.tag d.mark d.number st d.how d.ecode d.eerr va vr vw vo)/\Xm n0 d.args va w/\Qf n0 d.reads vr w/\Qf n0 d.writes vw w/\Xm n0 d.out vo w
theorem Py.mod {n0:Nat} {d:Zv} {v:Value} {w w':World} (h:Py n0 d v w) (m:Ze [] w w'):Py n0 d v w':=by
 obtain ⟨st,va,vr,vw,vo,h0,h1,h2,h3,h4⟩:=h;exact ⟨st,va,vr,vw,vo,h0,Z8.mod h1 m,Z8.mod h2 m,Z8.mod h3 m,Z8.mod h4 m⟩
theorem J9.to {n0:Nat} {d:Zv} {e:Ending} {w w':World} (h:J9 w d e w') (hn:n0<=w.heap.size):∃ v,e=.returned v/\Ze [] w w'/\Py n0 d v w':=by
 obtain ⟨st,va,vr,vw,vo,h0,h1,h2,h3,h4,h5⟩:=h;exact ⟨_,h0,h5,st,va,vr,vw,vo,rfl,Z8.weak h1 hn,Z8.weak h2 hn,Z8.weak h3 hn,Z8.weak h4 hn⟩
theorem Y0 {w:World} {g:Nat} {c cs:Array Value} {t:TypeId} {f:Nat×Nat} (h:w.heap[g]? =some (.cells c t f)):(w.setRow g cs).heap[g]? =some (.cells cs t f):=by
 show (w.heap.modify g _)[g]? =_;rw [Array.getElem?_modify,if_pos rfl,h];rfl
theorem Z8.far {n0:Nat} {t:TypeId} {z n:Nat} {xs:List Value} {v:Value} {w w':World} {g:Nat} {c:Array Value} (h:Z8 n0 t z n xs v w) (hg:w.heap[g]? =some (.cells c 50 (0,0))) (ht:t≠50) (m:Ze [g] w w'):Z8 n0 t z n xs v w':=
 ⟨Zs h.1 m (λ k hk hm=>by
  simp at hm;subst hm;have:=Zn hg;rw [Yc h.1 hk] at this;exact ht (Zo_ this)),h.2⟩
theorem Tp {w w1 w2:World} {n0 g5:Nat} {tag mark num st:Int} {args:List Nat} {m:Zl} {va vr vw vo:Value} (M1:Ze [] w w1) (hR:Ze [] w1.drew w2) (hn:w.heap.size<=n0) (k5:w2.heap[g5]? =some (.cells Ya 50 (0,0))) (hg:n0<=g5)
  (ra:Z8 n0 51 1 args.length (args.map (Value.float .f64)) va w2) (rr:Z8 n0 53 2 m.reads.length (Yh m.reads) vr w2) (rw':Z8 n0 53 2 m.buf.order.length (Yh m.buf.all) vw w2) (ro:Z8 n0 51 1 m.out.length (m.out.map (Value.float .f64)) vo w2):
  L7 n0 tag mark num st args m (.pointer (some ⟨g5,0,none⟩)) (w2.setRow g5 (U2 tag mark num st va vr vw vo))/\Ze [] w (w2.setRow g5 (U2 tag mark num st va vr vw vo)):=by
 have mm:Ze [g5] w2 (w2.setRow g5 (U2 tag mark num st va vr vw vo)):=(Zr_ _ _).setRow _ _ (.inl (by simp));refine ⟨⟨g5,_,_,_,_,rfl,Y0 k5,hg,ra.far k5 (by decide) mm,rr.far k5 (by decide) mm,?_,ro.far k5 (by decide) mm⟩,((M1.drew).trans hR).then mm (λ k hk=>.inr (by simp at hk;omega))⟩;unfold Qf;rw [Fx];exact rw'.far k5 (by decide) mm
theorem Pu {tag mark num st:Int} {va vr vw vo:Value} (h1:va.oneCell'=true) (h2:vr.oneCell'=true) (h3:vw.oneCell'=true) (h4:vo.oneCell'=true):(U2 tag mark num st va vr vw vo).all (·.oneCell')=true:=by
 unfold U2;simp only [List.all_toArray,List.all_cons,h1,h2,h3,h4];rfl
theorem Bj {tag mark num st a b c:Int} {va vr vw vo:Value} (h1:va.oneCell'=true) (h2:vr.oneCell'=true) (h3:vw.oneCell'=true) (h4:vo.oneCell'=true):(Qe tag mark num st a b c va vr vw vo).all (·.oneCell')=true:=by
 unfold Qe;simp only [List.all_toArray,List.all_cons,h1,h2,h3,h4];rfl
theorem Y7 {w:World} {t:TypeId} {z n:Nat} {xs:List Value} {v:Value} (h:w.ownsRow 0 t z v n xs):v.oneCell'=true:=by
 obtain ⟨a,c,rfl⟩:=Zo h;rfl
theorem Mg {w w1 w2:World} {n0:Nat} {d:Zv} {st:Int} {va vr vw vo:Value} (M1:Ze [] w w1) (hR:Ze [] w1 w2) (hn:w.heap.size<=n0) (z:w2.heap[w.heap.size]? =some (.cells Ya 50 (0,0)))
  (h1:Xm n0 d.args va w2) (h2:Qf n0 d.reads vr w2) (h3:Qf n0 d.writes vw w2) (h4:Xm n0 d.out vo w2):
  J9 w d (.returned (.agg (Qe d.tag d.mark d.number st d.how d.ecode d.eerr va vr vw vo))) (w2.setRow w.heap.size (Qe d.tag d.mark d.number st d.how d.ecode d.eerr va vr vw vo)):=by
 have mm:Ze [w.heap.size] w2 (w2.setRow w.heap.size (Qe d.tag d.mark d.number st d.how d.ecode d.eerr va vr vw vo)):=(Zr_ _ _).setRow _ _ (.inl (by simp));exact ⟨_,_,_,_,_,rfl,(Z8.weak h1 hn).far z (by decide) mm,(Z8.weak h2 hn).far z (by decide) mm,(Z8.weak h3 hn).far z (by decide) mm,(Z8.weak h4 hn).far z (by decide) mm,(M1.trans hR).then mm (λ k hk=>.inr (by simp at hk;omega))⟩
theorem out_le {m:Zl} (o:Yl m):m.out.length<=4096:=by
 have h1:=o.out;have h2:=o.used1;have h3:=o.fuel;omega
theorem Xh {P:Program} {w:World} {o:Oper} {a:Act} {K:Value->World->Prop} (s x:Operand) (t:TypeId)
  (ho:o.op=.call {callee:=.builtin .append,args:=#[s,x],argTypes:=#[t,t]})
  (base:Nat) (e:TypeId) (i:TypeInfo) (z:Value) (size bytes:Nat) (ht:P.underlying t=some (.slice e)) (hi:P.info? e=some i) (hz:i.zero=some z)
  (hsize:i.size=size) (hby:i.bytes=bytes) (hzs:z.cells.size=size) (hsz:0 < size)
  (v:Value) (n:Nat) (xs:List Value) (hs:a.eval s=v) (hown:w.ownsRow base e size v n xs)
  (ad:Addr) (m c:Nat) (news:List Value) (hx:a.eval x=.slice (some ad) m c) (hl:news.length=m * size) (hnews:∀ j u,news[j]? =some u->w.cell? (ad.add j)=some u) (h1:∀ u∈news,u.oneCell'=true)
  (h63:n+m<=maxLen) (hbytes:(n+m) * bytes<=140737488355328) (hbase:base<=w.heap.size)
  (h:∀ v' w',w'.ownsRow base e size v' (n+m) (xs++news)->w.grownBy w' v.ownBlock->(v'.ownBlock=v.ownBlock\/v'.ownBlock=some w.heap.size)->K v' w'):Jy P K ((execOp a.eval o).run P w):=by
 obtain ⟨v',w',hr,h2,h3,_,h5⟩:=run_append_own_at (P:=P) w base t o.type e i z size bytes ht hi hz hsize hby hzs hsz v n xs hown ad m c news hl hnews h1 h63 hbytes hbase;unfold execOp;simp only [ho,resolve,invoke,builtin,Sem.run_bind,Sem.run_pure,Result.andThen_ok,List.map_toArray,List.map_cons,List.map_nil,hs,hx,hr];exact h v' w' h2 h3 h5
end
section
attribute [local go_sem] Zj
def Rm (n0:Nat) (q:RP) (x:Yg) (mark:Int):Nat->Value->World->Prop
 |0,v,_=>v=.pointer (some ⟨q.k,0,none⟩)
 |1,v,_=>v=.pointer (some ⟨q.k,0,none⟩)
 |2,v,_=>v=.pointer (some ⟨q.k,7,none⟩)
 |3,v,_=>v=.int .i64 x.tag
 |4,v,_=>v=.pointer (some ⟨q.k,0,none⟩)
 |5,v,_=>v=.pointer (some ⟨q.k,0,none⟩)
 |6,v,_=>v=.pointer (some ⟨q.k,8,none⟩)
 |7,v,_=>v=q.va
 |8,v,w=>Z8 n0 51 1 x.args.length (x.args.map (Value.float .f64)) v w
 |9,v,_=>v=.int .i64 mark
 |10,v,_=>v=.pointer (some ⟨q.k,0,none⟩)
 |11,v,_=>v=.pointer (some ⟨q.k,0,none⟩)
 |12,v,_=>v=.pointer (some ⟨q.k,6,none⟩)
 |13,v,_=>v=.pointer (some ⟨q.p.mb,0,none⟩)
 |14,v,w=>Z8 n0 53 2 x.m.reads.length (Yh x.m.reads) v w
 |15,v,_=>v=.pointer (some ⟨q.k,0,none⟩)
 |16,v,_=>v=.pointer (some ⟨q.k,0,none⟩)
 |17,v,_=>v=.pointer (some ⟨q.k,6,none⟩)
 |18,v,_=>v=.pointer (some ⟨q.p.mb,0,none⟩)
 |19,v,w=>Z8 n0 53 2 x.m.buf.order.length (Yh x.m.buf.all) v w
 |20,v,_=>v=.pointer (some ⟨q.k,0,none⟩)
 |21,v,_=>v=.pointer (some ⟨q.k,0,none⟩)
 |22,v,_=>v=.pointer (some ⟨q.k,6,none⟩)
 |23,v,_=>v=.pointer (some ⟨q.p.mb,0,none⟩)
 |24,v,w=>Z8 n0 51 1 x.m.out.length (x.m.out.map (Value.float .f64)) v w
 |25,v,_=>v=.pointer (some ⟨q.k,0,none⟩)
 |26,v,_=>v=.pointer (some ⟨q.k,0,none⟩)
 |27,v,_=>v=.pointer (some ⟨q.k,10,none⟩)
 |28,v,_=>v=.int .i64 q.st
 |29,v,w=>Jt n0 x.tag mark 0 q.st x.args x.m v w
 |30,v,w=>Q3 n0 v w
 |_,_,_=>True
theorem tripF_on (n0:Nat) (q:RP) (x:Yg) (mark:Int) (i:Nat) (v:Value) (w w':World) (h:Rm n0 q x mark i v w) (m:Ze [] w w'):Rm n0 q x mark i v w':=by
 match i,h with
 |0,h=>exact h
 |1,h=>exact h
 |2,h=>exact h
 |3,h=>exact h
 |4,h=>exact h
 |5,h=>exact h
 |6,h=>exact h
 |7,h=>exact h
 |8,h=>exact Z8.mod h m
 |9,h=>exact h
 |10,h=>exact h
 |11,h=>exact h
 |12,h=>exact h
 |13,h=>exact h
 |14,h=>exact Z8.mod h m
 |15,h=>exact h
 |16,h=>exact h
 |17,h=>exact h
 |18,h=>exact h
 |19,h=>exact Z8.mod h m
 |20,h=>exact h
 |21,h=>exact h
 |22,h=>exact h
 |23,h=>exact h
 |24,h=>exact Z8.mod h m
 |25,h=>exact h
 |26,h=>exact h
 |27,h=>exact h
 |28,h=>exact h
 |29,h=>exact Jt.mod h m
 |30,h=>exact Q3.mod h m
 |i+31,h=>trivial
theorem S2 (n0:Nat) (q:RP) (x:Yg) (mark:Int) (i:Nat) (h:31<=i) (v:Value) (w:World):Rm n0 q x mark i v w:=by
 match i,h with
 |j+31,_=>trivial
variable {w w' w0 w1 w2:World} {p p':MP} {q q':RP} {x x':Yg} {m:Zl} {a b:Nat} {s s':Zh} {S:List Nat} {r r':Y1}
theorem Rn (h:Z9 w q x) (ok:Yl x.m) (hal:x.args.length<=4096) (mark:Int):Calls Tryz.prog 235 #[.pointer (some ⟨q.k,0,none⟩),.int .i64 mark] w (J9 w {x.told with mark:=mark}):=by
 have HR0:=Zh_ (λ (wx:World) (D:Ze [] w wx)=>h.mod D (by simp));have HRD:=Zh_ (λ (w1 wx:World) (m1:Ze [] w w1) (hR:Ze [] w1.drew wx)=>h.mod ((m1.drew).trans hR) (by simp));have ZD:=Zh_ (heap_alloc_new w (.cells Ya 50));have HN:=Zh_ (show w.heap.size < (w.alloc (.cells Ya 50)).heap.size by simp);have m1:Ze [] w (w.alloc (.cells Ya 50)):=(Zr_ _ _).alloc _;clear h;go_enter func235,ntmps235;go_upto_region 1 with fail;change Code.wp _ _ _ _ (w.alloc (.cells Ya 50));generalize w.alloc (.cells Ya 50)=w1 at *
 have M1:=Zh_ m1;have ZD1:=ZD;replace HRD:=Zh_ (λ (wx:World) (hR:Ze [] w1.drew wx)=>HRD.out w1 wx M1.out hR);obtain ⟨n0,hq0⟩:∃ n,n=w1.heap.size:=⟨_,rfl⟩;have hn0:n0<=w1.drew.heap.size:=Nat.le_of_eq hq0;replace HN:=Zh_ (show w.heap.size < n0 by rw [hq0];exact HN.out);clear m1 hq0
 go_cut [5] (λ A wx=>L7 n0 x.tag mark 0 q.st x.args x.m A wx/\Ze [] w wx/\wx.heap[w.heap.size]? =some (.cells Ya 50 (0,0)))
 case first=>
  refine Yt (by kernel_rfl) 31 (by rfl) (λ x y=>Ze [] x y) (Rm n0 q x mark) (by kernel_rfl) (by rfl) (by kernel_rfl) (tripF_on n0 q x mark) (λ a=>Zr_ _ _) (λ a b c h k=>h.trans k) ?_ ?_ ?_
  ·exact λ i v w' hv o ho hd=>Vb (m:=31) (by kernel_rfl) (S2 n0 q x mark) ho hd
  ·intro i o hi ho
   match i,hi with
   |0,_=>
    obtain rfl:=Zo_ ho;intro a wx hR hF hO;have f0:a.eval (.tmp 0)=.pointer (some ⟨q.k,0,none⟩):=hO 0 (by kernel_rfl) (Zm (by kernel_rfl));have e0:=Tv_ f0;clear hF hO;go_simp;exact ⟨Zr_ _ _,rfl⟩
   |1,_=>
    obtain rfl:=Zo_ ho;intro a wx hR hF hO;have f6:a.eval (.tmp 6)=.pointer (some ⟨q.k,0,none⟩):=hF 6 0 _ (by kernel_rfl) rfl rfl;have e6:=Tv_ f6;clear hF hO;go_simp;exact ⟨Zr_ _ _,rfl⟩
   |2,_=>
    obtain rfl:=Zo_ ho;intro a wx hR hF hO;have f7:a.eval (.tmp 7)=.pointer (some ⟨q.k,0,none⟩):=hF 7 1 _ (by kernel_rfl) rfl rfl;have e7:=Tv_ f7;clear hF hO;go_simp;exact ⟨Zr_ _ _,rfl⟩
   |3,_=>
    obtain rfl:=Zo_ ho;intro a wx hR hF hO;have f8:a.eval (.tmp 8)=.pointer (some ⟨q.k,7,none⟩):=hF 8 2 _ (by kernel_rfl) rfl rfl;have e8:=Tv_ f8;clear hF hO;have c0:=((HRD.out wx hR).cell 7 (u:=.int .i64 x.tag) rfl).1;go_simp;exact ⟨Zr_ _ _,rfl⟩
   |4,_=>
    obtain rfl:=Zo_ ho;intro a wx hR hF hO;have f0:a.eval (.tmp 0)=.pointer (some ⟨q.k,0,none⟩):=hO 0 (by kernel_rfl) (Zm (by kernel_rfl));have e0:=Tv_ f0;clear hF hO;go_simp;exact ⟨Zr_ _ _,rfl⟩
   |5,_=>
    obtain rfl:=Zo_ ho;intro a wx hR hF hO;have f10:a.eval (.tmp 10)=.pointer (some ⟨q.k,0,none⟩):=hF 10 4 _ (by kernel_rfl) rfl rfl;have e10:=Tv_ f10;clear hF hO;go_simp;exact ⟨Zr_ _ _,rfl⟩
   |6,_=>
    obtain rfl:=Zo_ ho;intro a wx hR hF hO;have f11:a.eval (.tmp 11)=.pointer (some ⟨q.k,0,none⟩):=hF 11 5 _ (by kernel_rfl) rfl rfl;have e11:=Tv_ f11;clear hF hO;go_simp;exact ⟨Zr_ _ _,rfl⟩
   |7,_=>
    obtain rfl:=Zo_ ho;intro a wx hR hF hO;have f12:a.eval (.tmp 12)=.pointer (some ⟨q.k,8,none⟩):=hF 12 6 _ (by kernel_rfl) rfl rfl;have e12:=Tv_ f12;clear hF hO;have c0:=((HRD.out wx hR).cell 8 (u:=q.va) rfl).1;go_simp;exact ⟨Zr_ _ _,rfl⟩
   |8,_=>
    obtain rfl:=Zo_ ho;intro a wx hR hF hO;have f13:a.eval (.tmp 13)=q.va:=hF 13 7 _ (by kernel_rfl) rfl rfl;have e13:=Tv_ f13;clear hF hO;rcases (HRD.out wx hR).args.2 with ⟨hv,h0⟩|⟨g,cap,cur,hv,-,-⟩
    ·rw [hv] at e13;clear f13;go_simp;have h00:x.args=[]:=List.eq_nil_of_length_eq_zero h0;exact ⟨Zr_ _ _,by rw [h00];exact World.ownsRow_nil _ _ _ _,by simp [Value.ownBlock]⟩
    ·have ho:=(HRD.out wx hR).args;rw [hv] at ho;rw [hv] at f13;clear e13;have hcs:=ho.cells (g:=g) rfl;obtain ⟨i0,hi0,hz0,hz1,hz2⟩:=info_parts Ui;refine Xh _ _ 24 rfl 0 51 i0 (.float .f64 0) 1 8 underlying24 hi0 hz0 hz1 hz2 rfl (by decide) (.slice none 0 0) 0 [] rfl (World.ownsRow_nil _ _ _ _) ⟨g,0,none⟩ x.args.length cap (x.args.map (Value.float .f64)) f13 (by simp) hcs (by intro u hu;simp at hu;obtain ⟨a,_,rfl⟩:=hu;rfl) (by unfold maxLen;omega) (by omega) (Nat.zero_le _) ?_;intro v' w' h2 h3 h5;have hc:=Qv.of (t:=51) (z:=1) (by simpa using h2) h3 h5;obtain ⟨u,hu,hm,hr⟩:=Z8.copied hc (Nat.le_trans hn0 hR.size);obtain rfl:=Ending.returned.inj hu;exact ⟨hm,hr⟩
   |9,_=>
    obtain rfl:=Zo_ ho;intro a wx hR hF hO;have f1:a.eval (.tmp 1)=.int .i64 mark:=hO 1 (by kernel_rfl) (Zm (by kernel_rfl));have e1:=Tv_ f1;clear hF hO;go_simp;exact ⟨Zr_ _ _,rfl⟩
   |10,_=>
    obtain rfl:=Zo_ ho;intro a wx hR hF hO;have f0:a.eval (.tmp 0)=.pointer (some ⟨q.k,0,none⟩):=hO 0 (by kernel_rfl) (Zm (by kernel_rfl));have e0:=Tv_ f0;clear hF hO;go_simp;exact ⟨Zr_ _ _,rfl⟩
   |11,_=>
    obtain rfl:=Zo_ ho;intro a wx hR hF hO;have f16:a.eval (.tmp 16)=.pointer (some ⟨q.k,0,none⟩):=hF 16 10 _ (by kernel_rfl) rfl rfl;have e16:=Tv_ f16;clear hF hO;go_simp;exact ⟨Zr_ _ _,rfl⟩
   |12,_=>
    obtain rfl:=Zo_ ho;intro a wx hR hF hO;have f17:a.eval (.tmp 17)=.pointer (some ⟨q.k,0,none⟩):=hF 17 11 _ (by kernel_rfl) rfl rfl;have e17:=Tv_ f17;clear hF hO;go_simp;exact ⟨Zr_ _ _,rfl⟩
   |13,_=>
    obtain rfl:=Zo_ ho;intro a wx hR hF hO;have f18:a.eval (.tmp 18)=.pointer (some ⟨q.k,6,none⟩):=hF 18 12 _ (by kernel_rfl) rfl rfl;have e18:=Tv_ f18;clear hF hO;have c0:=((HRD.out wx hR).cell 6 (u:=.pointer (some ⟨q.p.mb,0,none⟩)) rfl).1;go_simp;exact ⟨Zr_ _ _,rfl⟩
   |14,_=>
    obtain rfl:=Zo_ ho;intro a wx hR hF hO;have f19:a.eval (.tmp 19)=.pointer (some ⟨q.p.mb,0,none⟩):=hF 19 13 _ (by kernel_rfl) rfl rfl;have e19:=Tv_ f19;clear hF hO;go_simp;refine Calls.mono (Rt (HRD.out wx hR).mach (Gz ok)) ?_;rintro e w' hc;obtain ⟨u,rfl,hm,hr⟩:=Z8.copied hc (Nat.le_trans hn0 hR.size);exact ⟨u,rfl,hm,hr⟩
   |15,_=>
    obtain rfl:=Zo_ ho;intro a wx hR hF hO;have f0:a.eval (.tmp 0)=.pointer (some ⟨q.k,0,none⟩):=hO 0 (by kernel_rfl) (Zm (by kernel_rfl));have e0:=Tv_ f0;clear hF hO;go_simp;exact ⟨Zr_ _ _,rfl⟩
   |16,_=>
    obtain rfl:=Zo_ ho;intro a wx hR hF hO;have f21:a.eval (.tmp 21)=.pointer (some ⟨q.k,0,none⟩):=hF 21 15 _ (by kernel_rfl) rfl rfl;have e21:=Tv_ f21;clear hF hO;go_simp;exact ⟨Zr_ _ _,rfl⟩
   |17,_=>
    obtain rfl:=Zo_ ho;intro a wx hR hF hO;have f22:a.eval (.tmp 22)=.pointer (some ⟨q.k,0,none⟩):=hF 22 16 _ (by kernel_rfl) rfl rfl;have e22:=Tv_ f22;clear hF hO;go_simp;exact ⟨Zr_ _ _,rfl⟩
   |18,_=>
    obtain rfl:=Zo_ ho;intro a wx hR hF hO;have f23:a.eval (.tmp 23)=.pointer (some ⟨q.k,6,none⟩):=hF 23 17 _ (by kernel_rfl) rfl rfl;have e23:=Tv_ f23;clear hF hO;have c0:=((HRD.out wx hR).cell 6 (u:=.pointer (some ⟨q.p.mb,0,none⟩)) rfl).1;go_simp;exact ⟨Zr_ _ _,rfl⟩
   |19,_=>
    obtain rfl:=Zo_ ho;intro a wx hR hF hO;have f24:a.eval (.tmp 24)=.pointer (some ⟨q.p.mb,0,none⟩):=hF 24 18 _ (by kernel_rfl) rfl rfl;have e24:=Tv_ f24;clear hF hO;go_simp;refine Calls.mono (Hy (HRD.out wx hR).mach ok.order) ?_;rintro e w' hc;obtain ⟨u,rfl,hm,hr⟩:=Z8.copied hc (Nat.le_trans hn0 hR.size);exact ⟨u,rfl,hm,hr⟩
   |20,_=>
    obtain rfl:=Zo_ ho;intro a wx hR hF hO;have f0:a.eval (.tmp 0)=.pointer (some ⟨q.k,0,none⟩):=hO 0 (by kernel_rfl) (Zm (by kernel_rfl));have e0:=Tv_ f0;clear hF hO;go_simp;exact ⟨Zr_ _ _,rfl⟩
   |21,_=>
    obtain rfl:=Zo_ ho;intro a wx hR hF hO;have f26:a.eval (.tmp 26)=.pointer (some ⟨q.k,0,none⟩):=hF 26 20 _ (by kernel_rfl) rfl rfl;have e26:=Tv_ f26;clear hF hO;go_simp;exact ⟨Zr_ _ _,rfl⟩
   |22,_=>
    obtain rfl:=Zo_ ho;intro a wx hR hF hO;have f27:a.eval (.tmp 27)=.pointer (some ⟨q.k,0,none⟩):=hF 27 21 _ (by kernel_rfl) rfl rfl;have e27:=Tv_ f27;clear hF hO;go_simp;exact ⟨Zr_ _ _,rfl⟩
   |23,_=>
    obtain rfl:=Zo_ ho;intro a wx hR hF hO;have f28:a.eval (.tmp 28)=.pointer (some ⟨q.k,6,none⟩):=hF 28 22 _ (by kernel_rfl) rfl rfl;have e28:=Tv_ f28;clear hF hO;have c0:=((HRD.out wx hR).cell 6 (u:=.pointer (some ⟨q.p.mb,0,none⟩)) rfl).1;go_simp;exact ⟨Zr_ _ _,rfl⟩
   |24,_=>
    obtain rfl:=Zo_ ho;intro a wx hR hF hO;have f29:a.eval (.tmp 29)=.pointer (some ⟨q.p.mb,0,none⟩):=hF 29 23 _ (by kernel_rfl) rfl rfl;have e29:=Tv_ f29;clear hF hO;go_simp;refine Calls.mono (out_c (HRD.out wx hR).mach (out_le ok)) ?_;rintro e w' hc;obtain ⟨u,rfl,hm,hr⟩:=Z8.copied hc (Nat.le_trans hn0 hR.size);exact ⟨u,rfl,hm,hr⟩
   |25,_=>
    obtain rfl:=Zo_ ho;intro a wx hR hF hO;have f0:a.eval (.tmp 0)=.pointer (some ⟨q.k,0,none⟩):=hO 0 (by kernel_rfl) (Zm (by kernel_rfl));have e0:=Tv_ f0;clear hF hO;go_simp;exact ⟨Zr_ _ _,rfl⟩
   |26,_=>
    obtain rfl:=Zo_ ho;intro a wx hR hF hO;have f31:a.eval (.tmp 31)=.pointer (some ⟨q.k,0,none⟩):=hF 31 25 _ (by kernel_rfl) rfl rfl;have e31:=Tv_ f31;clear hF hO;go_simp;exact ⟨Zr_ _ _,rfl⟩
   |27,_=>
    obtain rfl:=Zo_ ho;intro a wx hR hF hO;have f32:a.eval (.tmp 32)=.pointer (some ⟨q.k,0,none⟩):=hF 32 26 _ (by kernel_rfl) rfl rfl;have e32:=Tv_ f32;clear hF hO;go_simp;exact ⟨Zr_ _ _,rfl⟩
   |28,_=>
    obtain rfl:=Zo_ ho;intro a wx hR hF hO;have f33:a.eval (.tmp 33)=.pointer (some ⟨q.k,10,none⟩):=hF 33 27 _ (by kernel_rfl) rfl rfl;have e33:=Tv_ f33;clear hF hO;have c0:=((HRD.out wx hR).cell 10 (u:=.int .i64 q.st) rfl).1;go_simp;exact ⟨Zr_ _ _,rfl⟩
   |29,_=>
    obtain rfl:=Zo_ ho;intro a wx hR hF hO;have f9:a.eval (.tmp 9)=.int .i64 x.tag:=hF 9 3 _ (by kernel_rfl) rfl rfl;have e9:=Tv_ f9;have e14:Z8 n0 51 1 x.args.length (x.args.map (Value.float .f64)) (a.eval (.tmp 14)) wx:=hF 14 8 _ (by kernel_rfl) rfl rfl;have f15:a.eval (.tmp 15)=.int .i64 mark:=hF 15 9 _ (by kernel_rfl) rfl rfl;have e15:=Tv_ f15;have e20:Z8 n0 53 2 x.m.reads.length (Yh x.m.reads) (a.eval (.tmp 20)) wx:=hF 20 14 _ (by kernel_rfl) rfl rfl;have e25:Z8 n0 53 2 x.m.buf.order.length (Yh x.m.buf.all) (a.eval (.tmp 25)) wx:=hF 25 19 _ (by kernel_rfl) rfl rfl;have e30:Z8 n0 51 1 x.m.out.length (x.m.out.map (Value.float .f64)) (a.eval (.tmp 30)) wx:=hF 30 24 _ (by kernel_rfl) rfl rfl;have f34:a.eval (.tmp 34)=.int .i64 q.st:=hF 34 28 _ (by kernel_rfl) rfl rfl;have e34:=Tv_ f34;clear hF hO;rw [show a.eval (.tmp 14)=a.tmps[14]?.getD undef by simp [Act.eval]] at e14;have r14:=Zh_ e14;obtain ⟨b14,k14,q14⟩:=Zo e14.1;rw [show a.eval (.tmp 20)=a.tmps[20]?.getD undef by simp [Act.eval]] at e20;have r20:=Zh_ e20;obtain ⟨b20,k20,q20⟩:=Zo e20.1;rw [show a.eval (.tmp 25)=a.tmps[25]?.getD undef by simp [Act.eval]] at e25;have r25:=Zh_ e25;obtain ⟨b25,k25,q25⟩:=Zo e25.1;rw [show a.eval (.tmp 30)=a.tmps[30]?.getD undef by simp [Act.eval]] at e30;have r30:=Zh_ e30;obtain ⟨b30,k30,q30⟩:=Zo e30.1;clear e14 e20 e25 e30;go_simp;exact ⟨Zr_ _ _,_,_,_,_,rfl,by have:=r14.out;rw [q14] at this;exact this,by have:=r20.out;rw [q20] at this;exact this,by have:=r25.out;rw [q25] at this;exact this,by have:=r30.out;rw [q30] at this;exact this⟩
   |30,_=>
    obtain rfl:=Zo_ ho;intro a wx hR hF hO;clear hF hO;go_simp;exact ⟨(Zr_ _ _).alloc _,_,rfl,heap_alloc_new _ _,Nat.le_trans hn0 hR.size⟩
   |j+31,hh=>omega
  ·intro vs w2 hR hv;obtain ⟨g5,e5,k5,hg5⟩:Q3 n0 (vs 30) w2:=hv 30 (by decide);obtain ⟨va,vr,vw,vo,e35,ra,rr,rw',ro⟩:Jt n0 x.tag mark 0 q.st x.args x.m (vs 29) w2:=hv 29 (by decide);obtain ⟨ba,ka,qa⟩:=Zo ra.1;obtain ⟨br,kr,qr⟩:=Zo rr.1;obtain ⟨bw,kw,qw⟩:=Zo rw'.1;obtain ⟨bo,ko,qo⟩:=Zo ro.1;have FIN:=Zh_ (Tp (tag:=x.tag) (mark:=mark) (num:=0) (st:=q.st) M1.out hR (Nat.le_of_lt HN.out) k5 hg5 ra rr rw' ro);have K5:=Zh_ k5;have M2:=Zh_ ((Zr_ [] w1).drew.trans hR);have NEg:=Zh_ (show w.heap.size≠g5 from λ e=>by have:=HN.out;omega);have ONE:=Zh_ (Pu (tag:=x.tag) (mark:=mark) (num:=0) (st:=q.st) (Y7 ra.1) (Y7 rr.1) (Y7 rw'.1) (Y7 ro.1));clear hg5 ra rr rw' ro hR k5 qa qr qw qo;simp only [Xb,List.take_succ_cons,List.take_zero,Act.put,e5,e35];go_simp;refine wpList_store_row rfl 50 _ _ rfl g5 (U2 x.tag mark 0 q.st va vr vw vo) rfl rfl 50 Ya K5.out (by kernel_rfl) rfl ONE.out ?_;go_wp2_with fail;go_meet;exact ⟨FIN.out.1,FIN.out.2,(setRow_other _ _ _ _ NEg.out).trans ((M2.out).at ZD1.out (by simp))⟩
 case rest=>
  obtain ⟨⟨g5,va,vr,vw,vo,rfl,K5,hg5,ra,rr,rw',ro⟩,mc,z6⟩:=hcut;have Z6:=Zh_ z6;obtain ⟨ba,ka,qa⟩:=Zo ra.1;obtain ⟨br,kr,qr⟩:=Zo rr.1;obtain ⟨bw,kw,qw⟩:=Zo rw'.1;obtain ⟨bo,ko,qo⟩:=Zo ro.1;have NE:=Zh_ (show g5≠w.heap.size from λ e=>by have:=HN.out;omega);have ONE:=Zh_ (λ (a b c:Int)=>Bj (tag:=x.tag) (mark:=mark) (num:=0) (st:=q.st) (a:=a) (b:=b) (c:=c) (Y7 ra.1) (Y7 rr.1) (Y7 rw'.1) (Y7 ro.1));have RA:=Zh_ ra;have RR:=Zh_ rr;have RW:=Zh_ rw';have RO:=Zh_ ro;have HG:=Zh_ hg5;have KD:=Zh_ K5;have MC:=Zh_ mc;clear K5 hg5 ra rr rw' ro mc qa qr qw qo z6
  by_cases hp:x.part=4
  ·have d4:(x.part==4)=true:=by simp [hp]
   have HRc:=HR0.out _ MC.out;have c9:=(HRc.cell 9 (u:=.int .i64 x.part) rfl).1;have c6:=(HRc.cell 6 (u:=.pointer (some ⟨q.p.mb,0,none⟩)) rfl).1;have hlt:=lt_of_block HRc.hd;have hc:=end_c HRc.mach;have HRC:=Zh_ HRc;clear HRc;go_wp2_with fail;refine hc.mono ?_;rintro e w5 ⟨rfl,m5⟩;have KD5:=m5.at KD.out (by simp);have b10:=Za (i:=10) KD5 rfl;have b11:=Za (i:=11) KD5 rfl;have b12:=Za (i:=12) KD5 rfl;have y10:=Zb (i:=10) KD5;have y11:=Zb (i:=11) KD5;have y12:=Zb (i:=12) KD5;have l5:=lt_of_block KD5;have mm5:Ze [g5] w5 (((w5.setCell ⟨g5,10,none⟩ (.int .i64 x.m.how)).setCell ⟨g5,11,none⟩ (.int .i64 x.m.ecode)).setCell ⟨g5,12,none⟩ (.int .i64 x.m.eerr)):=(((Zr_ _ _).set_own _ _).set_own _ _).set_own _ _;have K6:=Zh_ (show (((w5.setCell ⟨g5,10,none⟩ (.int .i64 x.m.how)).setCell ⟨g5,11,none⟩ (.int .i64 x.m.ecode)).setCell ⟨g5,12,none⟩ (.int .i64 x.m.eerr)).heap[g5]? =some (.cells (Qe x.tag mark 0 q.st x.m.how x.m.ecode x.m.eerr va vr vw vo) 50 (0,0)) from Zd _ (Zd _ (Zd _ KD5)));have RA6:=Zh_ ((RA.out.mod m5).far KD5 (by decide) mm5);have RR6:=Zh_ ((RR.out.mod m5).far KD5 (by decide) mm5);have RW6:=Zh_ ((RW.out.mod m5).far KD5 (by decide) mm5);have RO6:=Zh_ ((RO.out.mod m5).far KD5 (by decide) mm5);have Z6':=mm5.at (m5.at Z6.out (by simp)) (by have:=NE.out;simp;omega);have M6:=Zh_ ((MC.out.trans m5).then mm5 (λ k hk=>.inr (by have:=HN.out;have:=HG.out;simp at hk;omega)));clear Z6;have Z6:=Zh_ Z6';clear Z6' mm5 KD5 m5 hc c9 c6;go_upto_region 4 with fail;refine wp_region_lit ?_;refine wpList_load_row rfl 50 _ rfl g5 rfl 50 (Qe x.tag mark 0 q.st x.m.how x.m.ecode x.m.eerr va vr vw vo) (0,0) _ K6.out underlying50 rfl (by kernel_rfl) ?_;refine wpList_store_row rfl 50 _ _ rfl w.heap.size (Qe x.tag mark 0 q.st x.m.how x.m.ecode x.m.eerr va vr vw vo) rfl rfl 50 Ya Z6.out (by kernel_rfl) rfl (ONE.out _ _ _) ?_;generalize (((w5.setCell ⟨g5,10,none⟩ (.int .i64 x.m.how)).setCell ⟨g5,11,none⟩ (.int .i64 x.m.ecode)).setCell ⟨g5,12,none⟩ (.int .i64 x.m.eerr))=w6 at *
   go_wp2_with fail;refine bodyPost_ret (v:=.agg (Qe x.tag mark 0 q.st x.m.how x.m.ecode x.m.eerr va vr vw vo)) (results_cell_row (P:=Tryz.prog) (fn:=Tryz.f235) (p:=4) (ty:=50) rfl _ _ w.heap.size 50 _ (0,0) _ rfl (Y0 Z6.out) underlying50 rfl (by kernel_rfl)) rfl ?_;have mm:Ze [w.heap.size] w6 (w6.setRow w.heap.size (Qe x.tag mark 0 q.st x.m.how x.m.ecode x.m.eerr va vr vw vo)):=(Zr_ _ _).setRow _ _ (.inl (by simp));have le:=Nat.le_of_lt HN.out;have ht:({x.told with mark:=mark}:Zv)=⟨0,0,0,x.tag,x.args,mark,0,x.m.reads,x.m.buf.all,x.m.out,x.m.how,x.m.ecode,x.m.eerr,0,0⟩:=by unfold Yg.told;simp [hp]
   rw [ht];exact ⟨_,_,_,_,_,rfl,(RA6.out.weak le).far Z6.out (by decide) mm,(RR6.out.weak le).far Z6.out (by decide) mm,(RW6.out.weak le).far Z6.out (by decide) mm,(RO6.out.weak le).far Z6.out (by decide) mm,M6.out.then mm (λ k hk=>.inr (by simp at hk;omega))⟩
  ·have d4:(x.part==4)=false:=by simp [hp]
   have c9:=((HR0.out _ MC.out).cell 9 (u:=.int .i64 x.part) rfl).1;have hlt:=lt_of_block (HR0.out _ MC.out).hd;have K6:=Zh_ (show wc.heap[g5]? =some (.cells (Qe x.tag mark 0 q.st 0 0 0 va vr vw vo) 50 (0,0)) from KD.out);go_upto_region 4 with fail;refine wp_region_lit ?_;refine wpList_load_row rfl 50 _ rfl g5 rfl 50 (Qe x.tag mark 0 q.st 0 0 0 va vr vw vo) (0,0) _ K6.out underlying50 rfl (by kernel_rfl) ?_;refine wpList_store_row rfl 50 _ _ rfl w.heap.size (Qe x.tag mark 0 q.st 0 0 0 va vr vw vo) rfl rfl 50 Ya Z6.out (by kernel_rfl) rfl (ONE.out _ _ _) ?_;have RA6:=RA;have RR6:=RR;have RW6:=RW;have RO6:=RO;have M6:=MC;go_wp2_with fail;refine bodyPost_ret (v:=.agg (Qe x.tag mark 0 q.st 0 0 0 va vr vw vo)) (results_cell_row (P:=Tryz.prog) (fn:=Tryz.f235) (p:=4) (ty:=50) rfl _ _ w.heap.size 50 _ (0,0) _ rfl (Y0 Z6.out) underlying50 rfl (by kernel_rfl)) rfl ?_;have mm:Ze [w.heap.size] wc (wc.setRow w.heap.size (Qe x.tag mark 0 q.st 0 0 0 va vr vw vo)):=(Zr_ _ _).setRow _ _ (.inl (by simp));have le:=Nat.le_of_lt HN.out;have ht:({x.told with mark:=mark}:Zv)=⟨0,0,0,x.tag,x.args,mark,0,x.m.reads,x.m.buf.all,x.m.out,0,0,0,0,0⟩:=by unfold Yg.told;simp [hp]
   rw [ht];exact ⟨_,_,_,_,_,rfl,(RA6.out.weak le).far Z6.out (by decide) mm,(RR6.out.weak le).far Z6.out (by decide) mm,(RW6.out.weak le).far Z6.out (by decide) mm,(RO6.out.weak le).far Z6.out (by decide) mm,M6.out.then mm (λ k hk=>.inr (by simp at hk;omega))⟩
end
end Go.Proofs.YtkhonmhnchdpkaaGreat

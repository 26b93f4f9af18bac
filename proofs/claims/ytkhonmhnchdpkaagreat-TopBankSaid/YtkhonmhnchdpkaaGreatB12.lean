/- A part of the proof; no condition. -/
import Derived.Test.YtkhonmhnchdpkaaGreatB11
import Derived.Orders
import Derived.Still
set_option maxRecDepth 100000
set_option maxHeartbeats 40000000
namespace Go.Proofs.YtkhonmhnchdpkaaGreat
open Go.RowKit _root_.Go.Proofs.Tryz
open Go renaming World→W
open Value renaming int→U,pointer→E,slice→L,float→Z
open IntKind renaming i64→Y
open FloatKind renaming f64→V
open Option renaming some→I,none→O
open Ending renaming returned→R_
open _root_.Go.Proofs.Tryz renaming prog→N
section
def J4 (P:Program) (K:Value->W->Prop):Result Next->Prop
 |.ok (.value v) w'=>K v w'
 |.ok .skip w'=>K undef w'
 |.ok (.enter f args) w'=>Calls P f args w' λ e w''=>∃ v,e=R_ v/\K v w''
 |_=>False
def Yx (a:Act) (vs:Nat->Value):List Oper->Nat->Act
 |[],_=>a
 |o :: l,i=>Yx (a.put o.dst (vs i)) vs l (i+1)
def Vk (o:Oper) (j:Nat):Bool:=o.after.any λ e=>e.on==j&&Region.binds .any e
def opOk (ops:Array Oper) (n:Nat) (i:Nat) (o:Oper):Bool:=
 o.guard.isNone&&o.after.all (λ e=>!Region.binds .any e || decide (e.on < i))&&(match o.dst with|none=>true|some d=>decide (d < n))&&
 (List.range ops.size).all λ j=>match ops[j]? with
  |none=>true
  |some oj=>match oj.dst with
   |none=>true
   |some d=>(i==j || o.dst !=I d)&&(!(o.looksAt ops).contains d || Vk o j)
def U6 (ops:Array Oper) (n:Nat):Bool:=Region.noSelect ops&&(List.range ops.size).all λ i=>match ops[i]? with|none=>true|some o=>opOk ops n i o
section
variable {P:Program} {ops:Array Oper} {n i m:Nat} {o:Oper} {a0:Act} {R:W->W->Prop} {wd:W} {F:Nat->Value->W->Prop}
def OpS (P:Program) (ops:Array Oper) (a0:Act) (R:W->W->Prop) (wd:W) (F:Nat->Value->W->Prop) (i:Nat) (o:Oper):Prop:=
 ∀ (a:Act) (wx:W),R wd wx->
  (∀ (t j:Nat) (oj:Oper),(o.looksAt ops).contains t=true->ops[j]? =I oj->oj.dst=I t->F j (a.eval (.tmp t)) wx)->
  (∀ (t:Nat),(o.looksAt ops).contains t=true->(∀ (j:Nat) (oj:Oper),ops[j]? =I oj->oj.dst≠I t)->a.eval (.tmp t)=a0.eval (.tmp t))->
  J4 P (λ v w'=>R wx w'/\F i v w') ((execOp a.eval o).run P wx)
structure Inv (ops:Array Oper) (a0:Act) (R:W->W->Prop) (wd:W) (F:Nat->Value->W->Prop) (listed:Array Bool) (a:Act) (wx:W):Prop where
 sz:listed.size=ops.size
 cls:R wd wx
 og:a.defers=a0.defers
 yb:a.tmps.size=a0.tmps.size
 out:∀ (k:Nat),(∀ (j:Nat) (oj:Oper),ops[j]? =I oj->oj.dst=I k->listed.getD j true=false)->a.tmps.getD k undef=a0.tmps.getD k undef
 oe:∀ (j:Nat) (oj:Oper),ops[j]? =I oj->listed.getD j false=true->∀ e∈oj.after,Region.binds .any e=true->listed.getD e.on false=true
 ub:∀ (j:Nat) (oj:Oper),ops[j]? =I oj->listed.getD j false=true->match oj.dst with|none=>F j undef wx|some d=>F j (a.tmps.getD d undef) wx
theorem Vv (h:U6 ops n=true) (hi:ops[i]? =I o):opOk ops n i o=true:=by
 unfold U6 at h;rw [Bool.and_eq_true,List.all_eq_true] at h;have:=h.2 i (by rw [List.mem_range];exact (Array.getElem?_eq_some_iff.1 hi).1);simpa [hi] using this
structure OpFacts (ops:Array Oper) (n:Nat) (i:Nat) (o:Oper):Prop where
 g:o.guard=O
 back:∀ e∈o.after,Region.binds .any e=true->e.on < i
 dn:∀ d,o.dst=I d->d < n
 wg:∀ (j:Nat) (oj:Oper) (d:Nat),ops[j]? =I oj->oj.dst=I d->i≠j->o.dst≠I d
 look:∀ (j:Nat) (oj:Oper) (d:Nat),ops[j]? =I oj->oj.dst=I d->(o.looksAt ops).contains d=true->∃ e∈o.after,e.on=j/\Region.binds .any e=true
theorem Qq9 (h:opOk ops n i o=true):OpFacts ops n i o:=by
 unfold opOk at h;simp only [Bool.and_eq_true,Array.all_eq_true,List.all_eq_true,List.mem_range] at h;obtain ⟨⟨⟨h1,h2⟩,h3⟩,h4⟩:=h;refine ⟨by simpa using h1,λ e he hbe=>?_,λ d hd=>?_,λ j oj d hj hd hne=>?_,λ j oj d hj hd hl=>?_⟩
 ·obtain ⟨k,hk,rfl⟩:=Array.mem_iff_getElem.1 he;have:=h2 k hk;rw [hbe] at this;simpa using this
 ·rw [hd] at h3;simpa using h3
 ·have:=h4 j (Array.getElem?_eq_some_iff.1 hj).1;rw [hj] at this;simp only [hd,Bool.and_eq_true,Bool.or_eq_true,beq_iff_eq,bne_iff_ne] at this;exact this.1.resolve_left hne
 ·have:=h4 j (Array.getElem?_eq_some_iff.1 hj).1;rw [hj] at this;simp only [hd,Bool.and_eq_true,Bool.or_eq_true,Bool.not_eq_true'] at this;have h5:=this.2.resolve_left (by rw [hl];decide);unfold Vk at h5;rw [Array.any_eq_true] at h5;obtain ⟨k,hk,h6⟩:=h5;simp only [Bool.and_eq_true,beq_iff_eq] at h6;exact ⟨_,Array.getElem_mem hk,h6.1,h6.2⟩
theorem Act.jm (a:Act) (t:Nat):a.eval (.tmp t)=a.tmps.getD t undef:=J
theorem Q5 (a:Act) (d:Option Tmp) (v:Value) (k:Nat):(a.put d v).tmps.getD k undef=if d=I k/\k < a.tmps.size then v else a.tmps.getD k undef:=by
 cases d with
 |none=>simp [Act.put]
 |some d=>
  simp only [Act.put,Array.getD_eq_getD_getElem?,Array.getElem?_setIfInBounds,Option.some.injEq]
  by_cases h:d=k
  ·subst h
   by_cases h2:d < a.tmps.size <;> simp [h2]
  ·simp [h]
theorem Ga (a:Act) (d:Option Tmp) (v:Value):(a.put d v).tmps.size=a.tmps.size:=by cases d <;> simp [Act.put]
theorem Ke (a:Act) (d:Option Tmp) (v:Value):(a.put d v).defers=a.defers:=by cases d <;> rfl
theorem Kj (hreg:U6 ops a0.tmps.size=true) {listed:Array Bool} (hs:listed.size=ops.size) (hr:Region.ready .any ops listed=[]):∀ j,j < ops.size->listed.getD j false=true:=by
 intro j
 induction j using Nat.strongRecOn with
 |_ j ih=>
  intro hj;have hoj:ops[j]? =I ops[j]:=by simp [hj]
  have fi:=Qq9 (Vv hreg hoj)
  by_cases hl:listed.getD j true=false
  ·exfalso;have:j∈Region.ready .any ops listed:=mem_ready.2 ⟨hl,_,hoj,λ e he hb=>ih e.on (fi.back e he hb) (Nat.lt_trans (fi.back e he hb) hj)⟩;rw [hr] at this;cases this
  ·have:j < listed.size:=by omega
   simp [this] at hl ⊢
   exact hl
def H4 (ops:Array Oper) (m:Nat):Bool:=(List.range m).all λ j=>(List.range (m+1)).any λ i=>match ops[i]? with|none=>false|some o=>decide (j < i)&&Vk o j
theorem L7 (h:H4 ops m=true) (j:Nat) (hj:j < m):∃ (k:Nat) (ok:Oper),ops[k]? =I ok/\j < k/\k<=m/\Vk ok j=true:=by
 unfold H4 at h;rw [List.all_eq_true] at h;have:=h j (List.mem_range.2 hj);rw [List.any_eq_true] at this;obtain ⟨k,hk,he⟩:=this;cases ho:ops[k]? with
 |none=>rw [ho] at he;cases he
 |some ok=>
  rw [ho] at he;simp only [Bool.and_eq_true,decide_eq_true_eq] at he;exact ⟨k,ok,ho,he.1,by have:=List.mem_range.1 hk;omega,he.2⟩
theorem Ny {listed:Array Bool} (hs:listed.size=ops.size) (hsz:ops.size=m+1) (h:∀ j,j < m->listed.getD j false=true):Region.ready .any ops (listed.setIfInBounds m true)=[]:=by
 rw [List.eq_nil_iff_forall_not_mem];intro j hj;obtain ⟨hl,o,ho,_⟩:=mem_ready.1 hj;have hlt:=(Array.getElem?_eq_some_iff.1 ho).1
 by_cases hm:m=j
 ·subst hm;simp [hs,hlt] at hl
 ·rw [getD_set_ne true hm] at hl;have:=h j (by omega);have hj':j < listed.size:=by omega
  simp [hj'] at hl this;rw [hl] at this;cases this
theorem Inv.step (hreg:U6 ops a0.tmps.size=true) (hF:∀ i v w w',F i v w->R w w'->F i v w') (htr:∀ a b c,R a b->R b c->R a c) {listed:Array Bool} {a:Act} {wx:W} (h:Inv ops a0 R wd F listed a wx) (hi:ops[i]? =I o) (hl:listed.getD i true=false) (hall:∀ e∈o.after,Region.binds .any e=true->listed.getD e.on false=true) {v:Value} {w':W} (hR:R wx w') (hv:F i v w') (hu:o.dst=O->v=undef\/F i undef w'):
  Inv ops a0 R wd F (listed.setIfInBounds i true) (a.put o.dst v) w':=by
 have fi:=Qq9 (Vv hreg hi);have hlt:i < listed.size:=by rw [h.sz];exact (Array.getElem?_eq_some_iff.1 hi).1
 refine ⟨by simpa using h.sz,htr _ _ _ h.cls hR,by rw [Ke];exact h.og,by rw [Ga];exact h.yb,λ k hk=>?_,λ j oj hj hlj e he hb=>getD_set_true (?_),λ j oj hj hlj=>?_⟩
 ·rw [Q5,Q9 (λ hh=>?_)]
  ·refine h.out k (λ j oj hj hd=>?_);have:=hk j oj hj hd
   by_cases hij:i=j
   ·subst hij;exact hl
   ·simpa [Array.getElem?_setIfInBounds,hij] using this
  ·have:=hk i o hi hh.1;simp [hlt] at this
 ·by_cases hij:i=j
  ·subst hij;rw [hi] at hj;obtain rfl:=Zo_ hj;exact hall e he hb
  ·exact h.oe j oj hj (by simpa [Array.getElem?_setIfInBounds,hij] using hlj) e he hb
 ·by_cases hij:i=j
  ·subst hij;rw [hi] at hj;obtain rfl:=Zo_ hj;cases hd:o.dst with
   |none=>
    rcases hu hd with e|e
    ·rw [<-e];exact hv
    ·exact e
   |some d=>
    show F i ((a.put (I d) v).tmps.getD d undef) w';rw [Q5,P9 ⟨rfl,by rw [h.yb];exact fi.dn d hd⟩];exact hv
  ·have hlj':listed.getD j false=true:=by simpa [Array.getElem?_setIfInBounds,hij] using hlj
   have:=h.ub j oj hj hlj';cases hd:oj.dst with
   |none=>rw [hd] at this;exact hF _ _ _ _ this hR
   |some d=>
    rw [hd] at this;show F j ((a.put o.dst v).tmps.getD d undef) w';rw [Q5,Q9 (λ hh=>fi.wg j oj d hj hd hij hh.1)];exact hF _ _ _ _ this hR
theorem Inv.run (hreg:U6 ops a0.tmps.size=true) (hF:∀ i v w w',F i v w->R w w'->F i v w') (htr:∀ a b c,R a b->R b c->R a c) {listed:Array Bool} {a:Act} {wx:W} {Q:Exit->Act->W->Prop} (hops:∀ i o,i < m->ops[i]? =I o->OpS P ops a0 R wd F i o) (h:Inv ops a0 R wd F listed a wx) (him:i < m) (hr:i∈Region.ready .any ops listed)
  {K:Act->W->Prop} (hK:∀ a' w',Inv ops a0 R wd F (listed.setIfInBounds i true) a' w'->K a' w') (hskip:∀ i v w',F i v w'->∀ o,ops[i]? =I o->o.dst=O->F i undef w'):wpOp P ops Q i K a wx:=by
 obtain ⟨hl,o,hi,hall⟩:=mem_ready.1 hr;have fi:=Qq9 (Vv hreg hi);unfold wpOp;rw [hi];simp only;rw [P9 (by unfold Region.wanted;rw [fi.g])];left;have:=hops i o him hi a wx h.cls (λ t j oj ht hj hd=>by
  obtain ⟨e,he,rfl,hb⟩:=fi.look j oj t hj hd ht;have:=h.ub e.on oj hj (hall e he hb);rw [hd] at this;exact this) (λ t _ hno=>by
  rw [Act.jm,Act.jm];exact h.out t (λ j oj hj hd=>absurd hd (hno j oj hj)))
 unfold Oper.wp;revert this;generalize (execOp a.eval o).run P wx=r;intro this;cases r with
 |halt x w'=>exact this.elim
 |ok n w'=>
  cases n with
  |value v=>exact hK _ _ (h.step hreg hF htr hi hl hall this.1 this.2 (λ hd=>.inr (hskip _ _ _ this.2 o hi hd)))
  |skip=>exact hK _ _ (h.step hreg hF htr hi hl hall this.1 this.2 (λ _=>.inl J))
  |enter f args=>
   refine Calls.mono this (λ e w'' ⟨v,he,hv⟩=>?_);subst he;exact hK _ _ (h.step hreg hF htr hi hl hall hv.1 hv.2 (λ hd=>.inr (hskip _ _ _ hv.2 o hi hd)))
  |_=>exact this.elim
theorem Inv.all (hreg:U6 ops a0.tmps.size=true) (hF:∀ i v w w',F i v w->R w w'->F i v w') (htr:∀ a b c,R a b->R b c->R a c) {Q:Exit->Act->W->Prop} (hsz:ops.size=m+1) (hcov:H4 ops m=true) (hops:∀ i o,i < m->ops[i]? =I o->OpS P ops a0 R wd F i o) (hskip:∀ i v w',F i v w'->∀ o,ops[i]? =I o->o.dst=O->F i undef w')
  (hend:∀ a w',(∀ listed,Inv ops a0 R wd F listed a w'->listed.getD m true=false->(∀ j,j < m->listed.getD j false=true)->wpList P ops Q [ops[m]!] a w')):∀ (fuel:Nat) (listed:Array Bool) (a:Act) (wx:W),listed.getD m true=false->(∀ n,n=(List.range ops.size).countP (λ i=>!listed.getD i true)->n<=fuel)->Inv ops a0 R wd F listed a wx->wpAny P .any ops Q fuel listed a wx
 |0,listed,a,wx,hlm,hn,h=>by
  exfalso;have h0:=hn _ J;have hz:(List.range ops.size).countP (λ i=>!listed.getD i true)=0:=by omega
  rw [List.countP_eq_zero] at hz;have:=hz m (by rw [List.mem_range];omega);rw [hlm] at this;simp at this
 |fuel+1,listed,a,wx,hlm,hn,h=>by
  refine ⟨λ hr=>?_,λ i hi=>?_⟩
  ·exfalso;have:=Kj hreg h.sz hr m (by omega);have hm':m < listed.size:=by rw [h.sz];omega
   have e:listed.getD m false=listed.getD m true:=by simp [hm']
   rw [e,hlm] at this;cases this
  by_cases him:i=m
  ·subst him;have hom:ops[i]? =I ops[i]!:=by simp [hsz]
   obtain ⟨hl,o,ho,hall⟩:=mem_ready.1 hi;have hc:∀ d j,j+d=i->0 < d->listed.getD j false=true:=by
    intro d
    induction d using Nat.strongRecOn with
    |_ d ih=>
     intro j hj hd;obtain ⟨k,ok,hk,hjk,hki,he⟩:=L7 hcov j (by omega);unfold Vk at he;rw [Array.any_eq_true] at he;obtain ⟨q,hq,hb⟩:=he;simp only [Bool.and_eq_true,beq_iff_eq] at hb;rw [<-hb.1]
     by_cases hki':k=i
     ·subst hki';rw [ho] at hk;obtain rfl:=Zo_ hk;exact hall _ (Array.getElem_mem hq) hb.2
     ·exact h.oe k ok hk (ih (i - k) (by omega) k (by omega) (by omega)) _ (Array.getElem_mem hq) hb.2
   have hw:=hend a wx listed h hlm (λ j hj=>hc (i - j) j (by omega) (by omega));unfold wpOp;rw [hom];have fi:=Qq9 (Vv hreg hom);simp only;rw [P9 (by unfold Region.wanted;rw [fi.g])];unfold wpList at hw;rw [P9 (by unfold Region.wanted;rw [fi.g])] at hw;refine hw.imp (Oper.wp_mono (λ a' w' hq=>?_)) id;have e:=Ny h.sz hsz (λ j hj=>hc (i - j) j (by omega) (by omega));have hq:Q .normal a' w':=hq;cases fuel with
   |zero=>exact ⟨e,hq⟩
   |succ f=>exact ⟨λ _=>hq,λ j hj=>by rw [e] at hj;cases hj⟩
  refine h.run hreg hF htr hops (by have:=(Array.getElem?_eq_some_iff.1 (mem_ready.1 hi).2.choose_spec.1).1;omega) hi (λ a' w' h'=>Inv.all hreg hF htr hsz hcov hops hskip hend fuel _ a' w' (by rw [getD_set_ne true him];exact hlm) ?_ h') hskip;intro n hn';obtain ⟨hl,o,ho,_⟩:=mem_ready.1 hi;have hlt:=(Array.getElem?_eq_some_iff.1 ho).1;have h1:=hn _ J;have:(List.range ops.size).countP (λ j=>!(listed.setIfInBounds i true).getD j true)+1<=(List.range ops.size).countP (λ j=>!listed.getD j true):=by
   have key:∀ l:List Nat,l.Nodup->i∈l->l.countP (λ j=>!(listed.setIfInBounds i true).getD j true)+1<=l.countP (λ j=>!listed.getD j true):=by
    intro l
    induction l with
    |nil=>intro _ hm;cases hm
    |cons x l ih=>
     intro hnd hm;rw [List.nodup_cons] at hnd;rw [List.countP_cons,List.countP_cons];rcases List.mem_cons.1 hm with rfl|hm
     ·have e1:(!(listed.setIfInBounds i true).getD i true)=false:=by
       simp [Array.getElem?_setIfInBounds];split <;> rfl
      have e2:(!listed.getD i true)=true:=by rw [hl];rfl
      rw [e1,e2];have:l.countP (λ j=>!(listed.setIfInBounds i true).getD j true)<=l.countP (λ j=>!listed.getD j true):=by
       refine List.countP_mono_left (λ y hy=>?_);have hne:i≠y:=λ e=>hnd.1 (e ▸ hy);simp [hne]
      rw [Q9 (by decide),P9 rfl];omega
     ·have hne:i≠x:=λ e=>hnd.1 (e ▸ hm);have e1:(!(listed.setIfInBounds i true).getD x true)=!listed.getD x true:=by simp [hne]
      rw [e1];have:=ih hnd.2 hm;omega
   exact key _ List.nodup_range (List.mem_range.2 hlt)
  omega
end
section
variable {P:Program} {ops:Array Oper} {n i m:Nat} {o:Oper} {a0:Act} {R:W->W->Prop} {wd:W} {F:Nat->Value->W->Prop}
theorem U3 (a:Act) (vs:Nat->Value):∀ (l:List Oper) (i:Nat),(Yx a vs l i).tmps.size=a.tmps.size
 |[],_=>rfl
 |o :: l,i=>by rw [Yx,U3,Ga]
theorem Vr (a:Act) (vs:Nat->Value):∀ (l:List Oper) (i:Nat),(Yx a vs l i).defers=a.defers
 |[],_=>rfl
 |o :: l,i=>by rw [Yx,Vr,Ke]
theorem U7 (vs:Nat->Value) (k:Nat):∀ (l:List Oper) (i:Nat) (a:Act),(∀ o∈l,o.dst≠I k)->(Yx a vs l i).tmps.getD k undef=a.tmps.getD k undef
 |[],_,_,_=>rfl
 |o :: l,i,a,h=>by
  rw [Yx,U7 vs k l (i+1) _ (λ o ho=>h o (List.mem_cons_of_mem _ ho)),Q5,Q9 (λ hh=>h o (List.mem_cons_self ..) hh.1)]
theorem Gq (vs:Nat->Value) (k:Nat):∀ (l:List Oper) (i:Nat) (a:Act) (j:Nat) (o:Oper),l[j]? =I o->o.dst=I k->k < a.tmps.size->(∀ j' o',l[j']? =I o'->j'≠j->o'.dst≠I k)->(Yx a vs l i).tmps.getD k undef=vs (i+j)
 |[],_,_,_,_,h,_,_,_=>by simp at h
 |o :: l,i,a,0,o',h,hd,hk,hu=>by
  simp at h;subst h;rw [Yx,U7 vs k l (i+1) _ (λ x hx=>by
   obtain ⟨j,hj⟩:=List.getElem?_of_mem hx;exact hu (j+1) x (by simpa using hj) (by omega)),Q5,P9 ⟨hd,hk⟩]
  rfl
 |o :: l,i,a,j+1,o',h,hd,hk,hu=>by
  rw [Yx,Gq vs k l (i+1) _ j o' (by simpa using h) hd (by rw [Ga];exact hk) (λ j' x hx hne=>hu (j'+1) x (by simpa using hx) (by omega))];congr 1
  omega
theorem Yt {id:Nat} {Q:Exit->Act->W->Prop} {w:W} (hm:P.follows .mixedOrders=true) (m:Nat) {ol:Oper} (hol:ops[m]? =I ol) (R:W->W->Prop) (F:Nat->Value->W->Prop)
  (hreg:U6 ops a0.tmps.size=true) (hsz:ops.size=m+1) (hcov:H4 ops m=true) (hF:∀ i v w w',F i v w->R w w'->F i v w') (hrf:∀ a,R a a) (htr:∀ a b c,R a b->R b c->R a c)
  (hskip:∀ i v w',F i v w'->∀ o,ops[i]? =I o->o.dst=O->F i undef w')
  (hops:∀ i o,i < m->ops[i]? =I o->OpS P ops a0 R w.drew F i o)
  (hend:∀ (vs:Nat->Value) w',R w.drew w'->(∀ i,i < m->F i (vs i) w')->wpList P ops Q [ol] (Yx a0 vs (ops.toList.take m) 0) w'):(Code.region id ops true).wp P Q a0 w:=by
 refine wp_region_any hm (Inv.all hreg hF htr hsz hcov hops hskip ?_ ops.size _ a0 _ (by simp [hsz]) ?_ ⟨by simp,hrf _,rfl,rfl,λ _ _=>J,λ j oj hj hl=>?_,λ j oj hj hl=>?_⟩)
 ·intro a w' listed h hlm hall
  let vs:Nat->Value:=λ i=>match (ops[i]?).bind (·.dst) with|none=>undef|some d=>a.tmps.getD d undef
  have e:a=Yx a0 vs (ops.toList.take m) 0:=by
   have hsz':a.tmps.size=(Yx a0 vs (ops.toList.take m) 0).tmps.size:=by rw [U3];exact h.yb
   have ht:a.tmps=(Yx a0 vs (ops.toList.take m) 0).tmps:=by
    refine Array.ext hsz' (λ k hk1 hk2=>?_);have g1:a.tmps.getD k undef=a.tmps[k]:=by simp [hk1]
    have g2:(Yx a0 vs (ops.toList.take m) 0).tmps.getD k undef=(Yx a0 vs (ops.toList.take m) 0).tmps[k]:=by simp [hk2]
    rw [<-g1,<-g2]
    by_cases hex:∃ (j:Nat) (oj:Oper),j < m/\ops[j]? =I oj/\oj.dst=I k
    ·obtain ⟨j,oj,hjm,hj,hd⟩:=hex;rw [Gq vs k (ops.toList.take m) 0 a0 j oj (by rw [List.getElem?_take_of_lt hjm];simpa using hj) hd (by rw [<-h.yb];exact hk1) (λ j' o' hj' hne hd'=>by
      have hj2:ops[j']? =I o':=by
       by_cases hlt:j' < m
       ·rw [List.getElem?_take_of_lt hlt] at hj';simpa using hj'
       ·rw [List.getElem?_eq_none (by simp;omega)] at hj';cases hj'
      exact (Qq9 (Vv hreg hj)).wg j' o' k hj2 hd' (Ne.symm hne) hd)]
     show _=(match (ops[0+j]?).bind (·.dst) with|none=>undef|some d=>a.tmps.getD d undef);rw [Nat.zero_add,hj];simp [hd]
    ·rw [U7 vs k (ops.toList.take m) 0 a0 (λ o ho hd=>by
      obtain ⟨j,hj⟩:=List.getElem?_of_mem ho;have hlt:j < m:=by
       have:=(List.getElem?_eq_some_iff.1 hj).1;simp at this;omega
      rw [List.getElem?_take_of_lt hlt] at hj;exact hex ⟨j,o,hlt,by simpa using hj,hd⟩)]
     exact h.out k (λ j oj hj hd=>by
      by_cases hlt:j < m
      ·exact absurd ⟨j,oj,hlt,hj,hd⟩ hex
      ·have:=(Array.getElem?_eq_some_iff.1 hj).1;obtain rfl:j=m:=by omega
       exact hlm)
   have hd:a.defers=(Yx a0 vs (ops.toList.take m) 0).defers:=by rw [Vr];exact h.og
   cases a
   cases hp:Yx a0 vs (ops.toList.take m) 0
   rw [hp] at ht hd;simp only at ht hd;rw [ht,hd]
  rw [e];have hom:ops[m]! =ol:=by
   have:=hol;simp only [getElem!_def,this]
  rw [hom];refine hend vs w' h.cls (λ i hi=>?_);have hi':i < ops.size:=by omega
  have hoi:ops[i]? =I ops[i]:=by simp [hi']
  have:=h.ub i _ hoi (hall i hi);show F i (match (ops[i]?).bind (·.dst) with|none=>undef|some d=>a.tmps.getD d undef) w';rw [hoi];simp only [Option.bind_some];cases hd:ops[i].dst with
  |none=>rw [hd] at this;exact this
  |some d=>rw [hd] at this;exact this
 ·intro k hk;rw [hk];refine Nat.le_trans List.countP_le_length (by simp)
 ·have hlt:=(Array.getElem?_eq_some_iff.1 hj).1;simp [hlt] at hl
 ·have hlt:=(Array.getElem?_eq_some_iff.1 hj).1;simp [hlt] at hl
end
end
section
attribute [local go_sem] Zi
def notOut (ops:Array Oper) (t:Nat):Bool:=ops.all λ o=>o.dst !=I t
theorem Zm {ops:Array Oper} {t:Nat} (h:notOut ops t=true) (j:Nat) (oj:Oper) (hj:ops[j]? =I oj):oj.dst≠I t:=by
 unfold notOut at h;rw [Array.all_eq_true] at h;obtain ⟨hlt,rfl⟩:=Array.getElem?_eq_some_iff.1 hj;simpa using h j hlt
def Wi (ops:Array Oper) (m:Nat):Bool:=(List.range m).all λ i=>match ops[i]? with|none=>true|some o=>o.dst.isSome
theorem Vi {ops:Array Oper} {m:Nat} {F:Nat->Value->W->Prop} (h:Wi ops m=true) (ht:∀ i,m<=i->∀ v w,F i v w) {i:Nat} {w:W} {o:Oper} (ho:ops[i]? =I o) (hd:o.dst=O):F i undef w:=by
 by_cases hi:i < m
 ·exfalso;unfold Wi at h;rw [List.all_eq_true] at h;have:=h i (List.mem_range.2 hi);rw [ho] at this;simp [hd] at this
 ·exact ht i (by omega) _ _
def Yb (n0:Nat) (t:TypeId) (z n:Nat) (xs:List Value) (v:Value) (w:W):Prop:=w.ownsRow 0 t z v n xs/\∀ g,v.ownBlock=I g->n0<=g
theorem Yb.mod {n0:Nat} {t:TypeId} {z n:Nat} {xs:List Value} {v:Value} {w w':W} (h:Yb n0 t z n xs v w) (m:Ze [] w w'):Yb n0 t z n xs v w':=⟨Zt h.1 m (by simp),h.2⟩
theorem Yb.copied {n0:Nat} {t:TypeId} {z n:Nat} {xs:List Value} {e:Ending} {w w':W} (h:Vl w t z n xs e w') (h0:n0<=w.heap.size):∃ v,e=R_ v/\Ze [] w w'/\Yb n0 t z n xs v w':=by
 obtain ⟨u,rfl,h1,h2,h3⟩:=h;exact ⟨u,J,h3,h1,λ g hg=>Nat.le_trans h0 (h2 g hg)⟩
def Yd:Array Value:=#[U Y 0,U Y 0,U Y 0,U Y 0,L O 0 0,U Y 0,U Y 0,L O 0 0,L O 0 0,L O 0 0,U Y 0,U Y 0,U Y 0,U Y 0,U Y 0,U Y 0,U Y 0,U Y 0,U Y 0]
def Vq (n0:Nat) (v:Value) (w:W):Prop:=∃ g,v=E (I ⟨g,0,O⟩)/\w.heap[g]? =I (.cells Yd 50 (0,0))/\n0<=g
theorem Vq.mod {n0:Nat} {v:Value} {w w':W} (h:Vq n0 v w) (m:Ze [] w w'):Vq n0 v w':=by
 obtain ⟨g,h1,h2,h3⟩:=h;exact ⟨g,h1,m.at h2 (by simp),h3⟩
def Jt (tag mark num st:Int) (va vr vw vo:Value):Array Value:=#[U Y 0,U Y 0,U Y 0,U Y tag,va,U Y mark,U Y num,vr,vw,vo,U Y 0,U Y 0,U Y 0,U Y 0,U Y 0,U Y st,U Y 0,U Y 0,U Y 0]
def Km (n0:Nat) (tag mark num st:Int) (args:List Nat) (m:Zk) (v:Value) (w:W):Prop:=
 ∃ va vr vw vo,v=.agg (Jt tag mark num st va vr vw vo)/\Yb n0 51 1 args.length (args.map (Z V)) va w/\Yb n0 53 2 m.reads.length (Yj m.reads) vr w/\Yb n0 53 2 m.buf.order.length (Yj m.buf.all) vw w/\Yb n0 51 1 m.out.length (m.out.map (Z V)) vo w
theorem Km.mod {n0:Nat} {tag mark num st:Int} {args:List Nat} {m:Zk} {v:Value} {w w':W} (h:Km n0 tag mark num st args m v w) (k:Ze [] w w'):Km n0 tag mark num st args m v w':=by
 obtain ⟨va,vr,vw,vo,h0,h1,h2,h3,h4⟩:=h;exact ⟨va,vr,vw,vo,h0,h1.mod k,h2.mod k,h3.mod k,h4.mod k⟩
def Qk (tag mark num st qq ec ee:Int) (va vr vw vo:Value):Array Value:=#[U Y 0,U Y 0,U Y 0,U Y tag,va,U Y mark,U Y num,vr,vw,vo,U Y qq,U Y ec,U Y ee,U Y 0,U Y 0,U Y st,U Y 0,U Y 0,U Y 0]
def Ql (n0:Nat) (l:List (Int×Nat)):Value->W->Prop:=Yb n0 53 2 l.length (Yj l)
def Xq (n0:Nat) (l:List Nat):Value->W->Prop:=Yb n0 51 1 l.length (l.map (Z V))
def Gk (w:W) (d:Zu) (e:Ending) (w':W):Prop:=
 ∃ st va vr vw vo,e=R_ (.agg (Qk d.tag d.mark d.number st d.qq d.qn d.zd va vr vw vo))/\Xq w.heap.size d.args va w'/\Ql w.heap.size d.reads vr w'/\Ql w.heap.size d.writes vw w'/\Xq w.heap.size d.out vo w'/\Ze [] w w'
def As (n1:Nat) (tag mark num st:Int) (args:List Nat) (m:Zk) (A:Value) (w:W):Prop:=
 ∃ g va vr vw vo,A=E (I ⟨g,0,O⟩)/\w.heap[g]? =I (.cells (Jt tag mark num st va vr vw vo) 50 (0,0))/\n1<=g/\Xq n1 args va w/\Ql n1 m.reads vr w/\Ql n1 m.buf.all vw w/\Xq n1 m.out vo w
theorem Ze.xw {g:Nat} {x y:W} (h:Ze [g] x y) (i:Nat) (v:Value):Ze [g] x (y.setCell ⟨g,i,O⟩ v):=h.setCell _ _ (.inl (by simp))
theorem Yb.qj {n0 n1:Nat} {t:TypeId} {z n:Nat} {xs:List Value} {v:Value} {w:W} (h:Yb n1 t z n xs v w) (hn:n0<=n1):Yb n0 t z n xs v w:=⟨h.1,λ g hg=>Nat.le_trans hn (h.2 g hg)⟩
def Mf (n0:Nat) (d:Zu) (v:Value) (w:W):Prop:=
 ∃ st va vr vw vo,v=.agg (Qk d.tag d.mark d.number st d.qq d.qn d.zd va vr vw vo)/\Xq n0 d.args va w/\Ql n0 d.reads vr w/\Ql n0 d.writes vw w/\Xq n0 d.out vo w
theorem Mf.mod {n0:Nat} {d:Zu} {v:Value} {w w':W} (h:Mf n0 d v w) (m:Ze [] w w'):Mf n0 d v w':=by
 obtain ⟨st,va,vr,vw,vo,h0,h1,h2,h3,h4⟩:=h;exact ⟨st,va,vr,vw,vo,h0,Yb.mod h1 m,Yb.mod h2 m,Yb.mod h3 m,Yb.mod h4 m⟩
theorem Gk.to {n0:Nat} {d:Zu} {e:Ending} {w w':W} (h:Gk w d e w') (hn:n0<=w.heap.size):∃ v,e=R_ v/\Ze [] w w'/\Mf n0 d v w':=by
 obtain ⟨st,va,vr,vw,vo,h0,h1,h2,h3,h4,h5⟩:=h;exact ⟨_,h0,h5,st,va,vr,vw,vo,J,Yb.qj h1 hn,Yb.qj h2 hn,Yb.qj h3 hn,Yb.qj h4 hn⟩
theorem Y0 {w:W} {g:Nat} {c cs:Array Value} {t:TypeId} {f:Nat×Nat} (h:w.heap[g]? =I (.cells c t f)):(w.setRow g cs).heap[g]? =I (.cells cs t f):=by
 show (w.heap.modify g _)[g]? =_;rw [Array.getElem?_modify,P9 rfl,h];rfl
theorem Yb.zy {n0:Nat} {t:TypeId} {z n:Nat} {xs:List Value} {v:Value} {w w':W} {g:Nat} {c:Array Value} (h:Yb n0 t z n xs v w) (hg:w.heap[g]? =I (.cells c 50 (0,0))) (ht:t≠50) (m:Ze [g] w w'):Yb n0 t z n xs v w':=
 ⟨Zt h.1 m (λ k hk hm=>by
  simp at hm;subst hm;have:=Zp hg;rw [Yf h.1 hk] at this;exact ht (Zo_ this)),h.2⟩
theorem L5 {w w1 w2:W} {n0 g5:Nat} {tag mark num st:Int} {args:List Nat} {m:Zk} {va vr vw vo:Value} (M1:Ze [] w w1) (hR:Ze [] w1.drew w2) (hn:w.heap.size<=n0) (k5:w2.heap[g5]? =I (.cells Yd 50 (0,0))) (hg:n0<=g5)
  (ra:Yb n0 51 1 args.length (args.map (Z V)) va w2) (rr:Yb n0 53 2 m.reads.length (Yj m.reads) vr w2) (rw':Yb n0 53 2 m.buf.order.length (Yj m.buf.all) vw w2) (ro:Yb n0 51 1 m.out.length (m.out.map (Z V)) vo w2):
  As n0 tag mark num st args m (E (I ⟨g5,0,O⟩)) (w2.setRow g5 (Jt tag mark num st va vr vw vo))/\Ze [] w (w2.setRow g5 (Jt tag mark num st va vr vw vo)):=by
 have mm:Ze [g5] w2 (w2.setRow g5 (Jt tag mark num st va vr vw vo)):=(Zr_ _ _).setRow _ _ (.inl (by simp));refine ⟨⟨g5,_,_,_,_,J,Y0 k5,hg,ra.zy k5 (by decide) mm,rr.zy k5 (by decide) mm,?_,ro.zy k5 (by decide) mm⟩,((M1.drew).trans hR).then mm (λ k hk=>.inr (by simp at hk;omega))⟩;unfold Ql;rw [Pr];exact rw'.zy k5 (by decide) mm
theorem Ma {tag mark num st:Int} {va vr vw vo:Value} (h1:va.oneCell'=true) (h2:vr.oneCell'=true) (h3:vw.oneCell'=true) (h4:vo.oneCell'=true):(Jt tag mark num st va vr vw vo).all (·.oneCell')=true:=by
 unfold Jt;simp only [List.all_toArray,List.all_cons,h1,h2,h3,h4];rfl
theorem F9 {tag mark num st a b c:Int} {va vr vw vo:Value} (h1:va.oneCell'=true) (h2:vr.oneCell'=true) (h3:vw.oneCell'=true) (h4:vo.oneCell'=true):(Qk tag mark num st a b c va vr vw vo).all (·.oneCell')=true:=by
 unfold Qk;simp only [List.all_toArray,List.all_cons,h1,h2,h3,h4];rfl
theorem Y7 {w:W} {t:TypeId} {z n:Nat} {xs:List Value} {v:Value} (h:w.ownsRow 0 t z v n xs):v.oneCell'=true:=by
 obtain ⟨a,c,rfl⟩:=Zo h;rfl
theorem Ct {w w1 w2:W} {n0:Nat} {d:Zu} {st:Int} {va vr vw vo:Value} (M1:Ze [] w w1) (hR:Ze [] w1 w2) (hn:w.heap.size<=n0) (z:w2.heap[w.heap.size]? =I (.cells Yd 50 (0,0)))
  (h1:Xq n0 d.args va w2) (h2:Ql n0 d.reads vr w2) (h3:Ql n0 d.writes vw w2) (h4:Xq n0 d.out vo w2):
  Gk w d (R_ (.agg (Qk d.tag d.mark d.number st d.qq d.qn d.zd va vr vw vo))) (w2.setRow w.heap.size (Qk d.tag d.mark d.number st d.qq d.qn d.zd va vr vw vo)):=by
 have mm:Ze [w.heap.size] w2 (w2.setRow w.heap.size (Qk d.tag d.mark d.number st d.qq d.qn d.zd va vr vw vo)):=(Zr_ _ _).setRow _ _ (.inl (by simp));exact ⟨_,_,_,_,_,J,(Yb.qj h1 hn).zy z (by decide) mm,(Yb.qj h2 hn).zy z (by decide) mm,(Yb.qj h3 hn).zy z (by decide) mm,(Yb.qj h4 hn).zy z (by decide) mm,(M1.trans hR).then mm (λ k hk=>.inr (by simp at hk;omega))⟩
theorem out_le {m:Zk} (o:Ym m):m.out.length<=4096:=by
 have h1:=o.out;have h2:=o.xk;have h3:=o.fuel;omega
theorem Y2 {P:Program} {w:W} {o:Oper} {a:Act} {K:Value->W->Prop} (s x:Operand) (t:TypeId)
  (ho:o.op=.call {callee:=.builtin .append,args:=#[s,x],argTypes:=#[t,t]})
  (base:Nat) (e:TypeId) (i:TypeInfo) (z:Value) (size bytes:Nat) (ht:P.underlying t=I (.slice e)) (hi:P.info? e=I i) (hz:i.zero=I z)
  (hsize:i.size=size) (hby:i.bytes=bytes) (hzs:z.cells.size=size) (hsz:0 < size)
  (v:Value) (n:Nat) (xs:List Value) (hs:a.eval s=v) (hown:w.ownsRow base e size v n xs)
  (ad:Addr) (m c:Nat) (news:List Value) (hx:a.eval x=L (I ad) m c) (hl:news.length=m * size) (hnews:∀ j u,news[j]? =I u->w.cell? (ad.add j)=I u) (h1:∀ u∈news,u.oneCell'=true)
  (h63:n+m<=maxLen) (hbytes:(n+m) * bytes<=140737488355328) (hbase:base<=w.heap.size)
  (h:∀ v' w',w'.ownsRow base e size v' (n+m) (xs++news)->w.grownBy w' v.ownBlock->(v'.ownBlock=v.ownBlock\/v'.ownBlock=I w.heap.size)->K v' w'):J4 P K ((execOp a.eval o).run P w):=by
 obtain ⟨v',w',hr,h2,h3,_,h5⟩:=run_append_own_at (P:=P) w base t o.type e i z size bytes ht hi hz hsize hby hzs hsz v n xs hown ad m c news hl hnews h1 h63 hbytes hbase;unfold execOp;simp only [ho,resolve,invoke,builtin,Sem.run_bind,Sem.run_pure,Result.andThen_ok,List.map_toArray,List.map_cons,List.map_nil,hs,hx,hr];exact h v' w' h2 h3 h5
theorem Tf_ {ops:Array Oper} {o:Oper} {a:Act} {wx:World} {F:Nat->Value->World->Prop} (hF:∀ (t j:Nat) (oj:Oper),(o.looksAt ops).contains t=true->ops[j]? =some oj->oj.dst=some t->F j (a.eval (.tmp t)) wx) (t j:Nat) (v:Value) (h:((o.looksAt ops).contains t && (ops[j]?.bind (λ x=>x.dst))==some t)=true:=by kernel_rfl) (hv:∀ x,F j x wx->x=v:=by exact λ _ h=>h):a.tmps[t]?.getD undef=v:=by
 rw [Bool.and_eq_true,beq_iff_eq,Option.bind_eq_some_iff] at h;obtain ⟨h1,oj,h2,h3⟩:=h;exact Tv_ (hv _ (hF t j oj h1 h2 h3))
theorem To_ {ops:Array Oper} {o:Oper} {a a0:Act} (hO:∀ t:Nat,(o.looksAt ops).contains t=true->(∀ (j:Nat) (oj:Oper),ops[j]? =some oj->oj.dst≠some t)->a.eval (.tmp t)=a0.eval (.tmp t)) (t:Nat) (v:Value) (h:((o.looksAt ops).contains t && notOut ops t)=true:=by kernel_rfl) (hv:a0.eval (.tmp t)=v:=by exact rfl):a.tmps[t]?.getD undef=v:=by
 rw [Bool.and_eq_true] at h;exact Tv_ ((hO t h.1 (Zm h.2)).trans hv)
end
section
attribute [local go_sem] Zi
def Wc (n0:Nat) (q:RP) (x:Z8) (mark:Int):Nat->Value->W->Prop
 |0,v,_=>v=E (I ⟨q.k,0,O⟩)
 |1,v,_=>v=E (I ⟨q.k,0,O⟩)
 |2,v,_=>v=E (I ⟨q.k,7,O⟩)
 |3,v,_=>v=U Y x.tag
 |4,v,_=>v=E (I ⟨q.k,0,O⟩)
 |5,v,_=>v=E (I ⟨q.k,0,O⟩)
 |6,v,_=>v=E (I ⟨q.k,8,O⟩)
 |7,v,_=>v=q.va
 |8,v,w=>Yb n0 51 1 x.args.length (x.args.map (Z V)) v w
 |9,v,_=>v=U Y mark
 |10,v,_=>v=E (I ⟨q.k,0,O⟩)
 |11,v,_=>v=E (I ⟨q.k,0,O⟩)
 |12,v,_=>v=E (I ⟨q.k,6,O⟩)
 |13,v,_=>v=E (I ⟨q.p.mb,0,O⟩)
 |14,v,w=>Yb n0 53 2 x.m.reads.length (Yj x.m.reads) v w
 |15,v,_=>v=E (I ⟨q.k,0,O⟩)
 |16,v,_=>v=E (I ⟨q.k,0,O⟩)
 |17,v,_=>v=E (I ⟨q.k,6,O⟩)
 |18,v,_=>v=E (I ⟨q.p.mb,0,O⟩)
 |19,v,w=>Yb n0 53 2 x.m.buf.order.length (Yj x.m.buf.all) v w
 |20,v,_=>v=E (I ⟨q.k,0,O⟩)
 |21,v,_=>v=E (I ⟨q.k,0,O⟩)
 |22,v,_=>v=E (I ⟨q.k,6,O⟩)
 |23,v,_=>v=E (I ⟨q.p.mb,0,O⟩)
 |24,v,w=>Yb n0 51 1 x.m.out.length (x.m.out.map (Z V)) v w
 |25,v,_=>v=E (I ⟨q.k,0,O⟩)
 |26,v,_=>v=E (I ⟨q.k,0,O⟩)
 |27,v,_=>v=E (I ⟨q.k,10,O⟩)
 |28,v,_=>v=U Y q.st
 |29,v,w=>Km n0 x.tag mark 0 q.st x.args x.m v w
 |30,v,w=>Vq n0 v w
 |_,_,_=>True
theorem tripF_on (n0:Nat) (q:RP) (x:Z8) (mark:Int) (i:Nat) (v:Value) (w w':W) (h:Wc n0 q x mark i v w) (m:Ze [] w w'):Wc n0 q x mark i v w':=by
 match i,h with
 |0,h=>exact h
 |1,h=>exact h
 |2,h=>exact h
 |3,h=>exact h
 |4,h=>exact h
 |5,h=>exact h
 |6,h=>exact h
 |7,h=>exact h
 |8,h=>exact Yb.mod h m
 |9,h=>exact h
 |10,h=>exact h
 |11,h=>exact h
 |12,h=>exact h
 |13,h=>exact h
 |14,h=>exact Yb.mod h m
 |15,h=>exact h
 |16,h=>exact h
 |17,h=>exact h
 |18,h=>exact h
 |19,h=>exact Yb.mod h m
 |20,h=>exact h
 |21,h=>exact h
 |22,h=>exact h
 |23,h=>exact h
 |24,h=>exact Yb.mod h m
 |25,h=>exact h
 |26,h=>exact h
 |27,h=>exact h
 |28,h=>exact h
 |29,h=>exact Km.mod h m
 |30,h=>exact Vq.mod h m
 |i+31,h=>trivial
theorem Oy (n0:Nat) (q:RP) (x:Z8) (mark:Int) (i:Nat) (h:31<=i) (v:Value) (w:W):Wc n0 q x mark i v w:=by
 match i,h with
 |j+31,_=>trivial
variable {w w' w0 w1 w2:W} {p p':MP} {q q':RP} {x x':Z8} {m:Zk} {a b:Nat} {s s':Zh} {S:List Nat} {r r':Yu}
theorem We (h:Yc w q x) (ok:Ym x.m) (hal:x.args.length<=4096) (mark:Int):Calls N 235 #[E (I ⟨q.k,0,O⟩),U Y mark] w (Gk w {x.told with mark:=mark}):=by
 have HR0:=Zh_ (λ (wx:W) (D:Ze [] w wx)=>h.mod D (by simp));have HRD:=Zh_ (λ (w1 wx:W) (m1:Ze [] w w1) (hR:Ze [] w1.drew wx)=>h.mod ((m1.drew).trans hR) (by simp));have ZD:=Zh_ (heap_alloc_new w (.cells Yd 50));have HN:=Zh_ (show w.heap.size < (w.alloc (.cells Yd 50)).heap.size by simp);have m1:Ze [] w (w.alloc (.cells Yd 50)):=(Zr_ _ _).alloc _;clear h;go_enter func235,ntmps235;go_upto_region 1 with fail;change Code.wp _ _ _ _ (w.alloc (.cells Yd 50));generalize w.alloc (.cells Yd 50)=w1 at *
 have M1:=Zh_ m1;have ZD1:=ZD;replace HRD:=Zh_ (λ (wx:W) (hR:Ze [] w1.drew wx)=>HRD.out w1 wx M1.out hR);obtain ⟨n0,hq0⟩:∃ n,n=w1.heap.size:=⟨_,J⟩;have hn0:n0<=w1.drew.heap.size:=Nat.le_of_eq hq0;replace HN:=Zh_ (show w.heap.size < n0 by rw [hq0];exact HN.out);clear m1 hq0
 go_cut [5] (λ A wx=>As n0 x.tag mark 0 q.st x.args x.m A wx/\Ze [] w wx/\wx.heap[w.heap.size]? =I (.cells Yd 50 (0,0)))
 case first=>
  refine Yt (by kernel_rfl) 31 (by rfl) (λ x y=>Ze [] x y) (Wc n0 q x mark) (by kernel_rfl) (by rfl) (by kernel_rfl) (tripF_on n0 q x mark) (λ a=>Zr_ _ _) (λ a b c h k=>h.trans k) ?_ ?_ ?_
  ·exact λ i v w' hv o ho hd=>Vi (m:=31) (by kernel_rfl) (Oy n0 q x mark) ho hd
  ·intro i o hi ho
   match i,hi with
   |0,_=>obtain rfl:=Zo_ ho;intro a wx hR hF hO;have e0:=To_ hO 0 (E (I ⟨q.k,0,O⟩));clear hF hO;go_simp;exact ⟨Zr_ _ _,J⟩
   |1,_=>obtain rfl:=Zo_ ho;intro a wx hR hF hO;have e6:=Tf_ hF 6 0 (E (I ⟨q.k,0,O⟩));clear hF hO;go_simp;exact ⟨Zr_ _ _,J⟩
   |2,_=>obtain rfl:=Zo_ ho;intro a wx hR hF hO;have e7:=Tf_ hF 7 1 (E (I ⟨q.k,0,O⟩));clear hF hO;go_simp;exact ⟨Zr_ _ _,J⟩
   |3,_=>obtain rfl:=Zo_ ho;intro a wx hR hF hO;have e8:=Tf_ hF 8 2 (E (I ⟨q.k,7,O⟩));clear hF hO;have c0:=((HRD.out wx hR).cell 7 (u:=U Y x.tag) J).1;go_simp;exact ⟨Zr_ _ _,J⟩
   |4,_=>obtain rfl:=Zo_ ho;intro a wx hR hF hO;have e0:=To_ hO 0 (E (I ⟨q.k,0,O⟩));clear hF hO;go_simp;exact ⟨Zr_ _ _,J⟩
   |5,_=>obtain rfl:=Zo_ ho;intro a wx hR hF hO;have e10:=Tf_ hF 10 4 (E (I ⟨q.k,0,O⟩));clear hF hO;go_simp;exact ⟨Zr_ _ _,J⟩
   |6,_=>obtain rfl:=Zo_ ho;intro a wx hR hF hO;have e11:=Tf_ hF 11 5 (E (I ⟨q.k,0,O⟩));clear hF hO;go_simp;exact ⟨Zr_ _ _,J⟩
   |7,_=>obtain rfl:=Zo_ ho;intro a wx hR hF hO;have e12:=Tf_ hF 12 6 (E (I ⟨q.k,8,O⟩));clear hF hO;have c0:=((HRD.out wx hR).cell 8 (u:=q.va) J).1;go_simp;exact ⟨Zr_ _ _,J⟩
   |8,_=>
    obtain rfl:=Zo_ ho;intro a wx hR hF hO;have f13:a.eval (.tmp 13)=q.va:=hF 13 7 _ (by kernel_rfl) J J;have e13:=Tv_ f13;clear hF hO;rcases (HRD.out wx hR).args.2 with ⟨hv,h0⟩|⟨g,cap,cur,hv,-,-⟩
    ·rw [hv] at e13;clear f13;go_simp;have h00:x.args=[]:=List.eq_nil_of_length_eq_zero h0;exact ⟨Zr_ _ _,by rw [h00];exact World.ownsRow_nil _ _ _ _,by simp [Value.ownBlock]⟩
    ·have ho:=(HRD.out wx hR).args;rw [hv] at ho;rw [hv] at f13;clear e13;have hcs:=ho.cells (g:=g) J;obtain ⟨i0,hi0,hz0,hz1,hz2⟩:=info_parts Up;refine Y2 _ _ 24 J 0 51 i0 (Z V 0) 1 8 underlying24 hi0 hz0 hz1 hz2 J (by decide) (L O 0 0) 0 [] J (World.ownsRow_nil _ _ _ _) ⟨g,0,O⟩ x.args.length cap (x.args.map (Z V)) f13 (by simp) hcs (by intro u hu;simp at hu;obtain ⟨a,_,rfl⟩:=hu;rfl) (by unfold maxLen;omega) (by omega) (Nat.zero_le _) ?_;intro v' w' h2 h3 h5;have hc:=Vl.of (t:=51) (z:=1) (by simpa using h2) h3 h5;obtain ⟨u,hu,hm,hr⟩:=Yb.copied hc (Nat.le_trans hn0 hR.size);obtain rfl:=Ending.returned.inj hu;exact ⟨hm,hr⟩
   |9,_=>obtain rfl:=Zo_ ho;intro a wx hR hF hO;have e1:=To_ hO 1 (U Y mark);clear hF hO;go_simp;exact ⟨Zr_ _ _,J⟩
   |10,_=>obtain rfl:=Zo_ ho;intro a wx hR hF hO;have e0:=To_ hO 0 (E (I ⟨q.k,0,O⟩));clear hF hO;go_simp;exact ⟨Zr_ _ _,J⟩
   |11,_=>obtain rfl:=Zo_ ho;intro a wx hR hF hO;have e16:=Tf_ hF 16 10 (E (I ⟨q.k,0,O⟩));clear hF hO;go_simp;exact ⟨Zr_ _ _,J⟩
   |12,_=>obtain rfl:=Zo_ ho;intro a wx hR hF hO;have e17:=Tf_ hF 17 11 (E (I ⟨q.k,0,O⟩));clear hF hO;go_simp;exact ⟨Zr_ _ _,J⟩
   |13,_=>obtain rfl:=Zo_ ho;intro a wx hR hF hO;have e18:=Tf_ hF 18 12 (E (I ⟨q.k,6,O⟩));clear hF hO;have c0:=((HRD.out wx hR).cell 6 (u:=E (I ⟨q.p.mb,0,O⟩)) J).1;go_simp;exact ⟨Zr_ _ _,J⟩
   |14,_=>obtain rfl:=Zo_ ho;intro a wx hR hF hO;have e19:=Tf_ hF 19 13 (E (I ⟨q.p.mb,0,O⟩));clear hF hO;go_simp;refine Calls.mono (Wm (HRD.out wx hR).za (Fm ok)) ?_;rintro e w' hc;obtain ⟨u,rfl,hm,hr⟩:=Yb.copied hc (Nat.le_trans hn0 hR.size);exact ⟨u,J,hm,hr⟩
   |15,_=>obtain rfl:=Zo_ ho;intro a wx hR hF hO;have e0:=To_ hO 0 (E (I ⟨q.k,0,O⟩));clear hF hO;go_simp;exact ⟨Zr_ _ _,J⟩
   |16,_=>obtain rfl:=Zo_ ho;intro a wx hR hF hO;have e21:=Tf_ hF 21 15 (E (I ⟨q.k,0,O⟩));clear hF hO;go_simp;exact ⟨Zr_ _ _,J⟩
   |17,_=>obtain rfl:=Zo_ ho;intro a wx hR hF hO;have e22:=Tf_ hF 22 16 (E (I ⟨q.k,0,O⟩));clear hF hO;go_simp;exact ⟨Zr_ _ _,J⟩
   |18,_=>obtain rfl:=Zo_ ho;intro a wx hR hF hO;have e23:=Tf_ hF 23 17 (E (I ⟨q.k,6,O⟩));clear hF hO;have c0:=((HRD.out wx hR).cell 6 (u:=E (I ⟨q.p.mb,0,O⟩)) J).1;go_simp;exact ⟨Zr_ _ _,J⟩
   |19,_=>obtain rfl:=Zo_ ho;intro a wx hR hF hO;have e24:=Tf_ hF 24 18 (E (I ⟨q.p.mb,0,O⟩));clear hF hO;go_simp;refine Calls.mono (Dy (HRD.out wx hR).za ok.order) ?_;rintro e w' hc;obtain ⟨u,rfl,hm,hr⟩:=Yb.copied hc (Nat.le_trans hn0 hR.size);exact ⟨u,J,hm,hr⟩
   |20,_=>obtain rfl:=Zo_ ho;intro a wx hR hF hO;have e0:=To_ hO 0 (E (I ⟨q.k,0,O⟩));clear hF hO;go_simp;exact ⟨Zr_ _ _,J⟩
   |21,_=>obtain rfl:=Zo_ ho;intro a wx hR hF hO;have e26:=Tf_ hF 26 20 (E (I ⟨q.k,0,O⟩));clear hF hO;go_simp;exact ⟨Zr_ _ _,J⟩
   |22,_=>obtain rfl:=Zo_ ho;intro a wx hR hF hO;have e27:=Tf_ hF 27 21 (E (I ⟨q.k,0,O⟩));clear hF hO;go_simp;exact ⟨Zr_ _ _,J⟩
   |23,_=>obtain rfl:=Zo_ ho;intro a wx hR hF hO;have e28:=Tf_ hF 28 22 (E (I ⟨q.k,6,O⟩));clear hF hO;have c0:=((HRD.out wx hR).cell 6 (u:=E (I ⟨q.p.mb,0,O⟩)) J).1;go_simp;exact ⟨Zr_ _ _,J⟩
   |24,_=>obtain rfl:=Zo_ ho;intro a wx hR hF hO;have e29:=Tf_ hF 29 23 (E (I ⟨q.p.mb,0,O⟩));clear hF hO;go_simp;refine Calls.mono (out_c (HRD.out wx hR).za (out_le ok)) ?_;rintro e w' hc;obtain ⟨u,rfl,hm,hr⟩:=Yb.copied hc (Nat.le_trans hn0 hR.size);exact ⟨u,J,hm,hr⟩
   |25,_=>obtain rfl:=Zo_ ho;intro a wx hR hF hO;have e0:=To_ hO 0 (E (I ⟨q.k,0,O⟩));clear hF hO;go_simp;exact ⟨Zr_ _ _,J⟩
   |26,_=>obtain rfl:=Zo_ ho;intro a wx hR hF hO;have e31:=Tf_ hF 31 25 (E (I ⟨q.k,0,O⟩));clear hF hO;go_simp;exact ⟨Zr_ _ _,J⟩
   |27,_=>obtain rfl:=Zo_ ho;intro a wx hR hF hO;have e32:=Tf_ hF 32 26 (E (I ⟨q.k,0,O⟩));clear hF hO;go_simp;exact ⟨Zr_ _ _,J⟩
   |28,_=>obtain rfl:=Zo_ ho;intro a wx hR hF hO;have e33:=Tf_ hF 33 27 (E (I ⟨q.k,10,O⟩));clear hF hO;have c0:=((HRD.out wx hR).cell 10 (u:=U Y q.st) J).1;go_simp;exact ⟨Zr_ _ _,J⟩
   |29,_=>obtain rfl:=Zo_ ho;intro a wx hR hF hO;have e9:=Tf_ hF 9 3 (U Y x.tag);have e14:Yb n0 51 1 x.args.length (x.args.map (Z V)) (a.eval (.tmp 14)) wx:=hF 14 8 _ (by kernel_rfl) J J;have e15:=Tf_ hF 15 9 (U Y mark);have e20:Yb n0 53 2 x.m.reads.length (Yj x.m.reads) (a.eval (.tmp 20)) wx:=hF 20 14 _ (by kernel_rfl) J J;have e25:Yb n0 53 2 x.m.buf.order.length (Yj x.m.buf.all) (a.eval (.tmp 25)) wx:=hF 25 19 _ (by kernel_rfl) J J;have e30:Yb n0 51 1 x.m.out.length (x.m.out.map (Z V)) (a.eval (.tmp 30)) wx:=hF 30 24 _ (by kernel_rfl) J J;have e34:=Tf_ hF 34 28 (U Y q.st);clear hF hO;rw [show a.eval (.tmp 14)=a.tmps[14]?.getD undef by simp [Act.eval]] at e14;have r14:=Zh_ e14;obtain ⟨b14,k14,q14⟩:=Zo e14.1;rw [show a.eval (.tmp 20)=a.tmps[20]?.getD undef by simp [Act.eval]] at e20;have r20:=Zh_ e20;obtain ⟨b20,k20,q20⟩:=Zo e20.1;rw [show a.eval (.tmp 25)=a.tmps[25]?.getD undef by simp [Act.eval]] at e25;have r25:=Zh_ e25;obtain ⟨b25,k25,q25⟩:=Zo e25.1;rw [show a.eval (.tmp 30)=a.tmps[30]?.getD undef by simp [Act.eval]] at e30;have r30:=Zh_ e30;obtain ⟨b30,k30,q30⟩:=Zo e30.1;clear e14 e20 e25 e30;go_simp;exact ⟨Zr_ _ _,_,_,_,_,J,by have:=r14.out;rw [q14] at this;exact this,by have:=r20.out;rw [q20] at this;exact this,by have:=r25.out;rw [q25] at this;exact this,by have:=r30.out;rw [q30] at this;exact this⟩
   |30,_=>obtain rfl:=Zo_ ho;intro a wx hR hF hO;clear hF hO;go_simp;exact ⟨(Zr_ _ _).alloc _,_,J,heap_alloc_new _ _,Nat.le_trans hn0 hR.size⟩
   |j+31,hh=>omega
  ·intro vs w2 hR hv;obtain ⟨g5,e5,k5,hg5⟩:Vq n0 (vs 30) w2:=hv 30 (by decide);obtain ⟨va,vr,vw,vo,e35,ra,rr,rw',ro⟩:Km n0 x.tag mark 0 q.st x.args x.m (vs 29) w2:=hv 29 (by decide);obtain ⟨ba,ka,qa⟩:=Zo ra.1;obtain ⟨br,kr,qr⟩:=Zo rr.1;obtain ⟨bw,kw,qw⟩:=Zo rw'.1;obtain ⟨bo,ko,qo⟩:=Zo ro.1;have FIN:=Zh_ (L5 (tag:=x.tag) (mark:=mark) (num:=0) (st:=q.st) M1.out hR (Nat.le_of_lt HN.out) k5 hg5 ra rr rw' ro);have K5:=Zh_ k5;have M2:=Zh_ ((Zr_ [] w1).drew.trans hR);have NEg:=Zh_ (show w.heap.size≠g5 from λ e=>by have:=HN.out;omega);have ONE:=Zh_ (Ma (tag:=x.tag) (mark:=mark) (num:=0) (st:=q.st) (Y7 ra.1) (Y7 rr.1) (Y7 rw'.1) (Y7 ro.1));clear hg5 ra rr rw' ro hR k5 qa qr qw qo;simp only [Yx,List.take_succ_cons,List.take_zero,Act.put,e5,e35];go_simp;refine wpList_store_row J 50 _ _ J g5 (Jt x.tag mark 0 q.st va vr vw vo) J J 50 Yd K5.out (by kernel_rfl) J ONE.out ?_;go_wp2_with fail;go_meet;exact ⟨FIN.out.1,FIN.out.2,(setRow_other _ _ _ _ NEg.out).trans ((M2.out).at ZD1.out (by simp))⟩
 case rest=>
  obtain ⟨⟨g5,va,vr,vw,vo,rfl,K5,hg5,ra,rr,rw',ro⟩,mc,z6⟩:=hcut;have Z6:=Zh_ z6;obtain ⟨ba,ka,qa⟩:=Zo ra.1;obtain ⟨br,kr,qr⟩:=Zo rr.1;obtain ⟨bw,kw,qw⟩:=Zo rw'.1;obtain ⟨bo,ko,qo⟩:=Zo ro.1;have NE:=Zh_ (show g5≠w.heap.size from λ e=>by have:=HN.out;omega);have ONE:=Zh_ (λ (a b c:Int)=>F9 (tag:=x.tag) (mark:=mark) (num:=0) (st:=q.st) (a:=a) (b:=b) (c:=c) (Y7 ra.1) (Y7 rr.1) (Y7 rw'.1) (Y7 ro.1));have RA:=Zh_ ra;have RR:=Zh_ rr;have RW:=Zh_ rw';have RO:=Zh_ ro;have HG:=Zh_ hg5;have KD:=Zh_ K5;have MC:=Zh_ mc;clear K5 hg5 ra rr rw' ro mc qa qr qw qo z6
  by_cases hp:x.part=4
  ·have d4:(x.part==4)=true:=by simp [hp]
   have HRc:=HR0.out _ MC.out;have c9:=(HRc.cell 9 (u:=U Y x.part) J).1;have c6:=(HRc.cell 6 (u:=E (I ⟨q.p.mb,0,O⟩)) J).1;have hlt:=B9 HRc.hd;have hc:=end_c HRc.za;have HRC:=Zh_ HRc;clear HRc;go_wp2_with fail;refine hc.mono ?_;rintro e w5 ⟨rfl,m5⟩;have KD5:=m5.at KD.out (by simp);have b10:=Za (i:=10) KD5 J;have b11:=Za (i:=11) KD5 J;have b12:=Za (i:=12) KD5 J;have y10:=Zb (i:=10) KD5;have y11:=Zb (i:=11) KD5;have y12:=Zb (i:=12) KD5;have l5:=B9 KD5;have mm5:Ze [g5] w5 (((w5.setCell ⟨g5,10,O⟩ (U Y x.m.qq)).setCell ⟨g5,11,O⟩ (U Y x.m.qn)).setCell ⟨g5,12,O⟩ (U Y x.m.zd)):=(((Zr_ _ _).xw _ _).xw _ _).xw _ _;have K6:=Zh_ (show (((w5.setCell ⟨g5,10,O⟩ (U Y x.m.qq)).setCell ⟨g5,11,O⟩ (U Y x.m.qn)).setCell ⟨g5,12,O⟩ (U Y x.m.zd)).heap[g5]? =I (.cells (Qk x.tag mark 0 q.st x.m.qq x.m.qn x.m.zd va vr vw vo) 50 (0,0)) from Zd _ (Zd _ (Zd _ KD5)));have RA6:=Zh_ ((RA.out.mod m5).zy KD5 (by decide) mm5);have RR6:=Zh_ ((RR.out.mod m5).zy KD5 (by decide) mm5);have RW6:=Zh_ ((RW.out.mod m5).zy KD5 (by decide) mm5);have RO6:=Zh_ ((RO.out.mod m5).zy KD5 (by decide) mm5);have Z6':=mm5.at (m5.at Z6.out (by simp)) (by have:=NE.out;simp;omega);have M6:=Zh_ ((MC.out.trans m5).then mm5 (λ k hk=>.inr (by have:=HN.out;have:=HG.out;simp at hk;omega)));clear Z6;have Z6:=Zh_ Z6';clear Z6' mm5 KD5 m5 hc c9 c6;go_upto_region 4 with fail;refine wp_region_lit ?_;refine wpList_load_row J 50 _ J g5 J 50 (Qk x.tag mark 0 q.st x.m.qq x.m.qn x.m.zd va vr vw vo) (0,0) _ K6.out underlying50 J (by kernel_rfl) ?_;refine wpList_store_row J 50 _ _ J w.heap.size (Qk x.tag mark 0 q.st x.m.qq x.m.qn x.m.zd va vr vw vo) J J 50 Yd Z6.out (by kernel_rfl) J (ONE.out _ _ _) ?_;generalize (((w5.setCell ⟨g5,10,O⟩ (U Y x.m.qq)).setCell ⟨g5,11,O⟩ (U Y x.m.qn)).setCell ⟨g5,12,O⟩ (U Y x.m.zd))=w6 at *
   go_wp2_with fail;refine bodyPost_ret (v:=.agg (Qk x.tag mark 0 q.st x.m.qq x.m.qn x.m.zd va vr vw vo)) (results_cell_row (P:=N) (fn:=Tryz.f235) (p:=4) (ty:=50) J _ _ w.heap.size 50 _ (0,0) _ J (Y0 Z6.out) underlying50 J (by kernel_rfl)) J ?_;have mm:Ze [w.heap.size] w6 (w6.setRow w.heap.size (Qk x.tag mark 0 q.st x.m.qq x.m.qn x.m.zd va vr vw vo)):=(Zr_ _ _).setRow _ _ (.inl (by simp));have le:=Nat.le_of_lt HN.out;have ht:({x.told with mark:=mark}:Zu)=⟨0,0,0,x.tag,x.args,mark,0,x.m.reads,x.m.buf.all,x.m.out,x.m.qq,x.m.qn,x.m.zd,0,0⟩:=by unfold Z8.told;simp [hp]
   rw [ht];exact ⟨_,_,_,_,_,J,(RA6.out.qj le).zy Z6.out (by decide) mm,(RR6.out.qj le).zy Z6.out (by decide) mm,(RW6.out.qj le).zy Z6.out (by decide) mm,(RO6.out.qj le).zy Z6.out (by decide) mm,M6.out.then mm (λ k hk=>.inr (by simp at hk;omega))⟩
  ·have d4:(x.part==4)=false:=by simp [hp]
   have c9:=((HR0.out _ MC.out).cell 9 (u:=U Y x.part) J).1;have hlt:=B9 (HR0.out _ MC.out).hd;have K6:=Zh_ (show wc.heap[g5]? =I (.cells (Qk x.tag mark 0 q.st 0 0 0 va vr vw vo) 50 (0,0)) from KD.out);go_upto_region 4 with fail;refine wp_region_lit ?_;refine wpList_load_row J 50 _ J g5 J 50 (Qk x.tag mark 0 q.st 0 0 0 va vr vw vo) (0,0) _ K6.out underlying50 J (by kernel_rfl) ?_;refine wpList_store_row J 50 _ _ J w.heap.size (Qk x.tag mark 0 q.st 0 0 0 va vr vw vo) J J 50 Yd Z6.out (by kernel_rfl) J (ONE.out _ _ _) ?_;have RA6:=RA;have RR6:=RR;have RW6:=RW;have RO6:=RO;have M6:=MC;go_wp2_with fail;refine bodyPost_ret (v:=.agg (Qk x.tag mark 0 q.st 0 0 0 va vr vw vo)) (results_cell_row (P:=N) (fn:=Tryz.f235) (p:=4) (ty:=50) J _ _ w.heap.size 50 _ (0,0) _ J (Y0 Z6.out) underlying50 J (by kernel_rfl)) J ?_;have mm:Ze [w.heap.size] wc (wc.setRow w.heap.size (Qk x.tag mark 0 q.st 0 0 0 va vr vw vo)):=(Zr_ _ _).setRow _ _ (.inl (by simp));have le:=Nat.le_of_lt HN.out;have ht:({x.told with mark:=mark}:Zu)=⟨0,0,0,x.tag,x.args,mark,0,x.m.reads,x.m.buf.all,x.m.out,0,0,0,0,0⟩:=by unfold Z8.told;simp [hp]
   rw [ht];exact ⟨_,_,_,_,_,J,(RA6.out.qj le).zy Z6.out (by decide) mm,(RR6.out.qj le).zy Z6.out (by decide) mm,(RW6.out.qj le).zy Z6.out (by decide) mm,(RO6.out.qj le).zy Z6.out (by decide) mm,M6.out.then mm (λ k hk=>.inr (by simp at hk;omega))⟩
end
end Go.Proofs.YtkhonmhnchdpkaaGreat

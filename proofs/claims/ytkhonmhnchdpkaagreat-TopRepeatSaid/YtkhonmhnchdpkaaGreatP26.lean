/- A part of the proof; no condition. -/
import Derived.Test.YtkhonmhnchdpkaaGreatP25
import Derived.Great.BuildSlice
set_option maxRecDepth 100000
set_option maxHeartbeats 40000000
namespace Go.Proofs.YtkhonmhnchdpkaaGreat
open Go.RowKit _root_.Go.Proofs.Tryz
section
section
theorem Df (l:Array Bool) (i:Nat):(l.setIfInBounds i true).getD i true=true:=by
 simp only [Array.getD_eq_getD_getElem?,Array.getElem?_setIfInBounds]
 by_cases h:i < l.size <;> simp [h]
variable {P:Program} {ops:Array Oper} {n i m:Nat} {o:Oper} {a0:Act} {R:World->World->Prop} {Rj:Nat->World->World->Prop} {p:Nat} {Bp:World->Prop} {wd:World} {F:Nat->Value->World->Prop}
def OpE (P:Program) (ops:Array Oper) (a0:Act) (R:World->World->Prop) (Rj:Nat->World->World->Prop) (p:Nat) (Bp:World->Prop) (wd:World) (F:Nat->Value->World->Prop) (i:Nat) (o:Oper):Prop:=
 ∀ (a:Act) (wx:World),R wd wx->(i=p->Bp wx)->
  (∀ (t j:Nat) (oj:Oper),(o.looksAt ops).contains t=true->ops[j]? =some oj->oj.dst=some t->F j (a.eval (.tmp t)) wx)->
  (∀ (t:Nat),(o.looksAt ops).contains t=true->(∀ (j:Nat) (oj:Oper),ops[j]? =some oj->oj.dst≠some t)->a.eval (.tmp t)=a0.eval (.tmp t))->
  Jy P (λ v w'=>Rj i wx w'/\F i v w') ((execOp a.eval o).run P wx)
def Uz (ops:Array Oper):Nat->Nat->Nat->Bool
 |0,_,_=>false
 |n+1,i,j=>match ops[i]? with
  |none=>false
  |some o=>o.after.any λ e=>Region.binds .any e&&(e.on==j || Uz ops n e.on j)
theorem Gs {listed:Array Bool} (hs:listed.size=ops.size) (hd:∀ (j:Nat) (oj:Oper),ops[j]? =some oj->listed.getD j false=true->∀ e∈oj.after,Region.binds .any e=true->listed.getD e.on false=true):∀ (n i j:Nat),listed.getD i false=true->Uz ops n i j=true->listed.getD j false=true
 |0,i,j,_,h=>by cases h
 |n+1,i,j,hi,h=>by
  unfold Uz at h;cases ho:ops[i]? with
  |none=>rw [ho] at h;cases h
  |some o=>
   rw [ho] at h;simp only at h;rw [Array.any_eq_true] at h;obtain ⟨q,hq,hb⟩:=h;simp only [Bool.and_eq_true,Bool.or_eq_true,beq_iff_eq] at hb;have:=hd i o ho hi _ (Array.getElem_mem hq) hb.1;rcases hb.2 with e|e
   ·rw [<-e];exact this
   ·exact Gs hs hd n _ j this e
theorem Inv.stepE (hreg:Uf ops a0.tmps.size=true) (hF:∀ i j v w w',i≠j->Uz ops ops.size i j=false->F i v w->Rj j w w'->F i v w') (hsub:∀ i a b,Rj i a b->R a b) (htr:∀ a b c,R a b->R b c->R a c) {listed:Array Bool} {a:Act} {wx:World} (h:Inv ops a0 R wd F listed a wx) (hi:ops[i]? =some o) (hl:listed.getD i true=false) (hall:∀ e∈o.after,Region.binds .any e=true->listed.getD e.on false=true) {v:Value} {w':World} (hR':Rj i wx w') (hv:F i v w') (hu:o.dst=none->v=undef\/F i undef w'):
  Inv ops a0 R wd F (listed.setIfInBounds i true) (a.put o.dst v) w':=by
 have hR:=hsub _ _ _ hR';have fi:=Qp (Q6 hreg hi);have hlt:i < listed.size:=by rw [h.sz];exact (Array.getElem?_eq_some_iff.1 hi).1
 refine ⟨by simpa using h.sz,htr _ _ _ h.cls hR,by rw [Gg];exact h.dfs,by rw [G8];exact h.tsz,λ k hk=>?_,λ j oj hj hlj e he hb=>getD_set_true (?_),λ j oj hj hlj=>?_⟩
 ·rw [Vn,if_neg (λ hh=>?_)]
  ·refine h.out k (λ j oj hj hd=>?_);have:=hk j oj hj hd
   by_cases hij:i=j
   ·subst hij;exact hl
   ·simpa [Array.getElem?_setIfInBounds,hij] using this
  ·have:=hk i o hi hh.1;simp [hlt] at this
 ·by_cases hij:i=j
  ·subst hij;rw [hi] at hj;obtain rfl:=Zo_ hj;exact hall e he hb
  ·exact h.dwn j oj hj (by simpa [Array.getElem?_setIfInBounds,hij] using hlj) e he hb
 ·by_cases hij:i=j
  ·subst hij;rw [hi] at hj;obtain rfl:=Zo_ hj;cases hd:o.dst with
   |none=>
    rcases hu hd with e|e
    ·rw [<-e];exact hv
    ·exact e
   |some d=>
    show F i ((a.put (some d) v).tmps.getD d undef) w';rw [Vn,if_pos ⟨rfl,by rw [h.tsz];exact fi.dn d hd⟩];exact hv
  ·have hlj':listed.getD j false=true:=by simpa [Array.getElem?_setIfInBounds,hij] using hlj
   have hw:Uz ops ops.size j i=false:=by
    cases hq:Uz ops ops.size j i with
    |false=>rfl
    |true=>
     have:=Gs h.sz h.dwn _ j i hlj' hq;have hlt':i < listed.size:=hlt;simp [hlt'] at this hl;rw [hl] at this;cases this
   have:=h.don j oj hj hlj';cases hd:oj.dst with
   |none=>rw [hd] at this;exact hF _ _ _ _ _ (Ne.symm hij) hw this hR'
   |some d=>
    rw [hd] at this;show F j ((a.put o.dst v).tmps.getD d undef) w';rw [Vn,if_neg (λ hh=>fi.dist j oj d hj hd hij hh.1)];exact hF _ _ _ _ _ (Ne.symm hij) hw this hR'
theorem Inv.runE (hreg:Uf ops a0.tmps.size=true) (hF:∀ i j v w w',i≠j->Uz ops ops.size i j=false->F i v w->Rj j w w'->F i v w') (hsub:∀ i a b,Rj i a b->R a b) (htr:∀ a b c,R a b->R b c->R a c) (hB:∀ j a b,j≠p->Rj j a b->Bp a->Bp b) {listed:Array Bool} {a:Act} {wx:World} {Q:Exit->Act->World->Prop} (hops:∀ i o,i < m->ops[i]? =some o->OpE P ops a0 R Rj p Bp wd F i o) (h:Inv ops a0 R wd F listed a wx) (hb:listed.getD p true=false->Bp wx) (him:i < m) (hr:i∈Region.ready .any ops listed)
  {K:Act->World->Prop} (hK:∀ a' w',Inv ops a0 R wd F (listed.setIfInBounds i true) a' w'->((listed.setIfInBounds i true).getD p true=false->Bp w')->K a' w') (hskip:∀ i v w',F i v w'->∀ o,ops[i]? =some o->o.dst=none->F i undef w'):wpOp P ops Q i K a wx:=by
 obtain ⟨hl,o,hi,hall⟩:=mem_ready.1 hr;have fi:=Qp (Q6 hreg hi);unfold wpOp;rw [hi];simp only;rw [if_pos (by unfold Region.wanted;rw [fi.g])];left;have hnext:∀ w',Rj i wx w'->(listed.setIfInBounds i true).getD p true=false->Bp w':=by
  intro w' hR hp
  by_cases hip:i=p
  ·subst hip;rw [Df] at hp;cases hp
  ·rw [getD_set_ne true hip] at hp;exact hB i _ _ hip hR (hb hp)
 have:=hops i o him hi a wx h.cls (λ e=>hb (by rw [<-e];exact hl)) (λ t j oj ht hj hd=>by
  obtain ⟨e,he,rfl,hb⟩:=fi.look j oj t hj hd ht;have:=h.don e.on oj hj (hall e he hb);rw [hd] at this;exact this) (λ t _ hno=>by
  rw [Act.eval_tmp,Act.eval_tmp];exact h.out t (λ j oj hj hd=>absurd hd (hno j oj hj)))
 unfold Oper.wp;revert this;generalize (execOp a.eval o).run P wx=r;intro this;cases r with
 |halt x w'=>exact this.elim
 |ok n w'=>
  cases n with
  |value v=>exact hK _ _ (h.stepE hreg hF hsub htr hi hl hall this.1 this.2 (λ hd=>.inr (hskip _ _ _ this.2 o hi hd))) (hnext _ this.1)
  |skip=>exact hK _ _ (h.stepE hreg hF hsub htr hi hl hall this.1 this.2 (λ _=>.inl rfl)) (hnext _ this.1)
  |enter f args=>
   refine Calls.mono this (λ e w'' ⟨v,he,hv⟩=>?_);subst he;exact hK _ _ (h.stepE hreg hF hsub htr hi hl hall hv.1 hv.2 (λ hd=>.inr (hskip _ _ _ hv.2 o hi hd))) (hnext _ hv.1)
  |_=>exact this.elim
theorem Inv.allE (hreg:Uf ops a0.tmps.size=true) (hF:∀ i j v w w',i≠j->Uz ops ops.size i j=false->F i v w->Rj j w w'->F i v w') (hsub:∀ i a b,Rj i a b->R a b) (htr:∀ a b c,R a b->R b c->R a c) (hB:∀ j a b,j≠p->Rj j a b->Bp a->Bp b) {Q:Exit->Act->World->Prop} (hsz:ops.size=m+1) (hcov:Fe ops m=true) (hops:∀ i o,i < m->ops[i]? =some o->OpE P ops a0 R Rj p Bp wd F i o) (hskip:∀ i v w',F i v w'->∀ o,ops[i]? =some o->o.dst=none->F i undef w')
  (hend:∀ a w',(∀ listed,Inv ops a0 R wd F listed a w'->listed.getD m true=false->(∀ j,j < m->listed.getD j false=true)->wpList P ops Q [ops[m]!] a w')):∀ (fuel:Nat) (listed:Array Bool) (a:Act) (wx:World),listed.getD m true=false->(∀ n,n=(List.range ops.size).countP (λ i=>!listed.getD i true)->n<=fuel)->(listed.getD p true=false->Bp wx)->Inv ops a0 R wd F listed a wx->wpAny P .any ops Q fuel listed a wx
 |0,listed,a,wx,hlm,hn,hb,h=>by
  exfalso;have h0:=hn _ rfl;have hz:(List.range ops.size).countP (λ i=>!listed.getD i true)=0:=by omega
  rw [List.countP_eq_zero] at hz;have:=hz m (by rw [List.mem_range];omega);rw [hlm] at this;simp at this
 |fuel+1,listed,a,wx,hlm,hn,hb,h=>by
  refine ⟨λ hr=>?_,λ i hi=>?_⟩
  ·exfalso;have:=Jp hreg h.sz hr m (by omega);have hm':m < listed.size:=by rw [h.sz];omega
   have e:listed.getD m false=listed.getD m true:=by simp [hm']
   rw [e,hlm] at this;cases this
  by_cases him:i=m
  ·subst him;have hom:ops[i]? =some ops[i]!:=by simp [hsz]
   obtain ⟨hl,o,ho,hall⟩:=mem_ready.1 hi;have hc:∀ d j,j+d=i->0 < d->listed.getD j false=true:=by
    intro d
    induction d using Nat.strongRecOn with
    |_ d ih=>
     intro j hj hd;obtain ⟨k,ok,hk,hjk,hki,he⟩:=Tr hcov j (by omega);unfold Fd at he;rw [Array.any_eq_true] at he;obtain ⟨q,hq,hb⟩:=he;simp only [Bool.and_eq_true,beq_iff_eq] at hb;rw [<-hb.1]
     by_cases hki':k=i
     ·subst hki';rw [ho] at hk;obtain rfl:=Zo_ hk;exact hall _ (Array.getElem_mem hq) hb.2
     ·exact h.dwn k ok hk (ih (i - k) (by omega) k (by omega) (by omega)) _ (Array.getElem_mem hq) hb.2
   have hw:=hend a wx listed h hlm (λ j hj=>hc (i - j) j (by omega) (by omega));unfold wpOp;rw [hom];have fi:=Qp (Q6 hreg hom);simp only;rw [if_pos (by unfold Region.wanted;rw [fi.g])];unfold wpList at hw;rw [if_pos (by unfold Region.wanted;rw [fi.g])] at hw;refine hw.imp (Oper.wp_mono (λ a' w' hq=>?_)) id;have e:=Po h.sz hsz (λ j hj=>hc (i - j) j (by omega) (by omega));have hq:Q .normal a' w':=hq;cases fuel with
   |zero=>exact ⟨e,hq⟩
   |succ f=>exact ⟨λ _=>hq,λ j hj=>by rw [e] at hj;cases hj⟩
  refine h.runE hreg hF hsub htr hB hops hb (by have:=(Array.getElem?_eq_some_iff.1 (mem_ready.1 hi).2.choose_spec.1).1;omega) hi (λ a' w' h' hb'=>Inv.allE hreg hF hsub htr hB hsz hcov hops hskip hend fuel _ a' w' (by rw [getD_set_ne true him];exact hlm) ?_ hb' h') hskip;intro n hn';obtain ⟨hl,o,ho,_⟩:=mem_ready.1 hi;have hlt:=(Array.getElem?_eq_some_iff.1 ho).1;have h1:=hn _ rfl;have:(List.range ops.size).countP (λ j=>!(listed.setIfInBounds i true).getD j true)+1<=(List.range ops.size).countP (λ j=>!listed.getD j true):=by
   have key:∀ l:List Nat,l.Nodup->i∈l->l.countP (λ j=>!(listed.setIfInBounds i true).getD j true)+1<=l.countP (λ j=>!listed.getD j true):=by
    intro l
    induction l with
    |nil=>intro _ hm;cases hm
    |cons x l ih=>
     intro hnd hm;rw [List.nodup_cons] at hnd;rw [List.countP_cons,List.countP_cons];rcases List.mem_cons.1 hm with rfl|hm
     ·have e1:(!(listed.setIfInBounds i true).getD i true)=false:=by
       simp [Array.getElem?_setIfInBounds];split <;> rfl
      have e2:(!listed.getD i true)=true:=by rw [hl];rfl
      rw [e1,e2];have:l.countP (λ j=>!(listed.setIfInBounds i true).getD j true)<=l.countP (λ j=>!listed.getD j true):=by
       refine List.countP_mono_left (λ y hy=>?_);have hne:i≠y:=λ e=>hnd.1 (e ▸ hy);simp [hne]
      rw [if_neg (by decide),if_pos rfl];omega
     ·have hne:i≠x:=λ e=>hnd.1 (e ▸ hm);have e1:(!(listed.setIfInBounds i true).getD x true)=!listed.getD x true:=by simp [hne]
      rw [e1];have:=ih hnd.2 hm;omega
   exact key _ List.nodup_range (List.mem_range.2 hlt)
  omega
end
section
variable {P:Program} {ops:Array Oper} {n i m:Nat} {o:Oper} {a0:Act} {F:Nat->Value->World->Prop}
theorem Ud {id:Nat} {Q:Exit->Act->World->Prop} {w:World} (hm:P.follows .mixedOrders=true) (m:Nat) {ol:Oper} (hol:ops[m]? =some ol) (R:World->World->Prop) (Rj:Nat->World->World->Prop) (p:Nat) (Bp:World->Prop) (F:Nat->Value->World->Prop)
  (hreg:Uf ops a0.tmps.size=true) (hsz:ops.size=m+1) (hcov:Fe ops m=true) (hF:∀ i j v w w',i≠j->F i v w->Rj j w w'->F i v w') (hsub:∀ i a b,Rj i a b->R a b) (hB:∀ j a b,j≠p->Rj j a b->Bp a->Bp b) (hB0:Bp w.drew) (hrf:∀ a,R a a) (htr:∀ a b c,R a b->R b c->R a c)
  (hskip:∀ i v w',F i v w'->∀ o,ops[i]? =some o->o.dst=none->F i undef w')
  (hops:∀ i o,i < m->ops[i]? =some o->OpE P ops a0 R Rj p Bp w.drew F i o)
  (hend:∀ (vs:Nat->Value) w',R w.drew w'->(∀ i,i < m->F i (vs i) w')->wpList P ops Q [ol] (Xb a0 vs (ops.toList.take m) 0) w'):(Code.region id ops true).wp P Q a0 w:=by
 refine wp_region_any hm (Inv.allE hreg (λ i j v w w' hij _=>hF i j v w w' hij) hsub htr hB hsz hcov hops hskip ?_ ops.size _ a0 _ (by simp [hsz]) ?_ (λ _=>hB0) ⟨by simp,hrf _,rfl,rfl,λ _ _=>rfl,λ j oj hj hl=>?_,λ j oj hj hl=>?_⟩)
 ·intro a w' listed h hlm hall
  let vs:Nat->Value:=λ i=>match (ops[i]?).bind (·.dst) with|none=>undef|some d=>a.tmps.getD d undef
  have e:a=Xb a0 vs (ops.toList.take m) 0:=by
   have hsz':a.tmps.size=(Xb a0 vs (ops.toList.take m) 0).tmps.size:=by rw [U8];exact h.tsz
   have ht:a.tmps=(Xb a0 vs (ops.toList.take m) 0).tmps:=by
    refine Array.ext hsz' (λ k hk1 hk2=>?_);have g1:a.tmps.getD k undef=a.tmps[k]:=by simp [hk1]
    have g2:(Xb a0 vs (ops.toList.take m) 0).tmps.getD k undef=(Xb a0 vs (ops.toList.take m) 0).tmps[k]:=by simp [hk2]
    rw [<-g1,<-g2]
    by_cases hex:∃ (j:Nat) (oj:Oper),j < m/\ops[j]? =some oj/\oj.dst=some k
    ·obtain ⟨j,oj,hjm,hj,hd⟩:=hex;rw [G9 vs k (ops.toList.take m) 0 a0 j oj (by rw [List.getElem?_take_of_lt hjm];simpa using hj) hd (by rw [<-h.tsz];exact hk1) (λ j' o' hj' hne hd'=>by
      have hj2:ops[j']? =some o':=by
       by_cases hlt:j' < m
       ·rw [List.getElem?_take_of_lt hlt] at hj';simpa using hj'
       ·rw [List.getElem?_eq_none (by simp;omega)] at hj';cases hj'
      exact (Qp (Q6 hreg hj)).dist j' o' k hj2 hd' (Ne.symm hne) hd)]
     show _=(match (ops[0+j]?).bind (·.dst) with|none=>undef|some d=>a.tmps.getD d undef);rw [Nat.zero_add,hj];simp [hd]
    ·rw [U9 vs k (ops.toList.take m) 0 a0 (λ o ho hd=>by
      obtain ⟨j,hj⟩:=List.getElem?_of_mem ho;have hlt:j < m:=by
       have:=(List.getElem?_eq_some_iff.1 hj).1;simp at this;omega
      rw [List.getElem?_take_of_lt hlt] at hj;exact hex ⟨j,o,hlt,by simpa using hj,hd⟩)]
     exact h.out k (λ j oj hj hd=>by
      by_cases hlt:j < m
      ·exact absurd ⟨j,oj,hlt,hj,hd⟩ hex
      ·have:=(Array.getElem?_eq_some_iff.1 hj).1;obtain rfl:j=m:=by omega
       exact hlm)
   have hd:a.defers=(Xb a0 vs (ops.toList.take m) 0).defers:=by rw [Vo];exact h.dfs
   cases a
   cases hp:Xb a0 vs (ops.toList.take m) 0
   rw [hp] at ht hd;simp only at ht hd;rw [ht,hd]
  rw [e];have hom:ops[m]! =ol:=by
   have:=hol;simp only [getElem!_def,this]
  rw [hom];refine hend vs w' h.cls (λ i hi=>?_);have hi':i < ops.size:=by omega
  have hoi:ops[i]? =some ops[i]:=by simp [hi']
  have:=h.don i _ hoi (hall i hi);show F i (match (ops[i]?).bind (·.dst) with|none=>undef|some d=>a.tmps.getD d undef) w';rw [hoi];simp only [Option.bind_some];cases hd:ops[i].dst with
  |none=>rw [hd] at this;exact this
  |some d=>rw [hd] at this;exact this
 ·intro k hk;rw [hk];refine Nat.le_trans List.countP_le_length (by simp)
 ·have hlt:=(Array.getElem?_eq_some_iff.1 hj).1;simp [hlt] at hl
 ·have hlt:=(Array.getElem?_eq_some_iff.1 hj).1;simp [hlt] at hl
end
end
section
def Si (x n0:Nat) (av:Option Addr) (cv nd:Nat) (dl:List Value) (cs:Array Value):Nat->Value->World->Prop
 |0,v,_=>v=.pointer (some ⟨x,0,none⟩)
 |1,v,_=>v=.pointer (some ⟨x,0,none⟩)
 |2,v,_=>v=.pointer (some ⟨x,0,none⟩)
 |3,v,_=>v=.pointer (some ⟨x,14,none⟩)
 |4,v,_=>v=.slice av nd cv
 |5,v,_=>v=.agg cs
 |6,v,w=>∃ B,v=.slice (some ⟨B,0,none⟩) 1 1/\w.heap[B]? =some (.cells cs 50 (0,0))/\n0<=B
 |7,v,w=>w.ownsRow 0 50 19 v (nd+1) (dl++cs.toList)/\∀ g,v.ownBlock=some g->(Value.slice av nd cv).ownBlock=some g\/n0<=g
 |8,v,_=>v=.pointer (some ⟨x,0,none⟩)
 |9,v,_=>v=.pointer (some ⟨x,14,none⟩)
 |_,_,_=>True
def J8 (av:Option Addr) (nd cv:Nat) (i:Nat):World->World->Prop:=if i=7 then Ze (Value.slice av nd cv).ownBlock.toList else Ze []
theorem beg9F_on (x n0:Nat) (av:Option Addr) (cv nd:Nat) (dl:List Value) (cs:Array Value) (hg:∀ g,(Value.slice av nd cv).ownBlock=some g->g < n0) (i j:Nat) (v:Value) (w w':World) (hij:i≠j) (h:Si x n0 av cv nd dl cs i v w) (m:J8 av nd cv j w w'):Si x n0 av cv nd dl cs i v w':=by
 match i,hij,h with
 |0,_,h=>exact h
 |1,_,h=>exact h
 |2,_,h=>exact h
 |3,_,h=>exact h
 |4,_,h=>exact h
 |5,_,h=>exact h
 |6,_,⟨B,h1,h2,h3⟩=>
  refine ⟨B,h1,?_,h3⟩;unfold J8 at m;split at m
  ·exact m.at h2 (λ hm=>by have:=hg B (Option.mem_toList.1 hm);omega)
  ·exact m.at h2 (by simp)
 |7,hij,⟨h1,h2⟩=>
  unfold J8 at m;rw [if_neg (Ne.symm hij)] at m;exact ⟨Ye h1 m,h2⟩
 |8,_,h=>exact h
 |9,_,h=>exact h
 |i+10,_,h=>trivial
theorem W0 (x n0:Nat) (av:Option Addr) (cv nd:Nat) (dl:List Value) (cs:Array Value) (i:Nat) (h:10<=i) (v:Value) (w:World):Si x n0 av cv nd dl cs i v w:=by
 match i,h with
 |j+10,_=>trivial
theorem Uj {P:Program} {w:World} {o:Oper} {a:Act} {K:Value->World->Prop} (ty:TypeId) (x:Operand) (ho:o.op=.load ty x)
  (g:Nat) (hx:a.eval x=.pointer (some ⟨g,0,none⟩)) (t:TypeId) (cs:Array Value) (fr:Nat×Nat) (d:TypeDesc) (hg:w.heap[g]? =some (.cells cs t fr))
  (hu:P.underlying ty=some d) (hd:(match d with|.struct _|.array _ _=>true|_=>false)=true) (hi:(P.info? ty).map (·.size)=some cs.size)
  (h:K (.agg cs) w):Jy P K ((execOp a.eval o).run P w):=by
 unfold execOp;simp only [ho,hx,Instr.loadAt,Instr.sureAddr,Sem.run_bind,Sem.run_pure,Result.andThen_ok,run_loadVar_row w g t ty cs fr d hg hu hd hi];exact h
theorem Qy {P:Program} {w:World} {o:Oper} {a:Act} {K:Value->World->Prop} (t e:TypeId) (x:Operand) (ho:o.op=.buildSlice t 1 #[(0,x)])
  (cs:Array Value) (hx:a.eval x=.agg cs) (ie:TypeInfo) (z:Value) (hu:P.underlying t=some (.slice e)) (hie:P.info? e=some ie) (hz:ie.zero=some z) (hsz:ie.size=cs.size) (h0:0 < cs.size) (h24:cs.size<=1000)
  (h:K (.slice (some ⟨w.heap.size,0,none⟩) 1 1) (w.alloc (.cells cs e))):Jy P K ((execOp a.eval o).run P w):=by
 unfold execOp;simp only [ho,Sem.run_bind];rw [run_buildSlice w t e 1 _ cs ie z hu hie hz (by rw [hsz];omega) (by rw [hsz];omega) ?_]
 ·exact h
 ·have hf:=Great.fill_whole (s:=cs.size) h0 [.agg cs] ((Array.range (1 * ie.size)).map (z.cells[·% z.cells.size]!)) (by intro v hv;simp at hv;subst hv;rfl) (by simp [hsz]);rw [hsz] at hf ⊢
  simp only [List.map_toArray,List.map_cons,List.map_nil,hx];have e:([Value.agg cs].flatMap λ v=>v.cells.toList).toArray=cs:=by simp [Value.cells]
  rw [e] at hf;exact hf
theorem V6 {av:Option Addr} {nd cv i:Nat} {a b:World} (hi:i≠7) (m:Ze [] a b):J8 av nd cv i a b:=by
 unfold J8;rw [if_neg hi];exact m
theorem Wz {av:Option Addr} {nd cv i:Nat} {a b:World} (hi:i≠7) (m:J8 av nd cv i a b):Ze [] a b:=by
 unfold J8 at m;rw [if_neg hi] at m;exact m
theorem Wy {av:Option Addr} {nd cv i:Nat} {a b:World} (m:J8 av nd cv i a b):Ze (Value.slice av nd cv).ownBlock.toList a b:=by
 unfold J8 at m;split at m
 ·exact m
 ·exact m.weak _
end
section
variable {w0 w w':World} {lab lab':Nat->Nat} {P:EP} {s s':Zq}
def Nb (n0:Nat) (x:Z2) (v:Value) (w:World):Prop:=∃ q,v=.pointer (some ⟨q.k,0,none⟩)/\Zx w q x/\q.nx=Xe 1/\∀ k∈q.blocks,n0<=k
theorem Nb.mod {n0:Nat} {x:Z2} {v:Value} {w w':World} (h:Nb n0 x v w) (m:Ze [] w w'):Nb n0 x v w':=by
 obtain ⟨q,h1,h2,h3,h4⟩:=h;exact ⟨q,h1,h2.mod m (by simp),h3,h4⟩
def Ng (n0:Nat) (x:Yg) (v:Value) (w:World):Prop:=∃ q,v=.pointer (some ⟨q.k,0,none⟩)/\Z9 w q x/\∀ k∈q.blocks,n0<=k
theorem Ng.mod {n0:Nat} {x:Yg} {v:Value} {w w':World} (h:Ng n0 x v w) (m:Ze [] w w'):Ng n0 x v w':=by
 obtain ⟨q,h1,h2,h4⟩:=h;exact ⟨q,h1,h2.mod m (by simp),h4⟩
def Kd (n0:Nat) (g:Qw) (v:Value) (w:World):Prop:=
 match g with
 |.wr x=>∃ q,v=.iface 140 (.pointer (some ⟨q.k,0,none⟩))/\Zx w q x/\q.nx=Xe 1/\∀ k∈q.blocks,n0<=k
 |.rd x=>∃ q,v=.iface 142 (.pointer (some ⟨q.k,0,none⟩))/\Z9 w q x/\∀ k∈q.blocks,n0<=k
theorem Kd.mod {n0:Nat} {g:Qw} {v:Value} {w w':World} {S:List Nat} (h:Kd n0 g v w) (m:Ze S w w') (hS:∀ k∈S,k < n0):Kd n0 g v w':=by
 cases g with
 |wr x=>
  obtain ⟨q,h1,h2,h3,h4⟩:=h;exact ⟨q,h1,h2.mod m (λ k hk hs=>by have:=h4 k hk;have:=hS k hs;omega),h3,h4⟩
 |rd x=>
  obtain ⟨q,h1,h2,h4⟩:=h;exact ⟨q,h1,h2.mod m (λ k hk hs=>by have:=h4 k hk;have:=hS k hs;omega),h4⟩
def Sk (k n5 x n0:Nat) (t tag c0 c1 c2 c3:Int) (aa ca:Option Addr) (an ac cn ccap:Nat) (code:List Xf) (args:List Nat):Nat->Value->World->Prop
 |0,v,_=>v=.pointer (some ⟨k,0,none⟩)
 |1,v,_=>v=.pointer (some ⟨x,0,none⟩)
 |2,v,_=>v=.pointer (some ⟨x,0,none⟩)
 |3,v,_=>v=.pointer (some ⟨x,0,none⟩)
 |4,v,_=>v=.agg #[.int .i64 c0,.int .i64 c1,.int .i64 c2,.int .i64 c3]
 |5,v,_=>v=.int .i64 t
 |6,v,_=>v=.agg #[.int .i64 tag,.slice ca cn ccap]
 |7,v,_=>v=.pointer (some ⟨n5,1,none⟩)
 |8,v,_=>v=.slice aa an ac
 |9,v,w=>Nb n0 (Uo c0 c1 c2 c3 tag code args) v w
 |10,v,w=>Kd n0 (.wr (Uo c0 c1 c2 c3 tag code args)) v w
 |11,v,_=>v=.pointer (some ⟨k,0,none⟩)
 |12,v,_=>v=.pointer (some ⟨k,2,none⟩)
 |_,_,_=>True
theorem beg5F_on (k n5 x n0:Nat) (t tag c0 c1 c2 c3:Int) (aa ca:Option Addr) (an ac cn ccap:Nat) (code:List Xf) (args:List Nat) (i:Nat) (v:Value) (w w':World) (h:Sk k n5 x n0 t tag c0 c1 c2 c3 aa ca an ac cn ccap code args i v w) (m:Ze [] w w'):Sk k n5 x n0 t tag c0 c1 c2 c3 aa ca an ac cn ccap code args i v w':=by
 match i,h with
 |0,h=>exact h
 |1,h=>exact h
 |2,h=>exact h
 |3,h=>exact h
 |4,h=>exact h
 |5,h=>exact h
 |6,h=>exact h
 |7,h=>exact h
 |8,h=>exact h
 |9,h=>exact Nb.mod h m
 |10,h=>exact Kd.mod (n0:=n0) (g:=(.wr (Uo c0 c1 c2 c3 tag code args))) (v:=v) (w:=w) (S:=[]) h m (by simp)
 |11,h=>exact h
 |12,h=>exact h
 |i+13,h=>trivial
theorem W3 (k n5 x n0:Nat) (t tag c0 c1 c2 c3:Int) (aa ca:Option Addr) (an ac cn ccap:Nat) (code:List Xf) (args:List Nat) (i:Nat) (h:13<=i) (v:Value) (w:World):Sk k n5 x n0 t tag c0 c1 c2 c3 aa ca an ac cn ccap code args i v w:=by
 match i,h with
 |j+13,_=>trivial
def Sj (k n5 x n0:Nat) (t tag c0 c1 c2 c3:Int) (aa ca:Option Addr) (an ac cn ccap:Nat) (code:List Xf) (args:List Nat):Nat->Value->World->Prop
 |0,v,_=>v=.pointer (some ⟨k,0,none⟩)
 |1,v,_=>v=.pointer (some ⟨x,0,none⟩)
 |2,v,_=>v=.pointer (some ⟨x,0,none⟩)
 |3,v,_=>v=.pointer (some ⟨x,0,none⟩)
 |4,v,_=>v=.agg #[.int .i64 c0,.int .i64 c1,.int .i64 c2,.int .i64 c3]
 |5,v,_=>v=.int .i64 t
 |6,v,_=>v=.agg #[.int .i64 tag,.slice ca cn ccap]
 |7,v,_=>v=.pointer (some ⟨n5,1,none⟩)
 |8,v,_=>v=.slice aa an ac
 |9,v,w=>Ng n0 (Up c0 c1 c2 c3 t tag code args) v w
 |10,v,w=>Kd n0 (.rd (Up c0 c1 c2 c3 t tag code args)) v w
 |11,v,_=>v=.pointer (some ⟨k,0,none⟩)
 |12,v,_=>v=.pointer (some ⟨k,2,none⟩)
 |_,_,_=>True
theorem beg6F_on (k n5 x n0:Nat) (t tag c0 c1 c2 c3:Int) (aa ca:Option Addr) (an ac cn ccap:Nat) (code:List Xf) (args:List Nat) (i:Nat) (v:Value) (w w':World) (h:Sj k n5 x n0 t tag c0 c1 c2 c3 aa ca an ac cn ccap code args i v w) (m:Ze [] w w'):Sj k n5 x n0 t tag c0 c1 c2 c3 aa ca an ac cn ccap code args i v w':=by
 match i,h with
 |0,h=>exact h
 |1,h=>exact h
 |2,h=>exact h
 |3,h=>exact h
 |4,h=>exact h
 |5,h=>exact h
 |6,h=>exact h
 |7,h=>exact h
 |8,h=>exact h
 |9,h=>exact Ng.mod h m
 |10,h=>exact Kd.mod (n0:=n0) (g:=(.rd (Up c0 c1 c2 c3 t tag code args))) (v:=v) (w:=w) (S:=[]) h m (by simp)
 |11,h=>exact h
 |12,h=>exact h
 |i+13,h=>trivial
theorem W1 (k n5 x n0:Nat) (t tag c0 c1 c2 c3:Int) (aa ca:Option Addr) (an ac cn ccap:Nat) (code:List Xf) (args:List Nat) (i:Nat) (h:13<=i) (v:Value) (w:World):Sj k n5 x n0 t tag c0 c1 c2 c3 aa ca an ac cn ccap code args i v w:=by
 match i,h with
 |j+13,_=>trivial
theorem info50':(Tryz.prog.info? 50).map (λ i=>(i.zero.map (λ z=>z.cells.size),i.size,i.bytes))=some (some 19,19,216):=by kernel_rfl
theorem info50:∃ i z,Tryz.prog.info? 50=some i/\i.zero=some z/\i.size=19/\i.bytes=216/\z.cells.size=19:=by
 have h:=info50';cases hi:Tryz.prog.info? 50 with
 |none=>rw [hi] at h;cases h
 |some i=>
  rw [hi] at h;simp only [Option.map_some,Option.some.injEq,Prod.mk.injEq] at h;obtain ⟨h1,h2,h3⟩:=h;cases hz:i.zero with
  |none=>rw [hz] at h1;cases h1
  |some z=>
   rw [hz] at h1;simp only [Option.map_some,Option.some.injEq] at h1;exact ⟨i,z,rfl,hz,h2,h3,h1⟩
def BegunP (w:World) (x k cg cc ncalls begun:Nat) (c0 c1 c2 c3 q4 q5 st ro:Int) (pg nprogs pc a r tg ntn tc:Nat) (vd:Value) (dl:List Value) (nd:Nat) (t prog:Int) (g:Qw) (e:Ending) (w':World):Prop:=
 e=.returned (.tuple #[])/\∃ v vd',Kd w.heap.size g v w'/\
  w'.heap[k]? =some (.cells #[.slice (some ⟨cg,0,none⟩) ncalls cc,.int .i64 ((begun:Int)+1),v,.int .i64 nd] 87 (0,0))/\
  w'.heap[x]? =some (.cells #[.int .i64 c0,.int .i64 c1,.int .i64 c2,.int .i64 c3,.slice (some ⟨pg,0,none⟩) nprogs pc,.int .i64 0,.int .i64 1,.int .i64 2,.int .i64 3,.int .i64 q4,.int .i64 q5,.pointer (some ⟨a,0,none⟩),.pointer (some ⟨r,0,none⟩),.slice (some ⟨tg,0,none⟩) ntn tc,vd',.int .i64 st] 79 (0,0))/\
  w'.ownsRow 0 50 19 vd' (nd+1) (dl++Z5 (Xl t begun prog st) {X0 with fr:=ro})/\
  (∀ g,vd'.ownBlock=some g->vd.ownBlock=some g\/w.heap.size<=g)/\Ze (k :: x :: vd.ownBlock.toList) w w'
theorem Bw {w:World} {r:Nat} {o:Int} (c17:w.cell? ⟨r,17,none⟩=some (.int .i64 o)):Calls Tryz.prog 26 #[.pointer (some ⟨r,0,none⟩)] w (λ e w'=>e=.returned (.int .i64 o)/\w=w'):=by
 go_enter func26,ntmps26;go_wp2;go_ret;exact ⟨rfl,rfl⟩
theorem Sh (t prog st ro:Int) (begun:Nat):(Z5 (Xl t begun prog st) {X0 with fr:=ro}).toArray.all (·.oneCell')=true:=by
 unfold Z5 X0;simp only [List.all_toArray,List.all_cons];rfl
def Sl (k n5 x r begun n0:Nat) (t prog st ro:Int):Nat->Value->World->Prop
 |0,v,_=>v=.int .i64 t
 |1,v,_=>v=.pointer (some ⟨k,0,none⟩)
 |2,v,_=>v=.pointer (some ⟨k,0,none⟩)
 |3,v,_=>v=.pointer (some ⟨k,1,none⟩)
 |4,v,_=>v=.int .i64 begun
 |5,v,_=>v=.pointer (some ⟨n5,0,none⟩)
 |6,v,_=>v=.int .i64 prog
 |7,v,_=>v=.pointer (some ⟨x,0,none⟩)
 |8,v,_=>v=.pointer (some ⟨x,0,none⟩)
 |9,v,_=>v=.pointer (some ⟨x,15,none⟩)
 |10,v,_=>v=.int .i64 st
 |11,v,_=>v=.pointer (some ⟨x,0,none⟩)
 |12,v,_=>v=.pointer (some ⟨x,0,none⟩)
 |13,v,_=>v=.pointer (some ⟨x,12,none⟩)
 |14,v,_=>v=.pointer (some ⟨r,0,none⟩)
 |15,v,_=>v=.int .i64 ro
 |16,v,_=>v=.agg (Z5 (Xl t begun prog st) {X0 with fr:=ro}).toArray
 |17,v,w=>Q3 n0 v w
 |_,_,_=>True
theorem beg3F_on (k n5 x r begun n0:Nat) (t prog st ro:Int) (i:Nat) (v:Value) (w w':World) (h:Sl k n5 x r begun n0 t prog st ro i v w) (m:Ze [] w w'):Sl k n5 x r begun n0 t prog st ro i v w':=by
 match i,h with
 |0,h=>exact h
 |1,h=>exact h
 |2,h=>exact h
 |3,h=>exact h
 |4,h=>exact h
 |5,h=>exact h
 |6,h=>exact h
 |7,h=>exact h
 |8,h=>exact h
 |9,h=>exact h
 |10,h=>exact h
 |11,h=>exact h
 |12,h=>exact h
 |13,h=>exact h
 |14,h=>exact h
 |15,h=>exact h
 |16,h=>exact h
 |17,h=>exact Q3.mod h m
 |i+18,h=>trivial
theorem W5 (k n5 x r begun n0:Nat) (t prog st ro:Int) (i:Nat) (h:18<=i) (v:Value) (w:World):Sl k n5 x r begun n0 t prog st ro i v w:=by
 match i,h with
 |j+18,_=>trivial
theorem begin_t {x k tg tc cg cc pg pc a r:Nat} {t prog tag c0 c1 c2 c3 q4 q5 st:Int} {ntn:Nat} {vd:Value} {aa ca:Option Addr} {an ac cn ccap:Nat} {begun ncalls nprogs:Nat} {ai:Int}
 (ht0:0<=t) (ht:t.toNat < ntn) (hb:begun < ncalls) (hp0:0<=prog) (hp:prog.toNat < nprogs)
 (X:w.heap[x]? =some (.cells #[.int .i64 c0,.int .i64 c1,.int .i64 c2,.int .i64 c3,.slice (some ⟨pg,0,none⟩) nprogs pc,.int .i64 0,.int .i64 1,.int .i64 2,.int .i64 3,.int .i64 q4,.int .i64 q5,.pointer (some ⟨a,0,none⟩),.pointer (some ⟨r,0,none⟩),.slice (some ⟨tg,0,none⟩) ntn tc,vd,.int .i64 st] 79 (0,0)))
 (T:w.cell? ⟨tg,t.toNat,none⟩=some (.pointer (some ⟨k,0,none⟩))) (_:tg < w.heap.size)
 (K:w.heap[k]? =some (.cells #[.slice (some ⟨cg,0,none⟩) ncalls cc,.int .i64 begun,.nilIface,.int .i64 ai] 87 (0,0)))
 (C0:w.cell? ⟨cg,begun * 2,none⟩=some (.int .i64 prog)) (C1:w.cell? ⟨cg,begun * 2+1,none⟩=some (.slice aa an ac)) (cgl:cg < w.heap.size)
 {f:Nat->Bool} {ro:Int} (R:w.heap[r]? =some (.cells (Bx f c1 ro) 123 (0,0)))
 (P0:w.cell? ⟨pg,prog.toNat * 2,none⟩=some (.int .i64 tag)) (P1:w.cell? ⟨pg,prog.toNat * 2+1,none⟩=some (.slice ca cn ccap)) (pgl:pg < w.heap.size)
 {ab bb:Nat} {ms:Zh} {code:List Xf} {args:List Nat} {dl:List Value} {nd:Nat}
 (hcf:Yq c0 c1 c2 c3) (ht1:t < c1) (MM:Zi 137 w ab bb ms)
 (hcode:w.ownsRow 0 106 3 (.slice ca cn ccap) code.length (Yk code)) (hcl:code.length<=5864062014635)
 (hargs:w.ownsRow 0 51 1 (.slice aa an ac) args.length (args.map (Value.float .f64))) (hal:args.length<=8)
 (hvd:w.ownsRow 0 50 19 vd nd dl) (hnd:nd < 1000000000) (hnc:ncalls<=64) (hdx:vd.ownBlock≠some x) (hdk:vd.ownBlock≠some k)
 {g:Qw} (hg:g=if tag=2 then .wr (Uo c0 c1 c2 c3 tag code args) else .rd (Up c0 c1 c2 c3 t tag code args))
 :Calls Tryz.prog 45 #[.pointer (some ⟨x,0,none⟩),.int .i64 t] w (BegunP w x k cg cc ncalls begun c0 c1 c2 c3 q4 q5 st ro pg nprogs pc a r tg ntn tc vd dl nd t prog g):=by
 obtain ⟨av,cv,hav⟩:=Zo hvd;subst hav;have HCF:=Zh_ hcf;have HT0:=Zh_ ht0;have HTC:=Zh_ ht1;have HMM:=Zh_ MM;have HCO:=Zh_ hcode;have HCL:=Zh_ hcl;have HAR:=Zh_ hargs;have HAL:=Zh_ hal;have HVD:=Zh_ hvd;have HND:=Zh_ hnd;have HNC:=Zh_ hnc;have HDX:=Zh_ hdx;have HDK:=Zh_ hdk;have HK0:=Zh_ K;have HX0:=Zh_ X;have HG0:=Zh_ hg;clear hg hnc hcf ht1 MM hcode hcl hargs hal hvd hnd hdx hdk;have hx:=lt_of_block X;have hk:=lt_of_block K;have x4:w.cell? ⟨x,4,none⟩=some (.slice (some ⟨pg,0,none⟩) nprogs pc):=Za X rfl;have x13:w.cell? ⟨x,13,none⟩=some (.slice (some ⟨tg,0,none⟩) ntn tc):=Za X rfl;have k0:w.cell? ⟨k,0,none⟩=some (.slice (some ⟨cg,0,none⟩) ncalls cc):=Za K rfl;have k1:w.cell? ⟨k,1,none⟩=some (.int .i64 begun):=Za K rfl;go_enter func45,ntmps45;go_wp2_with fail;go_region;go_wp2_with fail;go_region;go_wp2_with fail;obtain ⟨n5,hn5⟩:∃ z,z=w.heap.size:=⟨_,rfl⟩;obtain ⟨n6,hn6⟩:∃ z,z=n5+1:=⟨_,rfl⟩;obtain ⟨w2,hw2⟩:∃ z,z=((w.alloc (Obj.cells #[Value.int IntKind.i64 prog,Value.slice aa an ac] 63)).alloc (Obj.cells #[Value.int IntKind.i64 tag,Value.slice ca cn ccap] 110)).drew.drew:=⟨_,rfl⟩;have M2:Ze [] w w2:=by rw [hw2];exact ((((Zr_ _ _).alloc _).alloc _).drew).drew
 have B5:w2.heap[n5]? =some (.cells #[Value.int IntKind.i64 prog,Value.slice aa an ac] 63 (0,0)):=by rw [hw2,hn5];exact Zf _ (Zc _ _)
 have B6:w2.heap[n6]? =some (.cells #[Value.int IntKind.i64 tag,Value.slice ca cn ccap] 110 (0,0)):=by
  rw [hw2,hn6,hn5];have:=Zc (w.alloc (Obj.cells #[Value.int IntKind.i64 prog,Value.slice aa an ac] 63)) (Obj.cells #[Value.int IntKind.i64 tag,Value.slice ca cn ccap] 110);rw [World.size_alloc] at this;exact this
 have X2:=M2.at X (by simp);have K2:=M2.at K (by simp);have R2:=M2.at R (by simp);simp only [<-hw2,<-hn5,<-hn6];have HM2:=Zh_ M2;clear hn5 hn6 hw2 M2 X K T C0 C1 P0 P1 R x4 x13 k0 k1 hx hk;have hx:=lt_of_block X2;have hk:=lt_of_block K2;have hr:=lt_of_block R2;have h5:=lt_of_block B5;have h6:=lt_of_block B6;have k1:w2.cell? ⟨k,1,none⟩=some (.int .i64 begun):=Za K2 rfl;have b50:w2.cell? ⟨n5,0,none⟩=some (.int .i64 prog):=Za B5 rfl;have x15:w2.cell? ⟨x,15,none⟩=some (.int .i64 st):=Za X2 rfl;have x12:w2.cell? ⟨x,12,none⟩=some (.pointer (some ⟨r,0,none⟩)):=Za X2 rfl;have HK:=Zh_ (show ∀ wx,Ze [] w2.drew wx->wx.cell? ⟨k,1,none⟩=some (.int .i64 begun)/\wx.cell? ⟨n5,0,none⟩=some (.int .i64 prog)/\wx.cell? ⟨x,15,none⟩=some (.int .i64 st)/\wx.cell? ⟨x,12,none⟩=some (.pointer (some ⟨r,0,none⟩))/\wx.cell? ⟨r,17,none⟩=some (.int .i64 ro) from
  λ wx hR=>by
   have m:Ze [] w2 wx:=(Zr_ [] w2).drew.trans hR;exact ⟨Zy m hk (by simp) k1,Zy m h5 (by simp) b50,Zy m hx (by simp) x15,Zy m hx (by simp) x12,Za (m.at R2 (by simp)) rfl⟩)
 obtain ⟨n0,hq0⟩:∃ n,n=w2.heap.size:=⟨_,rfl⟩;have hn0:n0<=w2.drew.heap.size:=Nat.le_of_eq hq0;have HN0:=Zh_ hq0;have HR2:=Zh_ R2;have HX2:=Zh_ X2;have HK2:=Zh_ K2;have HB5:=Zh_ B5;have HB6:=Zh_ B6;clear k1 b50 x15 x12 hq0 R2 X2 K2 B5 B6
 go_cut [7] (λ A wx=>∃ n7,A=.pointer (some ⟨n7,0,none⟩)/\wx.heap[n7]? =some (.cells (Z5 (Xl t begun prog st) {X0 with fr:=ro}).toArray 50 (0,0))/\w2.heap.size<=n7/\Ze [] w2 wx)
 case first=>
  refine Yt (by kernel_rfl) 18 (by rfl) (λ x y=>Ze [] x y) (Sl k n5 x r begun n0 t prog st ro) (by kernel_rfl) (by rfl) (by kernel_rfl) (beg3F_on k n5 x r begun n0 t prog st ro) (λ a=>Zr_ _ _) (λ a b c h k=>h.trans k) ?_ ?_ ?_
  ·exact λ i v w' hv o ho hd=>Vb (m:=18) (by kernel_rfl) (W5 k n5 x r begun n0 t prog st ro) ho hd
  ·intro i o hi ho
   match i,hi with
   |0,_=>
    obtain rfl:=Zo_ ho;intro a wx hR hF hO;have f1:a.eval (.tmp 1)=.int .i64 t:=hO 1 (by kernel_rfl) (Zm (by kernel_rfl));have e1:=Tv_ f1;clear hF hO;go_simp;exact ⟨Zr_ _ _,rfl⟩
   |1,_=>
    obtain rfl:=Zo_ ho;intro a wx hR hF hO;have f4:a.eval (.tmp 4)=.pointer (some ⟨k,0,none⟩):=hO 4 (by kernel_rfl) (Zm (by kernel_rfl));have e4:=Tv_ f4;clear hF hO;go_simp;exact ⟨Zr_ _ _,rfl⟩
   |2,_=>
    obtain rfl:=Zo_ ho;intro a wx hR hF hO;have f34:a.eval (.tmp 34)=.pointer (some ⟨k,0,none⟩):=hF 34 1 _ (by kernel_rfl) rfl rfl;have e34:=Tv_ f34;clear hF hO;go_simp;exact ⟨Zr_ _ _,rfl⟩
   |3,_=>
    obtain rfl:=Zo_ ho;intro a wx hR hF hO;have f35:a.eval (.tmp 35)=.pointer (some ⟨k,0,none⟩):=hF 35 2 _ (by kernel_rfl) rfl rfl;have e35:=Tv_ f35;clear hF hO;go_simp;exact ⟨Zr_ _ _,rfl⟩
   |4,_=>
    obtain rfl:=Zo_ ho;intro a wx hR hF hO;have f36:a.eval (.tmp 36)=.pointer (some ⟨k,1,none⟩):=hF 36 3 _ (by kernel_rfl) rfl rfl;have e36:=Tv_ f36;clear hF hO;obtain ⟨ck,cn,cx,cy,cr⟩:=HK.out wx hR;go_simp;exact ⟨Zr_ _ _,rfl⟩
   |5,_=>
    obtain rfl:=Zo_ ho;intro a wx hR hF hO;have f5:a.eval (.tmp 5)=.pointer (some ⟨n5,0,none⟩):=hO 5 (by kernel_rfl) (Zm (by kernel_rfl));have e5:=Tv_ f5;clear hF hO;go_simp;exact ⟨Zr_ _ _,rfl⟩
   |6,_=>
    obtain rfl:=Zo_ ho;intro a wx hR hF hO;have f38:a.eval (.tmp 38)=.pointer (some ⟨n5,0,none⟩):=hF 38 5 _ (by kernel_rfl) rfl rfl;have e38:=Tv_ f38;clear hF hO;obtain ⟨ck,cn,cx,cy,cr⟩:=HK.out wx hR;go_simp;exact ⟨Zr_ _ _,rfl⟩
   |7,_=>
    obtain rfl:=Zo_ ho;intro a wx hR hF hO;have f0:a.eval (.tmp 0)=.pointer (some ⟨x,0,none⟩):=hO 0 (by kernel_rfl) (Zm (by kernel_rfl));have e0:=Tv_ f0;clear hF hO;go_simp;exact ⟨Zr_ _ _,rfl⟩
   |8,_=>
    obtain rfl:=Zo_ ho;intro a wx hR hF hO;have f40:a.eval (.tmp 40)=.pointer (some ⟨x,0,none⟩):=hF 40 7 _ (by kernel_rfl) rfl rfl;have e40:=Tv_ f40;clear hF hO;go_simp;exact ⟨Zr_ _ _,rfl⟩
   |9,_=>
    obtain rfl:=Zo_ ho;intro a wx hR hF hO;have f41:a.eval (.tmp 41)=.pointer (some ⟨x,0,none⟩):=hF 41 8 _ (by kernel_rfl) rfl rfl;have e41:=Tv_ f41;clear hF hO;go_simp;exact ⟨Zr_ _ _,rfl⟩
   |10,_=>
    obtain rfl:=Zo_ ho;intro a wx hR hF hO;have f42:a.eval (.tmp 42)=.pointer (some ⟨x,15,none⟩):=hF 42 9 _ (by kernel_rfl) rfl rfl;have e42:=Tv_ f42;clear hF hO;obtain ⟨ck,cn,cx,cy,cr⟩:=HK.out wx hR;go_simp;exact ⟨Zr_ _ _,rfl⟩
   |11,_=>
    obtain rfl:=Zo_ ho;intro a wx hR hF hO;have f0:a.eval (.tmp 0)=.pointer (some ⟨x,0,none⟩):=hO 0 (by kernel_rfl) (Zm (by kernel_rfl));have e0:=Tv_ f0;clear hF hO;go_simp;exact ⟨Zr_ _ _,rfl⟩
   |12,_=>
    obtain rfl:=Zo_ ho;intro a wx hR hF hO;have f44:a.eval (.tmp 44)=.pointer (some ⟨x,0,none⟩):=hF 44 11 _ (by kernel_rfl) rfl rfl;have e44:=Tv_ f44;clear hF hO;go_simp;exact ⟨Zr_ _ _,rfl⟩
   |13,_=>
    obtain rfl:=Zo_ ho;intro a wx hR hF hO;have f45:a.eval (.tmp 45)=.pointer (some ⟨x,0,none⟩):=hF 45 12 _ (by kernel_rfl) rfl rfl;have e45:=Tv_ f45;clear hF hO;go_simp;exact ⟨Zr_ _ _,rfl⟩
   |14,_=>
    obtain rfl:=Zo_ ho;intro a wx hR hF hO;have f46:a.eval (.tmp 46)=.pointer (some ⟨x,12,none⟩):=hF 46 13 _ (by kernel_rfl) rfl rfl;have e46:=Tv_ f46;clear hF hO;obtain ⟨ck,cn,cx,cy,cr⟩:=HK.out wx hR;go_simp;exact ⟨Zr_ _ _,rfl⟩
   |15,_=>
    obtain rfl:=Zo_ ho;intro a wx hR hF hO;have f47:a.eval (.tmp 47)=.pointer (some ⟨r,0,none⟩):=hF 47 14 _ (by kernel_rfl) rfl rfl;have e47:=Tv_ f47;clear hF hO;obtain ⟨ck,cn,cx,cy,cr⟩:=HK.out wx hR;go_simp;refine Calls.mono (Bw cr) ?_;rintro e w' ⟨rfl,rfl⟩;exact ⟨_,rfl,Zr_ _ _,rfl⟩
   |16,_=>
    obtain rfl:=Zo_ ho;intro a wx hR hF hO;have f33:a.eval (.tmp 33)=.int .i64 t:=hF 33 0 _ (by kernel_rfl) rfl rfl;have e33:=Tv_ f33;have f37:a.eval (.tmp 37)=.int .i64 begun:=hF 37 4 _ (by kernel_rfl) rfl rfl;have e37:=Tv_ f37;have f39:a.eval (.tmp 39)=.int .i64 prog:=hF 39 6 _ (by kernel_rfl) rfl rfl;have e39:=Tv_ f39;have f43:a.eval (.tmp 43)=.int .i64 st:=hF 43 10 _ (by kernel_rfl) rfl rfl;have e43:=Tv_ f43;have f48:a.eval (.tmp 48)=.int .i64 ro:=hF 48 15 _ (by kernel_rfl) rfl rfl;have e48:=Tv_ f48;clear hF hO;go_simp;exact ⟨Zr_ _ _,rfl⟩
   |17,_=>
    obtain rfl:=Zo_ ho;intro a wx hR hF hO;clear hF hO;go_simp;exact ⟨(Zr_ _ _).alloc _,_,rfl,heap_alloc_new _ _,Nat.le_trans hn0 hR.size⟩
   |j+18,hh=>omega
  ·intro vs w5 hR hv;obtain ⟨g5,e7,k5,hg5⟩:Q3 n0 (vs 17) w5:=hv 17 (by decide);have e49:vs 16=.agg (Z5 (Xl t begun prog st) {X0 with fr:=ro}).toArray:=hv 16 (by decide);have K5:=Zh_ k5;have H5:=Zh_ ((Zr_ [] w2).drew.trans hR);have HG:=Zh_ (show w2.heap.size<=g5 by rw [<-HN0.out];exact hg5);clear hR hv k5 hg5;simp only [Xb,List.take_succ_cons,List.take_zero,Act.put,e7,e49];go_simp;refine wpList_store_row rfl 50 _ _ rfl g5 (Z5 (Xl t begun prog st) {X0 with fr:=ro}).toArray rfl rfl 50 Ya K5.out (by kernel_rfl) rfl (Sh t prog st ro begun) ?_;go_wp2_with fail;go_meet;exact ⟨g5,rfl,Y0 K5.out,HG.out,H5.out.setRow _ _ (.inr HG.out)⟩
 case rest=>
  obtain ⟨n7,rfl,D7,hn7,M7⟩:=hcut;have X3:=M7.at HX2.out (by simp);have K3:=M7.at HK2.out (by simp);have B5:=M7.at HB5.out (by simp);have B6:=M7.at HB6.out (by simp);have MA:=Zh_ (HM2.out.trans M7);generalize wc=w3 at *
  obtain ⟨n0,hq0⟩:∃ n,n=w.heap.size:=⟨_,rfl⟩;have HN0:=Zh_ (show n0<=w3.heap.size by rw [hq0];exact MA.out.size);have HQ0:=Zh_ hq0;have HROW:=Zh_ (show ∀ wx,Ze [] w3.drew wx->wx.ownsRow 0 51 1 (.slice aa an ac) args.length (args.map (Value.float .f64))/\wx.ownsRow 0 106 3 (.slice ca cn ccap) code.length (Yk code)/\Zi 137 wx ab bb ms from
   λ wx hR=>by
    have m:Ze [] w wx:=(MA.out.drew).trans hR;exact ⟨Ye HAR.out m,Ye HCO.out m,HMM.out.mod m (by simp) (by simp)⟩)
  have HK:=Zh_ (show ∀ wx,Ze [] w3.drew wx->wx.heap[x]? =some (.cells #[.int .i64 c0,.int .i64 c1,.int .i64 c2,.int .i64 c3,.slice (some ⟨pg,0,none⟩) nprogs pc,.int .i64 0,.int .i64 1,.int .i64 2,.int .i64 3,.int .i64 q4,.int .i64 q5,.pointer (some ⟨a,0,none⟩),.pointer (some ⟨r,0,none⟩),.slice (some ⟨tg,0,none⟩) ntn tc,.slice av nd cv,.int .i64 st] 79 (0,0))/\wx.heap[n6]? =some (.cells #[Value.int IntKind.i64 tag,Value.slice ca cn ccap] 110 (0,0))/\wx.heap[n5]? =some (.cells #[Value.int IntKind.i64 prog,Value.slice aa an ac] 63 (0,0)) from
   λ wx hR=>by
    have m:Ze [] w3 wx:=((Zr_ _ _).drew).trans hR;exact ⟨m.at X3 (by simp),m.at B6 (by simp),m.at B5 (by simp)⟩)
  have HKK:=Zh_ (show ∀ wx,Ze [] w3.drew wx->wx.heap[k]? =some (.cells #[.slice (some ⟨cg,0,none⟩) ncalls cc,.int .i64 begun,.nilIface,.int .i64 ai] 87 (0,0)) from
   λ wx hR=>(((Zr_ _ _).drew).trans hR).at K3 (by simp))
  have hlk:=lt_of_block K3;have hlx:=lt_of_block X3;have b60:w3.cell? ⟨n6,0,none⟩=some (.int .i64 tag):=Za B6 rfl;have HX3:=Zh_ X3;have HD7:=Zh_ D7;have HN7:=Zh_ hn7;have HM7:=Zh_ M7;clear hq0 X3 K3 B5 B6 D7 hn7 M7 h5 h6 hr hx hk hn0 HK2 HX2 HR2 HB5 HB6;go_upto_if 52 with fail
  go_cut [] (λ wx=>∃ v w4,Ze [] w3.drew w4/\Kd n0 g v w4/\wx=w4.setCell ⟨k,2,none⟩ v)
  case first=>
   by_cases htag:tag=2
   ·have d52:(tag==2)=true:=by simp [htag]
    have hgw:g=.wr (Uo c0 c1 c2 c3 tag code args):=HG0.out.trans (if_pos htag);have HTG:=Zh_ htag;have HGW:=Zh_ hgw;clear htag hgw;go_wp2_with fail;refine Yt (by kernel_rfl) 13 (by rfl) (λ x y=>Ze [] x y) (Sk k n5 x n0 t tag c0 c1 c2 c3 aa ca an ac cn ccap code args) (by kernel_rfl) (by rfl) (by kernel_rfl) (beg5F_on k n5 x n0 t tag c0 c1 c2 c3 aa ca an ac cn ccap code args) (λ a=>Zr_ _ _) (λ a b c h k=>h.trans k) ?_ ?_ ?_
    ·exact λ i v w' hv o ho hd=>Vb (m:=13) (by kernel_rfl) (W3 k n5 x n0 t tag c0 c1 c2 c3 aa ca an ac cn ccap code args) ho hd
    ·intro i o hi ho
     match i,hi with
     |0,_=>
      obtain rfl:=Zo_ ho;intro a wx hR hF hO;have f4:a.eval (.tmp 4)=.pointer (some ⟨k,0,none⟩):=hO 4 (by kernel_rfl) (Zm (by kernel_rfl));have e4:=Tv_ f4;clear hF hO;go_simp;exact ⟨Zr_ _ _,rfl⟩
     |1,_=>
      obtain rfl:=Zo_ ho;intro a wx hR hF hO;have f0:a.eval (.tmp 0)=.pointer (some ⟨x,0,none⟩):=hO 0 (by kernel_rfl) (Zm (by kernel_rfl));have e0:=Tv_ f0;clear hF hO;go_simp;exact ⟨Zr_ _ _,rfl⟩
     |2,_=>
      obtain rfl:=Zo_ ho;intro a wx hR hF hO;have f54:a.eval (.tmp 54)=.pointer (some ⟨x,0,none⟩):=hF 54 1 _ (by kernel_rfl) rfl rfl;have e54:=Tv_ f54;clear hF hO;go_simp;exact ⟨Zr_ _ _,rfl⟩
     |3,_=>
      obtain rfl:=Zo_ ho;intro a wx hR hF hO;have f55:a.eval (.tmp 55)=.pointer (some ⟨x,0,none⟩):=hF 55 2 _ (by kernel_rfl) rfl rfl;have e55:=Tv_ f55;clear hF hO;go_simp;exact ⟨Zr_ _ _,rfl⟩
     |4,_=>
      obtain rfl:=Zo_ ho;intro a wx hR hF hO;have f56:a.eval (.tmp 56)=.pointer (some ⟨x,0,none⟩):=hF 56 3 _ (by kernel_rfl) rfl rfl;have e56:=Tv_ f56;clear hF hO;obtain ⟨cx,c6,c5⟩:=HK.out wx hR;have c0:=Za (i:=0) cx rfl;have c1:=Za (i:=1) cx rfl;have c2:=Za (i:=2) cx rfl;have c3:=Za (i:=3) cx rfl;go_simp;exact ⟨Zr_ _ _,rfl⟩
     |5,_=>
      obtain rfl:=Zo_ ho;intro a wx hR hF hO;have f1:a.eval (.tmp 1)=.int .i64 t:=hO 1 (by kernel_rfl) (Zm (by kernel_rfl));have e1:=Tv_ f1;clear hF hO;go_simp;exact ⟨Zr_ _ _,rfl⟩
     |6,_=>
      obtain rfl:=Zo_ ho;intro a wx hR hF hO;have f6:a.eval (.tmp 6)=.pointer (some ⟨n6,0,none⟩):=hO 6 (by kernel_rfl) (Zm (by kernel_rfl));have e6:=Tv_ f6;clear hF hO;obtain ⟨cx,c6,c5⟩:=HK.out wx hR;have d0:=Za (i:=0) c6 rfl;have d1:=Za (i:=1) c6 rfl;go_simp;exact ⟨Zr_ _ _,rfl⟩
     |7,_=>
      obtain rfl:=Zo_ ho;intro a wx hR hF hO;have f5:a.eval (.tmp 5)=.pointer (some ⟨n5,0,none⟩):=hO 5 (by kernel_rfl) (Zm (by kernel_rfl));have e5:=Tv_ f5;clear hF hO;go_simp;exact ⟨Zr_ _ _,rfl⟩
     |8,_=>
      obtain rfl:=Zo_ ho;intro a wx hR hF hO;have f60:a.eval (.tmp 60)=.pointer (some ⟨n5,1,none⟩):=hF 60 7 _ (by kernel_rfl) rfl rfl;have e60:=Tv_ f60;clear hF hO;obtain ⟨cx,c6,c5⟩:=HK.out wx hR;have d1:=Za (i:=1) c5 rfl;go_simp;exact ⟨Zr_ _ _,rfl⟩
     |9,_=>
      obtain rfl:=Zo_ ho;intro a wx hR hF hO;have f57:a.eval (.tmp 57)=.agg #[.int .i64 c0,.int .i64 c1,.int .i64 c2,.int .i64 c3]:=hF 57 4 _ (by kernel_rfl) rfl rfl;have e57:=Tv_ f57;have f58:a.eval (.tmp 58)=.int .i64 t:=hF 58 5 _ (by kernel_rfl) rfl rfl;have e58:=Tv_ f58;have f59:a.eval (.tmp 59)=.agg #[.int .i64 tag,.slice ca cn ccap]:=hF 59 6 _ (by kernel_rfl) rfl rfl;have e59:=Tv_ f59;have f61:a.eval (.tmp 61)=.slice aa an ac:=hF 61 8 _ (by kernel_rfl) rfl rfl;have e61:=Tv_ f61;clear hF hO;obtain ⟨hA,hC,hM⟩:=HROW.out wx hR;go_simp;refine Calls.mono (wnew_c HCF.out t HT0.out HTC.out hC HCL.out hA HAL.out hM) ?_;rintro e w' ⟨q,rfl,A,B,C,M,D⟩;exact ⟨_,rfl,M,q,rfl,A,B,λ k hk=>Nat.le_trans HN0.out (Nat.le_trans hR.size (D k hk))⟩
     |10,_=>
      obtain rfl:=Zo_ ho;intro a wx hR hF hO;have e62:Nb n0 (Uo c0 c1 c2 c3 tag code args) (a.eval (.tmp 62)) wx:=hF 62 9 _ (by kernel_rfl) rfl rfl;clear hF hO;obtain ⟨q,q62,hrest⟩:=e62;replace q62:a.tmps[62]?.getD undef=_:=(show a.tmps[62]?.getD undef=a.eval (.tmp 62) by simp [Act.eval]).trans q62;have HG:=Zh_ hrest;clear hrest;go_simp;exact ⟨Zr_ _ _,q,rfl,HG.out⟩
     |11,_=>
      obtain rfl:=Zo_ ho;intro a wx hR hF hO;have f53:a.eval (.tmp 53)=.pointer (some ⟨k,0,none⟩):=hF 53 0 _ (by kernel_rfl) rfl rfl;have e53:=Tv_ f53;clear hF hO;go_simp;exact ⟨Zr_ _ _,rfl⟩
     |12,_=>
      obtain rfl:=Zo_ ho;intro a wx hR hF hO;have f64:a.eval (.tmp 64)=.pointer (some ⟨k,0,none⟩):=hF 64 11 _ (by kernel_rfl) rfl rfl;have e64:=Tv_ f64;clear hF hO;go_simp;exact ⟨Zr_ _ _,rfl⟩
     |j+13,hh=>omega
    ·intro vs w5 hR hv;obtain ⟨q,e63,hn⟩:Kd n0 (.wr (Uo c0 c1 c2 c3 tag code args)) (vs 10) w5:=hv 10 (by decide);have e65:vs 12=.pointer (some ⟨k,2,none⟩):=hv 12 (by decide);have k2:=Za (i:=2) (HKK.out w5 hR) rfl;have z2:=Zb (i:=2) (HKK.out w5 hR);have HN:=Zh_ hn;have H5:=Zh_ hR;clear hv hn;simp only [Xb,List.take_succ_cons,List.take_zero,Act.put,e63,e65];go_simp;go_wp2_with fail;go_meet;exact ⟨_,w5,H5.out,by rw [HGW.out];exact ⟨q,rfl,HN.out⟩,rfl⟩
   ·have d52:(tag==2)=false:=by simp [htag]
    have hgw:g=.rd (Up c0 c1 c2 c3 t tag code args):=HG0.out.trans (if_neg htag);have HTG:=Zh_ htag;have HGW:=Zh_ hgw;clear htag hgw;go_wp2_with fail;refine Yt (by kernel_rfl) 13 (by rfl) (λ x y=>Ze [] x y) (Sj k n5 x n0 t tag c0 c1 c2 c3 aa ca an ac cn ccap code args) (by kernel_rfl) (by rfl) (by kernel_rfl) (beg6F_on k n5 x n0 t tag c0 c1 c2 c3 aa ca an ac cn ccap code args) (λ a=>Zr_ _ _) (λ a b c h k=>h.trans k) ?_ ?_ ?_
    ·exact λ i v w' hv o ho hd=>Vb (m:=13) (by kernel_rfl) (W1 k n5 x n0 t tag c0 c1 c2 c3 aa ca an ac cn ccap code args) ho hd
    ·intro i o hi ho
     match i,hi with
     |0,_=>
      obtain rfl:=Zo_ ho;intro a wx hR hF hO;have f4:a.eval (.tmp 4)=.pointer (some ⟨k,0,none⟩):=hO 4 (by kernel_rfl) (Zm (by kernel_rfl));have e4:=Tv_ f4;clear hF hO;go_simp;exact ⟨Zr_ _ _,rfl⟩
     |1,_=>
      obtain rfl:=Zo_ ho;intro a wx hR hF hO;have f0:a.eval (.tmp 0)=.pointer (some ⟨x,0,none⟩):=hO 0 (by kernel_rfl) (Zm (by kernel_rfl));have e0:=Tv_ f0;clear hF hO;go_simp;exact ⟨Zr_ _ _,rfl⟩
     |2,_=>
      obtain rfl:=Zo_ ho;intro a wx hR hF hO;have f67:a.eval (.tmp 67)=.pointer (some ⟨x,0,none⟩):=hF 67 1 _ (by kernel_rfl) rfl rfl;have e67:=Tv_ f67;clear hF hO;go_simp;exact ⟨Zr_ _ _,rfl⟩
     |3,_=>
      obtain rfl:=Zo_ ho;intro a wx hR hF hO;have f68:a.eval (.tmp 68)=.pointer (some ⟨x,0,none⟩):=hF 68 2 _ (by kernel_rfl) rfl rfl;have e68:=Tv_ f68;clear hF hO;go_simp;exact ⟨Zr_ _ _,rfl⟩
     |4,_=>
      obtain rfl:=Zo_ ho;intro a wx hR hF hO;have f69:a.eval (.tmp 69)=.pointer (some ⟨x,0,none⟩):=hF 69 3 _ (by kernel_rfl) rfl rfl;have e69:=Tv_ f69;clear hF hO;obtain ⟨cx,c6,c5⟩:=HK.out wx hR;have c0:=Za (i:=0) cx rfl;have c1:=Za (i:=1) cx rfl;have c2:=Za (i:=2) cx rfl;have c3:=Za (i:=3) cx rfl;go_simp;exact ⟨Zr_ _ _,rfl⟩
     |5,_=>
      obtain rfl:=Zo_ ho;intro a wx hR hF hO;have f1:a.eval (.tmp 1)=.int .i64 t:=hO 1 (by kernel_rfl) (Zm (by kernel_rfl));have e1:=Tv_ f1;clear hF hO;go_simp;exact ⟨Zr_ _ _,rfl⟩
     |6,_=>
      obtain rfl:=Zo_ ho;intro a wx hR hF hO;have f6:a.eval (.tmp 6)=.pointer (some ⟨n6,0,none⟩):=hO 6 (by kernel_rfl) (Zm (by kernel_rfl));have e6:=Tv_ f6;clear hF hO;obtain ⟨cx,c6,c5⟩:=HK.out wx hR;have d0:=Za (i:=0) c6 rfl;have d1:=Za (i:=1) c6 rfl;go_simp;exact ⟨Zr_ _ _,rfl⟩
     |7,_=>
      obtain rfl:=Zo_ ho;intro a wx hR hF hO;have f5:a.eval (.tmp 5)=.pointer (some ⟨n5,0,none⟩):=hO 5 (by kernel_rfl) (Zm (by kernel_rfl));have e5:=Tv_ f5;clear hF hO;go_simp;exact ⟨Zr_ _ _,rfl⟩
     |8,_=>
      obtain rfl:=Zo_ ho;intro a wx hR hF hO;have f73:a.eval (.tmp 73)=.pointer (some ⟨n5,1,none⟩):=hF 73 7 _ (by kernel_rfl) rfl rfl;have e73:=Tv_ f73;clear hF hO;obtain ⟨cx,c6,c5⟩:=HK.out wx hR;have d1:=Za (i:=1) c5 rfl;go_simp;exact ⟨Zr_ _ _,rfl⟩
     |9,_=>
      obtain rfl:=Zo_ ho;intro a wx hR hF hO;have f70:a.eval (.tmp 70)=.agg #[.int .i64 c0,.int .i64 c1,.int .i64 c2,.int .i64 c3]:=hF 70 4 _ (by kernel_rfl) rfl rfl;have e70:=Tv_ f70;have f71:a.eval (.tmp 71)=.int .i64 t:=hF 71 5 _ (by kernel_rfl) rfl rfl;have e71:=Tv_ f71;have f72:a.eval (.tmp 72)=.agg #[.int .i64 tag,.slice ca cn ccap]:=hF 72 6 _ (by kernel_rfl) rfl rfl;have e72:=Tv_ f72;have f74:a.eval (.tmp 74)=.slice aa an ac:=hF 74 8 _ (by kernel_rfl) rfl rfl;have e74:=Tv_ f74;clear hF hO;obtain ⟨hA,hC,hM⟩:=HROW.out wx hR;go_simp;refine Calls.mono (rnew_c HCF.out t HT0.out HTC.out hC HCL.out hA HAL.out hM) ?_;rintro e w' ⟨q,rfl,A,C,M,D⟩;exact ⟨_,rfl,M,q,rfl,A,λ k hk=>Nat.le_trans HN0.out (Nat.le_trans hR.size (D k hk))⟩
     |10,_=>
      obtain rfl:=Zo_ ho;intro a wx hR hF hO;have e75:Ng n0 (Up c0 c1 c2 c3 t tag code args) (a.eval (.tmp 75)) wx:=hF 75 9 _ (by kernel_rfl) rfl rfl;clear hF hO;obtain ⟨q,q75,hrest⟩:=e75;replace q75:a.tmps[75]?.getD undef=_:=(show a.tmps[75]?.getD undef=a.eval (.tmp 75) by simp [Act.eval]).trans q75;have HG:=Zh_ hrest;clear hrest;go_simp;exact ⟨Zr_ _ _,q,rfl,HG.out⟩
     |11,_=>
      obtain rfl:=Zo_ ho;intro a wx hR hF hO;have f66:a.eval (.tmp 66)=.pointer (some ⟨k,0,none⟩):=hF 66 0 _ (by kernel_rfl) rfl rfl;have e66:=Tv_ f66;clear hF hO;go_simp;exact ⟨Zr_ _ _,rfl⟩
     |12,_=>
      obtain rfl:=Zo_ ho;intro a wx hR hF hO;have f77:a.eval (.tmp 77)=.pointer (some ⟨k,0,none⟩):=hF 77 11 _ (by kernel_rfl) rfl rfl;have e77:=Tv_ f77;clear hF hO;go_simp;exact ⟨Zr_ _ _,rfl⟩
     |j+13,hh=>omega
    ·intro vs w5 hR hv;obtain ⟨q,e63,hn⟩:Kd n0 (.rd (Up c0 c1 c2 c3 t tag code args)) (vs 10) w5:=hv 10 (by decide);have e65:vs 12=.pointer (some ⟨k,2,none⟩):=hv 12 (by decide);have k2:=Za (i:=2) (HKK.out w5 hR) rfl;have z2:=Zb (i:=2) (HKK.out w5 hR);have HN:=Zh_ hn;have H5:=Zh_ hR;clear hv hn;simp only [Xb,List.take_succ_cons,List.take_zero,Act.put,e63,e65];go_simp;go_wp2_with fail;go_meet;exact ⟨_,w5,H5.out,by rw [HGW.out];exact ⟨q,rfl,HN.out⟩,rfl⟩
  case rest=>
   obtain ⟨v,w4,M4,HGN,rfl⟩:=hcut;have hkx:x≠k:=λ e=>by
    have h1:=HX0.out;have h2:=HK0.out;rw [e,h2] at h1;simp at h1
   have K4:(w4.setCell ⟨k,2,none⟩ v).heap[k]? =some (.cells #[.slice (some ⟨cg,0,none⟩) ncalls cc,.int .i64 begun,v,.int .i64 ai] 87 (0,0)):=Zd _ (HKK.out w4 M4);have m4:Ze [k] w4 (w4.setCell ⟨k,2,none⟩ v):=(Zr_ _ _).setCell _ _ (.inl (by simp));have X4:=m4.at (HK.out w4 M4).1 (by simpa using hkx);have hkl:k < w.heap.size:=lt_of_block HK0.out;have hxl:x < w.heap.size:=lt_of_block HX0.out;have hs7:w.heap.size<=n7:=Nat.le_trans HM2.out.size HN7.out;have D4:=m4.at ((((Zr_ _ _).drew).trans M4).at HD7.out (by simp)) (by simp;omega);have G4:=Zh_ (HGN.mod m4 (by intro j hj;simp at hj;subst hj;rw [HQ0.out];exact hkl));have A4:=Zh_ (((MA.out.drew.trans M4).weak [k]).trans m4);have hrow4:(w4.setCell ⟨k,2,none⟩ v).ownsRow 0 50 19 (.slice av nd cv) nd dl:=Zs HVD.out A4.out (by intro g hg;have:=HDK.out;rw [hg] at this;simp at this ⊢;exact this);have HKX:=Zh_ hkx;have HKL:=Zh_ hkl;have HXL:=Zh_ hxl;have HS7:=Zh_ hs7;have HX4:=Zh_ X4;have HD4:=Zh_ D4;have HR4:=Zh_ hrow4;have k4:(w4.setCell ⟨k,2,none⟩ v).cell? ⟨k,1,none⟩=some (.int .i64 begun):=Za K4 rfl;have z4:(w4.setCell ⟨k,2,none⟩ v).frozen? ⟨k,1,none⟩=false:=Zb K4;have hlk4:=lt_of_block K4;have HK4:=Zh_ K4;have hnc:=HNC.out;clear HGN m4 M4 X4 D4 hkx hkl hxl hs7 hrow4 K4;generalize w4.setCell ⟨k,2,none⟩ v=w5 at *
   go_upto_region 8 with fail;have K6:(w5.setCell ⟨k,1,none⟩ (.int .i64 ((begun:Int)+1))).heap[k]? =some (.cells #[.slice (some ⟨cg,0,none⟩) ncalls cc,.int .i64 ((begun:Int)+1),v,.int .i64 ai] 87 (0,0)):=Zd _ HK4.out;have m6:Ze [k] w5 (w5.setCell ⟨k,1,none⟩ (.int .i64 ((begun:Int)+1))):=(Zr_ _ _).setCell _ _ (.inl (by simp));have X6:=m6.at HX4.out (by simpa using HKX.out);have HM6:=Zh_ m6;have HX6:=Zh_ X6;have HK6:=Zh_ K6;have k6:(w5.setCell ⟨k,1,none⟩ (.int .i64 ((begun:Int)+1))).cell? ⟨k,3,none⟩=some (.int .i64 ai):=Za K6 rfl;have z6:(w5.setCell ⟨k,1,none⟩ (.int .i64 ((begun:Int)+1))).frozen? ⟨k,3,none⟩=false:=Zb K6;have x6:(w5.setCell ⟨k,1,none⟩ (.int .i64 ((begun:Int)+1))).cell? ⟨x,14,none⟩=some (.slice av nd cv):=Za X6 rfl;have hlk6:=lt_of_block K6;have hlx6:=lt_of_block X6;clear m6 X6 K6 k4 z4 hlk4;generalize w5.setCell ⟨k,1,none⟩ (.int .i64 ((begun:Int)+1))=w6 at *
   go_upto_region 9 with fail;have K7:(w6.setCell ⟨k,3,none⟩ (.int .i64 nd)).heap[k]? =some (.cells #[.slice (some ⟨cg,0,none⟩) ncalls cc,.int .i64 ((begun:Int)+1),v,.int .i64 nd] 87 (0,0)):=Zd _ HK6.out;have m7:Ze [k] w5 (w6.setCell ⟨k,3,none⟩ (.int .i64 nd)):=HM6.out.setCell _ _ (.inl (by simp));have X7:=m7.at HX4.out (by simpa using HKX.out);have D7:=m7.at HD4.out (by have:=HS7.out;have:=HKL.out;simp;omega);have R7:(w6.setCell ⟨k,3,none⟩ (.int .i64 nd)).ownsRow 0 50 19 (.slice av nd cv) nd dl:=Zs HR4.out m7 (by intro g hg;have:=HDK.out;rw [hg] at this;simp at this ⊢;exact this);have HM7:=Zh_ m7;have HG7:=Zh_ (G4.out.mod m7 (by intro j hj;simp at hj;subst hj;rw [HQ0.out];exact HKL.out));have HX7:=Zh_ X7;have HK7:=Zh_ K7;have HD7:=Zh_ D7;have HR7:=Zh_ R7;have x7:(w6.setCell ⟨k,3,none⟩ (.int .i64 nd)).cell? ⟨x,14,none⟩=some (.slice av nd cv):=Za X7 rfl;have zx7:(w6.setCell ⟨k,3,none⟩ (.int .i64 nd)).frozen? ⟨x,14,none⟩=false:=Zb X7;have hlx7:=lt_of_block X7;have hl7:=lt_of_block D7;clear m7 X7 K7 D7 R7 k6 z6 x6 hlk6 hlx6;generalize w6.setCell ⟨k,3,none⟩ (.int .i64 nd)=w7 at *
   obtain ⟨cs,hcs⟩:∃ cs:Array Value,cs=(Z5 (Xl t begun prog st) {X0 with fr:=ro}).toArray:=⟨_,rfl⟩;have hcz:cs.size=19:=by rw [hcs];rfl
   have hone:∀ u∈cs.toList,u.oneCell'=true:=by
    rw [hcs];intro u hu;have:=Sh t prog st ro begun;rw [Array.all_eq_true_iff_forall_mem] at this;exact this u (by simpa using hu)
   obtain ⟨i0,z0,hi0,hz0,hz1,hz2,hz3⟩:=info50;obtain ⟨n9,hn9⟩:∃ n,n=w7.heap.size:=⟨_,rfl⟩;have HCS:=Zh_ hcz;have HCE:=Zh_ hcs;have HONE:=Zh_ hone;have HNE:=Zh_ hn9;have HN9:=Zh_ (show n9<=w7.drew.heap.size from Nat.le_of_eq hn9);have HXW:=Zh_ (show ∀ wx,Ze (Value.slice av nd cv).ownBlock.toList w7.drew wx->wx.heap[x]? =some (.cells #[.int .i64 c0,.int .i64 c1,.int .i64 c2,.int .i64 c3,.slice (some ⟨pg,0,none⟩) nprogs pc,.int .i64 0,.int .i64 1,.int .i64 2,.int .i64 3,.int .i64 q4,.int .i64 q5,.pointer (some ⟨a,0,none⟩),.pointer (some ⟨r,0,none⟩),.slice (some ⟨tg,0,none⟩) ntn tc,.slice av nd cv,.int .i64 st] 79 (0,0)) from
    λ wx hR=>(((Zr_ _ w7).drew).trans hR).at HX7.out (λ hm=>HDX.out (Option.mem_toList.1 hm)))
   have HDW:=Zh_ (show ∀ wx,Ze (Value.slice av nd cv).ownBlock.toList w7.drew wx->wx.heap[n7]? =some (.cells cs 50 (0,0)) from
    λ wx hR=>by rw [HCE.out];exact (((Zr_ _ w7).drew).trans hR).at HD7.out (λ hm=>by have:=Ys HVD.out (Option.mem_toList.1 hm);have:=HS7.out;omega))
   have HGL:=Zh_ (show ∀ g,(Value.slice av nd cv).ownBlock=some g->g < n9 from λ g hg=>by rw [hn9];exact Ys HR7.out hg);clear hcs hcz hone hn9 x7 zx7 hlx7 hl7;refine Ud (by kernel_rfl) 10 (by rfl) (Ze (Value.slice av nd cv).ownBlock.toList) (J8 av nd cv) 7 (Ze [] w7.drew) (Si x n9 av cv nd dl cs) (by kernel_rfl) (by rfl) (by kernel_rfl) (beg9F_on x n9 av cv nd dl cs HGL.out) (λ i a b h=>Wy h) (λ j a b hj h k=>k.trans (Wz hj h)) (Zr_ _ _) (λ a=>Zr_ _ _) (λ a b c h k=>h.trans k) (λ i v w' hv o ho hd=>Vb (m:=10) (by kernel_rfl) (W0 x n9 av cv nd dl cs) ho hd) ?_ ?_
   ·intro i o hi ho
    match i,hi with
    |0,_=>
     obtain rfl:=Zo_ ho;intro a wx hR hB hF hO;have f0:a.eval (.tmp 0)=.pointer (some ⟨x,0,none⟩):=hO 0 (by kernel_rfl) (Zm (by kernel_rfl));have e0:=Tv_ f0;clear hF hO hB hR;go_simp;exact ⟨V6 (by decide) (Zr_ _ _),rfl⟩
    |1,_=>
     obtain rfl:=Zo_ ho;intro a wx hR hB hF hO;have f0:a.eval (.tmp 0)=.pointer (some ⟨x,0,none⟩):=hO 0 (by kernel_rfl) (Zm (by kernel_rfl));have e0:=Tv_ f0;clear hF hO hB hR;go_simp;exact ⟨V6 (by decide) (Zr_ _ _),rfl⟩
    |2,_=>
     obtain rfl:=Zo_ ho;intro a wx hR hB hF hO;have f95:a.eval (.tmp 95)=.pointer (some ⟨x,0,none⟩):=hF 95 1 _ (by kernel_rfl) rfl rfl;have e95:=Tv_ f95;clear hF hO hB hR;go_simp;exact ⟨V6 (by decide) (Zr_ _ _),rfl⟩
    |3,_=>
     obtain rfl:=Zo_ ho;intro a wx hR hB hF hO;have f96:a.eval (.tmp 96)=.pointer (some ⟨x,0,none⟩):=hF 96 2 _ (by kernel_rfl) rfl rfl;have e96:=Tv_ f96;clear hF hO hB hR;go_simp;exact ⟨V6 (by decide) (Zr_ _ _),rfl⟩
    |4,_=>
     obtain rfl:=Zo_ ho;intro a wx hR hB hF hO;have f97:a.eval (.tmp 97)=.pointer (some ⟨x,14,none⟩):=hF 97 3 _ (by kernel_rfl) rfl rfl;have e97:=Tv_ f97;have c14:wx.cell? ⟨x,14,none⟩=some (.slice av nd cv):=Za (HXW.out wx hR) rfl;clear hF hO hB hR;go_simp;exact ⟨V6 (by decide) (Zr_ _ _),rfl⟩
    |5,_=>
     obtain rfl:=Zo_ ho;intro a wx hR hB hF hO;have f7:a.eval (.tmp 7)=.pointer (some ⟨n7,0,none⟩):=hO 7 (by kernel_rfl) (Zm (by kernel_rfl));exact Uj 50 _ rfl n7 f7 50 cs (0,0) _ (HDW.out wx hR) underlying50 rfl (by rw [HCS.out];kernel_rfl) ⟨V6 (by decide) (Zr_ _ _),rfl⟩
    |6,_=>
     obtain rfl:=Zo_ ho;intro a wx hR hB hF hO;have f99:a.eval (.tmp 99)=.agg cs:=hF 99 5 _ (by kernel_rfl) rfl rfl;exact Qy 38 50 _ rfl cs f99 i0 z0 underlying38 hi0 hz0 (by rw [hz1,HCS.out]) (by rw [HCS.out];decide) (by rw [HCS.out];decide) ⟨V6 (by decide) ((Zr_ _ _).alloc _),_,rfl,Zc _ _,Nat.le_trans HN9.out hR.size⟩
    |7,_=>
     obtain rfl:=Zo_ ho;intro a wx hR hB hF hO;have f98:a.eval (.tmp 98)=.slice av nd cv:=hF 98 4 _ (by kernel_rfl) rfl rfl;obtain ⟨B,f100,hB2,hB3⟩:∃ B,a.eval (.tmp 100)=.slice (some ⟨B,0,none⟩) 1 1/\wx.heap[B]? =some (.cells cs 50 (0,0))/\n9<=B:=hF 100 6 _ (by kernel_rfl) rfl rfl;have hnd:=HND.out;refine Xh (.tmp 98) (.tmp 100) 38 rfl 0 50 i0 z0 19 216 underlying38 hi0 hz0 hz1 hz2 hz3 (by decide) (.slice av nd cv) nd dl f98 (Ye HR7.out (((Zr_ [] w7).drew).trans (hB rfl))) ⟨B,0,none⟩ 1 1 cs.toList f100 (by rw [Array.length_toList,HCS.out]) (World.news_of_block hB2) HONE.out (by unfold maxLen;omega) (by omega) (Nat.zero_le _) ?_;intro v' w' ho hg hat;refine ⟨?_,ho,λ g hv=>?_⟩
     ·unfold J8;rw [if_pos rfl];exact (Zr_ _ wx).grown hg (λ g hg=>.inl (Option.mem_toList.2 hg))
     ·rcases hat with e|e
      ·exact .inl (e.symm.trans hv)
      ·rw [e] at hv;simp at hv;exact .inr (by rw [<-hv];exact Nat.le_trans HN9.out hR.size)
    |8,_=>
     obtain rfl:=Zo_ ho;intro a wx hR hB hF hO;have f94:a.eval (.tmp 94)=.pointer (some ⟨x,0,none⟩):=hF 94 0 _ (by kernel_rfl) rfl rfl;have e94:=Tv_ f94;clear hF hO hB hR;go_simp;exact ⟨V6 (by decide) (Zr_ _ _),rfl⟩
    |9,_=>
     obtain rfl:=Zo_ ho;intro a wx hR hB hF hO;have f102:a.eval (.tmp 102)=.pointer (some ⟨x,0,none⟩):=hF 102 8 _ (by kernel_rfl) rfl rfl;have e102:=Tv_ f102;clear hF hO hB hR;go_simp;exact ⟨V6 (by decide) (Zr_ _ _),rfl⟩
    |j+10,hh=>omega
   ·intro vs w8 hR hv;have e103:vs 9=.pointer (some ⟨x,14,none⟩):=hv 9 (by decide);obtain ⟨ho,hat⟩:w8.ownsRow 0 50 19 (vs 7) (nd+1) (dl++cs.toList)/\∀ g,(vs 7).ownBlock=some g->(Value.slice av nd cv).ownBlock=some g\/n9<=g:=hv 7 (by decide);obtain ⟨g5,cap5,e7,_⟩:=Yd ho (by omega);rw [e7] at ho hat;have X8:=HXW.out w8 hR;have x8:=Za (i:=14) X8 rfl;have zx8:=Zb (i:=14) X8;have HX8:=Zh_ X8;have HO:=Zh_ ho;have HAT:=Zh_ hat;have H8:=Zh_ hR;clear hv ho hat hR X8;simp only [Xb,List.take_succ_cons,List.take_zero,Act.put,e7,e103];go_simp;go_wp2_with fail;go_end0;have hw7:w.heap.size<=w7.heap.size:=Nat.le_trans A4.out.size HM7.out.size;have hn9:w.heap.size<=n9:=by rw [HNE.out];exact hw7
    have m8:Ze (Value.slice av nd cv).ownBlock.toList w7 w8:=((Zr_ _ w7).drew).trans H8.out;have m9:Ze [x] w8 (w8.setCell ⟨x,14,none⟩ (.slice (some ⟨g5,0,none⟩) (nd+1) cap5)):=(Zr_ _ _).setCell _ _ (.inl (by simp));have hd0:∀ j,j∈(Value.slice av nd cv).ownBlock.toList->j < w.heap.size:=λ j hj=>Ys HVD.out (Option.mem_toList.1 hj);have hkx:=HKX.out;have hxl:=HXL.out;have hkl:=HKL.out;have hg5:∀ j,(Value.slice (some ⟨g5,0,none⟩) (nd+1) cap5).ownBlock=some j->(Value.slice av nd cv).ownBlock=some j\/w.heap.size<=j:=λ j hj=>(HAT.out j hj).imp id (λ h=>Nat.le_trans hn9 h);refine ⟨rfl,v,.slice (some ⟨g5,0,none⟩) (nd+1) cap5,?_,?_,?_,?_,hg5,?_⟩
    ·have g7:=HG7.out;rw [HQ0.out] at g7;exact (g7.mod m8 hd0).mod m9 (by intro j hj;simp at hj;subst hj;exact hxl)
    ·exact m9.at (m8.at HK7.out (λ hm=>HDK.out (Option.mem_toList.1 hm))) (by simpa using Ne.symm hkx)
    ·exact Zd _ HX8.out
    ·have ho:=Zs HO.out m9 (λ j hj hm=>by
      simp at hm;subst hm;rcases hg5 _ hj with e|e
      ·exact HDX.out e
      ·omega)
     rw [HCE.out] at ho;exact ho
    ·have a1:Ze (k :: x :: (Value.slice av nd cv).ownBlock.toList) w w7:=(A4.out.trans HM7.out).mono (λ j hj=>.inl (by simp at hj;simp [hj]));refine (a1.trans (m8.mono (λ j hj=>.inl (by simp [List.mem_cons,hj])))).trans (m9.mono (λ j hj=>.inl (by simp at hj;simp [hj])))
end
end Go.Proofs.YtkhonmhnchdpkaaGreat

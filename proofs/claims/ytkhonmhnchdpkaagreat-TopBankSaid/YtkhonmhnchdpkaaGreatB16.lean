/- A part of the proof; no condition. -/
import Derived.Test.YtkhonmhnchdpkaaGreatB15
import Derived.Great.BuildSlice
set_option maxRecDepth 100000
set_option maxHeartbeats 40000000
namespace Go.Proofs.YtkhonmhnchdpkaaGreat
open Go.RowKit _root_.Go.Proofs.Tryz
open Go renaming World→W
open Value renaming int→U,pointer→E,slice→L,float→Z,agg→A_
open IntKind renaming i64→Y
open FloatKind renaming f64→V
open Obj renaming cells→X
open Option renaming some→I,none→O
open Ending renaming returned→R_
open _root_.Go.Proofs.Tryz renaming prog→N
section
section
theorem Bm (l:Array Bool) (i:Nat):(l.setIfInBounds i true).getD i true=true:=by
 simp only [Array.getD_eq_getD_getElem?,Array.getElem?_setIfInBounds]
 by_cases h:i < l.size <;> simp [h]
variable {P:Program} {ops:Array Oper} {n i m:Nat} {o:Oper} {a0:Act} {R:W->W->Prop} {Rj:Nat->W->W->Prop} {p:Nat} {Bp:W->Prop} {wd:W} {F:Nat->Value->W->Prop}
def OpE (P:Program) (ops:Array Oper) (a0:Act) (R:W->W->Prop) (Rj:Nat->W->W->Prop) (p:Nat) (Bp:W->Prop) (wd:W) (F:Nat->Value->W->Prop) (i:Nat) (o:Oper):Prop:=
 ∀ (a:Act) (wx:W),R wd wx->(i=p->Bp wx)->
  (∀ (t j:Nat) (oj:Oper),(o.looksAt ops).contains t=true->ops[j]? =I oj->oj.dst=I t->F j (a.eval (.tmp t)) wx)->
  (∀ (t:Nat),(o.looksAt ops).contains t=true->(∀ (j:Nat) (oj:Oper),ops[j]? =I oj->oj.dst≠I t)->a.eval (.tmp t)=a0.eval (.tmp t))->
  J4 P (λ v w'=>Rj i wx w'/\F i v w') ((execOp a.eval o).run P wx)
def Vj (ops:Array Oper):Nat->Nat->Nat->Bool
 |0,_,_=>false
 |n+1,i,j=>match ops[i]? with
  |none=>false
  |some o=>o.after.any λ e=>Region.binds .any e&&(e.on==j || Vj ops n e.on j)
theorem J7 {listed:Array Bool} (hs:listed.size=ops.size) (hd:∀ (j:Nat) (oj:Oper),ops[j]? =I oj->listed.getD j false=true->∀ e∈oj.after,Region.binds .any e=true->listed.getD e.on false=true):∀ (n i j:Nat),listed.getD i false=true->Vj ops n i j=true->listed.getD j false=true
 |0,i,j,_,h=>by cases h
 |n+1,i,j,hi,h=>by
  unfold Vj at h;cases ho:ops[i]? with
  |none=>rw [ho] at h;cases h
  |some o=>
   rw [ho] at h;simp only at h;rw [Array.any_eq_true] at h;obtain ⟨q,hq,hb⟩:=h;simp only [Bool.and_eq_true,Bool.or_eq_true,beq_iff_eq] at hb;have:=hd i o ho hi _ (Array.getElem_mem hq) hb.1;rcases hb.2 with e|e
   ·rw [<-e];exact this
   ·exact J7 hs hd n _ j this e
theorem Inv.yt (hreg:U6 ops a0.tmps.size=true) (hF:∀ i j v w w',i≠j->Vj ops ops.size i j=false->F i v w->Rj j w w'->F i v w') (hsub:∀ i a b,Rj i a b->R a b) (htr:∀ a b c,R a b->R b c->R a c) {listed:Array Bool} {a:Act} {wx:W} (h:Inv ops a0 R wd F listed a wx) (hi:ops[i]? =I o) (hl:listed.getD i true=false) (hall:∀ e∈o.after,Region.binds .any e=true->listed.getD e.on false=true) {v:Value} {w':W} (hR':Rj i wx w') (hv:F i v w') (hu:o.dst=O->v=undef\/F i undef w'):
  Inv ops a0 R wd F (listed.setIfInBounds i true) (a.put o.dst v) w':=by
 have hR:=hsub _ _ _ hR';have fi:=Qq9 (Vv hreg hi);have hlt:i < listed.size:=by rw [h.sz];exact (Array.getElem?_eq_some_iff.1 hi).1
 refine ⟨by simpa using h.sz,htr _ _ _ h.cls hR,by rw [Ke];exact h.og,by rw [Ga];exact h.yb,λ k hk=>?_,λ j oj hj hlj e he hb=>getD_set_true (?_),λ j oj hj hlj=>?_⟩
 ·rw [Q5,Q9 (λ hh=>?_)]
  ·refine h.out k (λ j oj hj hd=>?_);have:=hk j oj hj hd
   by_cases hij:i=j
   ·subst hij;exact hl
   ·simpa [Array.getElem?_setIfInBounds,hij] using this
  ·have:=hk i o hi hh.1;simp [hlt] at this
 ·by_cases hij:i=j
  ·subst hij;rw [hi] at hj;obtain rfl:=Zo_ hj;exact hall e he hb
  ·exact h.oe j oj hj (by simpa [Array.getElem?_setIfInBounds,hij] using hlj) e he hb
 ·by_cases hij:i=j
  ·subst hij;rw [hi] at hj;obtain rfl:=Zo_ hj;cases hd:o.dst with
   |none=>
    rcases hu hd with e|e
    ·rw [<-e];exact hv
    ·exact e
   |some d=>
    show F i ((a.put (I d) v).tmps.getD d undef) w';rw [Q5,P9 ⟨rfl,by rw [h.yb];exact fi.dn d hd⟩];exact hv
  ·have hlj':listed.getD j false=true:=by simpa [Array.getElem?_setIfInBounds,hij] using hlj
   have hw:Vj ops ops.size j i=false:=by
    cases hq:Vj ops ops.size j i with
    |false=>rfl
    |true=>
     have:=J7 h.sz h.oe _ j i hlj' hq;have hlt':i < listed.size:=hlt;simp [hlt'] at this hl;rw [hl] at this;cases this
   have:=h.ub j oj hj hlj';cases hd:oj.dst with
   |none=>rw [hd] at this;exact hF _ _ _ _ _ (Ne.symm hij) hw this hR'
   |some d=>
    rw [hd] at this;show F j ((a.put o.dst v).tmps.getD d undef) w';rw [Q5,Q9 (λ hh=>fi.wg j oj d hj hd hij hh.1)];exact hF _ _ _ _ _ (Ne.symm hij) hw this hR'
theorem Inv.runE (hreg:U6 ops a0.tmps.size=true) (hF:∀ i j v w w',i≠j->Vj ops ops.size i j=false->F i v w->Rj j w w'->F i v w') (hsub:∀ i a b,Rj i a b->R a b) (htr:∀ a b c,R a b->R b c->R a c) (hB:∀ j a b,j≠p->Rj j a b->Bp a->Bp b) {listed:Array Bool} {a:Act} {wx:W} {Q:Exit->Act->W->Prop} (hops:∀ i o,i < m->ops[i]? =I o->OpE P ops a0 R Rj p Bp wd F i o) (h:Inv ops a0 R wd F listed a wx) (hb:listed.getD p true=false->Bp wx) (him:i < m) (hr:i∈Region.ready .any ops listed)
  {K:Act->W->Prop} (hK:∀ a' w',Inv ops a0 R wd F (listed.setIfInBounds i true) a' w'->((listed.setIfInBounds i true).getD p true=false->Bp w')->K a' w') (hskip:∀ i v w',F i v w'->∀ o,ops[i]? =I o->o.dst=O->F i undef w'):wpOp P ops Q i K a wx:=by
 obtain ⟨hl,o,hi,hall⟩:=mem_ready.1 hr;have fi:=Qq9 (Vv hreg hi);unfold wpOp;rw [hi];simp only;rw [P9 (by unfold Region.wanted;rw [fi.g])];left;have hnext:∀ w',Rj i wx w'->(listed.setIfInBounds i true).getD p true=false->Bp w':=by
  intro w' hR hp
  by_cases hip:i=p
  ·subst hip;rw [Bm] at hp;cases hp
  ·rw [getD_set_ne true hip] at hp;exact hB i _ _ hip hR (hb hp)
 have:=hops i o him hi a wx h.cls (λ e=>hb (by rw [<-e];exact hl)) (λ t j oj ht hj hd=>by
  obtain ⟨e,he,rfl,hb⟩:=fi.look j oj t hj hd ht;have:=h.ub e.on oj hj (hall e he hb);rw [hd] at this;exact this) (λ t _ hno=>by
  rw [Act.jm,Act.jm];exact h.out t (λ j oj hj hd=>absurd hd (hno j oj hj)))
 unfold Oper.wp;revert this;generalize (execOp a.eval o).run P wx=r;intro this;cases r with
 |halt x w'=>exact this.elim
 |ok n w'=>
  cases n with
  |value v=>exact hK _ _ (h.yt hreg hF hsub htr hi hl hall this.1 this.2 (λ hd=>.inr (hskip _ _ _ this.2 o hi hd))) (hnext _ this.1)
  |skip=>exact hK _ _ (h.yt hreg hF hsub htr hi hl hall this.1 this.2 (λ _=>.inl J)) (hnext _ this.1)
  |enter f args=>
   refine Calls.mono this (λ e w'' ⟨v,he,hv⟩=>?_);subst he;exact hK _ _ (h.yt hreg hF hsub htr hi hl hall hv.1 hv.2 (λ hd=>.inr (hskip _ _ _ hv.2 o hi hd))) (hnext _ hv.1)
  |_=>exact this.elim
theorem Inv.allE (hreg:U6 ops a0.tmps.size=true) (hF:∀ i j v w w',i≠j->Vj ops ops.size i j=false->F i v w->Rj j w w'->F i v w') (hsub:∀ i a b,Rj i a b->R a b) (htr:∀ a b c,R a b->R b c->R a c) (hB:∀ j a b,j≠p->Rj j a b->Bp a->Bp b) {Q:Exit->Act->W->Prop} (hsz:ops.size=m+1) (hcov:H4 ops m=true) (hops:∀ i o,i < m->ops[i]? =I o->OpE P ops a0 R Rj p Bp wd F i o) (hskip:∀ i v w',F i v w'->∀ o,ops[i]? =I o->o.dst=O->F i undef w')
  (hend:∀ a w',(∀ listed,Inv ops a0 R wd F listed a w'->listed.getD m true=false->(∀ j,j < m->listed.getD j false=true)->wpList P ops Q [ops[m]!] a w')):∀ (fuel:Nat) (listed:Array Bool) (a:Act) (wx:W),listed.getD m true=false->(∀ n,n=(List.range ops.size).countP (λ i=>!listed.getD i true)->n<=fuel)->(listed.getD p true=false->Bp wx)->Inv ops a0 R wd F listed a wx->wpAny P .any ops Q fuel listed a wx
 |0,listed,a,wx,hlm,hn,hb,h=>by
  exfalso;have h0:=hn _ J;have hz:(List.range ops.size).countP (λ i=>!listed.getD i true)=0:=by omega
  rw [List.countP_eq_zero] at hz;have:=hz m (by rw [List.mem_range];omega);rw [hlm] at this;simp at this
 |fuel+1,listed,a,wx,hlm,hn,hb,h=>by
  refine ⟨λ hr=>?_,λ i hi=>?_⟩
  ·exfalso;have:=Kj hreg h.sz hr m (by omega);have hm':m < listed.size:=by rw [h.sz];omega
   have e:listed.getD m false=listed.getD m true:=by simp [hm']
   rw [e,hlm] at this;cases this
  by_cases him:i=m
  ·subst him;have hom:ops[i]? =I ops[i]!:=by simp [hsz]
   obtain ⟨hl,o,ho,hall⟩:=mem_ready.1 hi;have hc:∀ d j,j+d=i->0 < d->listed.getD j false=true:=by
    intro d
    induction d using Nat.strongRecOn with
    |_ d ih=>
     intro j hj hd;obtain ⟨k,ok,hk,hjk,hki,he⟩:=L7 hcov j (by omega);unfold Vk at he;rw [Array.any_eq_true] at he;obtain ⟨q,hq,hb⟩:=he;simp only [Bool.and_eq_true,beq_iff_eq] at hb;rw [<-hb.1]
     by_cases hki':k=i
     ·subst hki';rw [ho] at hk;obtain rfl:=Zo_ hk;exact hall _ (Array.getElem_mem hq) hb.2
     ·exact h.oe k ok hk (ih (i - k) (by omega) k (by omega) (by omega)) _ (Array.getElem_mem hq) hb.2
   have hw:=hend a wx listed h hlm (λ j hj=>hc (i - j) j (by omega) (by omega));unfold wpOp;rw [hom];have fi:=Qq9 (Vv hreg hom);simp only;rw [P9 (by unfold Region.wanted;rw [fi.g])];unfold wpList at hw;rw [P9 (by unfold Region.wanted;rw [fi.g])] at hw;refine hw.imp (Oper.wp_mono (λ a' w' hq=>?_)) id;have e:=Ny h.sz hsz (λ j hj=>hc (i - j) j (by omega) (by omega));have hq:Q .normal a' w':=hq;cases fuel with
   |zero=>exact ⟨e,hq⟩
   |succ f=>exact ⟨λ _=>hq,λ j hj=>by rw [e] at hj;cases hj⟩
  refine h.runE hreg hF hsub htr hB hops hb (by have:=(Array.getElem?_eq_some_iff.1 (mem_ready.1 hi).2.choose_spec.1).1;omega) hi (λ a' w' h' hb'=>Inv.allE hreg hF hsub htr hB hsz hcov hops hskip hend fuel _ a' w' (by rw [getD_set_ne true him];exact hlm) ?_ hb' h') hskip;intro n hn';obtain ⟨hl,o,ho,_⟩:=mem_ready.1 hi;have hlt:=(Array.getElem?_eq_some_iff.1 ho).1;have h1:=hn _ J;have:(List.range ops.size).countP (λ j=>!(listed.setIfInBounds i true).getD j true)+1<=(List.range ops.size).countP (λ j=>!listed.getD j true):=by
   have key:∀ l:List Nat,l.Nodup->i∈l->l.countP (λ j=>!(listed.setIfInBounds i true).getD j true)+1<=l.countP (λ j=>!listed.getD j true):=by
    intro l
    induction l with
    |nil=>intro _ hm;cases hm
    |cons x l ih=>
     intro hnd hm;rw [List.nodup_cons] at hnd;rw [List.countP_cons,List.countP_cons];rcases List.mem_cons.1 hm with rfl|hm
     ·have e1:(!(listed.setIfInBounds i true).getD i true)=false:=by
       simp [Array.getElem?_setIfInBounds];split <;> rfl
      have e2:(!listed.getD i true)=true:=by rw [hl];rfl
      rw [e1,e2];have:l.countP (λ j=>!(listed.setIfInBounds i true).getD j true)<=l.countP (λ j=>!listed.getD j true):=by
       refine List.countP_mono_left (λ y hy=>?_);have hne:i≠y:=λ e=>hnd.1 (e ▸ hy);simp [hne]
      rw [Q9 (by decide),P9 rfl];omega
     ·have hne:i≠x:=λ e=>hnd.1 (e ▸ hm);have e1:(!(listed.setIfInBounds i true).getD x true)=!listed.getD x true:=by simp [hne]
      rw [e1];have:=ih hnd.2 hm;omega
   exact key _ List.nodup_range (List.mem_range.2 hlt)
  omega
end
section
variable {P:Program} {ops:Array Oper} {n i m:Nat} {o:Oper} {a0:Act} {F:Nat->Value->W->Prop}
theorem Q3 {id:Nat} {Q:Exit->Act->W->Prop} {w:W} (hm:P.follows .mixedOrders=true) (m:Nat) {ol:Oper} (hol:ops[m]? =I ol) (R:W->W->Prop) (Rj:Nat->W->W->Prop) (p:Nat) (Bp:W->Prop) (F:Nat->Value->W->Prop)
  (hreg:U6 ops a0.tmps.size=true) (hsz:ops.size=m+1) (hcov:H4 ops m=true) (hF:∀ i j v w w',i≠j->F i v w->Rj j w w'->F i v w') (hsub:∀ i a b,Rj i a b->R a b) (hB:∀ j a b,j≠p->Rj j a b->Bp a->Bp b) (hB0:Bp w.drew) (hrf:∀ a,R a a) (htr:∀ a b c,R a b->R b c->R a c)
  (hskip:∀ i v w',F i v w'->∀ o,ops[i]? =I o->o.dst=O->F i undef w')
  (hops:∀ i o,i < m->ops[i]? =I o->OpE P ops a0 R Rj p Bp w.drew F i o)
  (hend:∀ (vs:Nat->Value) w',R w.drew w'->(∀ i,i < m->F i (vs i) w')->wpList P ops Q [ol] (Yx a0 vs (ops.toList.take m) 0) w'):(Code.region id ops true).wp P Q a0 w:=by
 refine wp_region_any hm (Inv.allE hreg (λ i j v w w' hij _=>hF i j v w w' hij) hsub htr hB hsz hcov hops hskip ?_ ops.size _ a0 _ (by simp [hsz]) ?_ (λ _=>hB0) ⟨by simp,hrf _,rfl,rfl,λ _ _=>J,λ j oj hj hl=>?_,λ j oj hj hl=>?_⟩)
 ·intro a w' listed h hlm hall
  let vs:Nat->Value:=λ i=>match (ops[i]?).bind (·.dst) with|none=>undef|some d=>a.tmps.getD d undef
  have e:a=Yx a0 vs (ops.toList.take m) 0:=by
   have hsz':a.tmps.size=(Yx a0 vs (ops.toList.take m) 0).tmps.size:=by rw [U3];exact h.yb
   have ht:a.tmps=(Yx a0 vs (ops.toList.take m) 0).tmps:=by
    refine Array.ext hsz' (λ k hk1 hk2=>?_);have g1:a.tmps.getD k undef=a.tmps[k]:=by simp [hk1]
    have g2:(Yx a0 vs (ops.toList.take m) 0).tmps.getD k undef=(Yx a0 vs (ops.toList.take m) 0).tmps[k]:=by simp [hk2]
    rw [<-g1,<-g2]
    by_cases hex:∃ (j:Nat) (oj:Oper),j < m/\ops[j]? =I oj/\oj.dst=I k
    ·obtain ⟨j,oj,hjm,hj,hd⟩:=hex;rw [Gq vs k (ops.toList.take m) 0 a0 j oj (by rw [List.getElem?_take_of_lt hjm];simpa using hj) hd (by rw [<-h.yb];exact hk1) (λ j' o' hj' hne hd'=>by
      have hj2:ops[j']? =I o':=by
       by_cases hlt:j' < m
       ·rw [List.getElem?_take_of_lt hlt] at hj';simpa using hj'
       ·rw [List.getElem?_eq_none (by simp;omega)] at hj';cases hj'
      exact (Qq9 (Vv hreg hj)).wg j' o' k hj2 hd' (Ne.symm hne) hd)]
     show _=(match (ops[0+j]?).bind (·.dst) with|none=>undef|some d=>a.tmps.getD d undef);rw [Nat.zero_add,hj];simp [hd]
    ·rw [U7 vs k (ops.toList.take m) 0 a0 (λ o ho hd=>by
      obtain ⟨j,hj⟩:=List.getElem?_of_mem ho;have hlt:j < m:=by
       have:=(List.getElem?_eq_some_iff.1 hj).1;simp at this;omega
      rw [List.getElem?_take_of_lt hlt] at hj;exact hex ⟨j,o,hlt,by simpa using hj,hd⟩)]
     exact h.out k (λ j oj hj hd=>by
      by_cases hlt:j < m
      ·exact absurd ⟨j,oj,hlt,hj,hd⟩ hex
      ·have:=(Array.getElem?_eq_some_iff.1 hj).1;obtain rfl:j=m:=by omega
       exact hlm)
   have hd:a.defers=(Yx a0 vs (ops.toList.take m) 0).defers:=by rw [Vr];exact h.og
   cases a
   cases hp:Yx a0 vs (ops.toList.take m) 0
   rw [hp] at ht hd;simp only at ht hd;rw [ht,hd]
  rw [e];have hom:ops[m]! =ol:=by
   have:=hol;simp only [getElem!_def,this]
  rw [hom];refine hend vs w' h.cls (λ i hi=>?_);have hi':i < ops.size:=by omega
  have hoi:ops[i]? =I ops[i]:=by simp [hi']
  have:=h.ub i _ hoi (hall i hi);show F i (match (ops[i]?).bind (·.dst) with|none=>undef|some d=>a.tmps.getD d undef) w';rw [hoi];simp only [Option.bind_some];cases hd:ops[i].dst with
  |none=>rw [hd] at this;exact this
  |some d=>rw [hd] at this;exact this
 ·intro k hk;rw [hk];refine Nat.le_trans List.countP_le_length (by simp)
 ·have hlt:=(Array.getElem?_eq_some_iff.1 hj).1;simp [hlt] at hl
 ·have hlt:=(Array.getElem?_eq_some_iff.1 hj).1;simp [hlt] at hl
end
end
section
def Od (x n0:Nat) (av:Option Addr) (cv nd:Nat) (dl:List Value) (cs:Array Value):Nat->Value->W->Prop
 |0,v,_=>v=E (I ⟨x,0,O⟩)
 |1,v,_=>v=E (I ⟨x,0,O⟩)
 |2,v,_=>v=E (I ⟨x,0,O⟩)
 |3,v,_=>v=E (I ⟨x,14,O⟩)
 |4,v,_=>v=L av nd cv
 |5,v,_=>v=.agg cs
 |6,v,w=>∃ B,v=L (I ⟨B,0,O⟩) 1 1/\w.heap[B]? =I (.cells cs 50 (0,0))/\n0<=B
 |7,v,w=>w.ownsRow 0 50 19 v (nd+1) (dl++cs.toList)/\∀ g,v.ownBlock=I g->(L av nd cv).ownBlock=I g\/n0<=g
 |8,v,_=>v=E (I ⟨x,0,O⟩)
 |9,v,_=>v=E (I ⟨x,14,O⟩)
 |_,_,_=>True
def Gi (av:Option Addr) (nd cv:Nat) (i:Nat):W->W->Prop:=if i=7 then Ze (L av nd cv).ownBlock.toList else Ze []
theorem beg9F_on (x n0:Nat) (av:Option Addr) (cv nd:Nat) (dl:List Value) (cs:Array Value) (hg:∀ g,(L av nd cv).ownBlock=I g->g < n0) (i j:Nat) (v:Value) (w w':W) (hij:i≠j) (h:Od x n0 av cv nd dl cs i v w) (m:Gi av nd cv j w w'):Od x n0 av cv nd dl cs i v w':=by
 match i,hij,h with
 |0,_,h=>exact h
 |1,_,h=>exact h
 |2,_,h=>exact h
 |3,_,h=>exact h
 |4,_,h=>exact h
 |5,_,h=>exact h
 |6,_,⟨B,h1,h2,h3⟩=>
  refine ⟨B,h1,?_,h3⟩;unfold Gi at m;split at m
  ·exact m.at h2 (λ hm=>by have:=hg B (Option.mem_toList.1 hm);omega)
  ·exact m.at h2 (by simp)
 |7,hij,⟨h1,h2⟩=>
  unfold Gi at m;rw [Q9 (Ne.symm hij)] at m;exact ⟨Yg h1 m,h2⟩
 |8,_,h=>exact h
 |9,_,h=>exact h
 |i+10,_,h=>trivial
theorem Iu (x n0:Nat) (av:Option Addr) (cv nd:Nat) (dl:List Value) (cs:Array Value) (i:Nat) (h:10<=i) (v:Value) (w:W):Od x n0 av cv nd dl cs i v w:=by
 match i,h with
 |j+10,_=>trivial
theorem Jd {P:Program} {w:W} {o:Oper} {a:Act} {K:Value->W->Prop} (ty:TypeId) (x:Operand) (ho:o.op=.load ty x)
  (g:Nat) (hx:a.eval x=E (I ⟨g,0,O⟩)) (t:TypeId) (cs:Array Value) (fr:Nat×Nat) (d:TypeDesc) (hg:w.heap[g]? =I (.cells cs t fr))
  (hu:P.underlying ty=I d) (hd:(match d with|.struct _|.array _ _=>true|_=>false)=true) (hi:(P.info? ty).map (·.size)=I cs.size)
  (h:K (.agg cs) w):J4 P K ((execOp a.eval o).run P w):=by
 unfold execOp;simp only [ho,hx,Instr.loadAt,Instr.sureAddr,Sem.run_bind,Sem.run_pure,Result.andThen_ok,run_loadVar_row w g t ty cs fr d hg hu hd hi];exact h
theorem Qb {P:Program} {w:W} {o:Oper} {a:Act} {K:Value->W->Prop} (t e:TypeId) (x:Operand) (ho:o.op=.buildSlice t 1 #[(0,x)])
  (cs:Array Value) (hx:a.eval x=.agg cs) (ie:TypeInfo) (z:Value) (hu:P.underlying t=I (.slice e)) (hie:P.info? e=I ie) (hz:ie.zero=I z) (hsz:ie.size=cs.size) (h0:0 < cs.size) (h24:cs.size<=1000)
  (h:K (L (I ⟨w.heap.size,0,O⟩) 1 1) (w.alloc (.cells cs e))):J4 P K ((execOp a.eval o).run P w):=by
 unfold execOp;simp only [ho,Sem.run_bind];rw [run_buildSlice w t e 1 _ cs ie z hu hie hz (by rw [hsz];omega) (by rw [hsz];omega) ?_]
 ·exact h
 ·have hf:=Great.fill_whole (s:=cs.size) h0 [.agg cs] ((Array.range (1 * ie.size)).map (z.cells[·% z.cells.size]!)) (by intro v hv;simp at hv;subst hv;rfl) (by simp [hsz]);rw [hsz] at hf ⊢
  simp only [List.map_toArray,List.map_cons,List.map_nil,hx];have e:([Value.agg cs].flatMap λ v=>v.cells.toList).toArray=cs:=by simp [Value.cells]
  rw [e] at hf;exact hf
theorem Uy {av:Option Addr} {nd cv i:Nat} {a b:W} (hi:i≠7) (m:Ze [] a b):Gi av nd cv i a b:=by
 unfold Gi;rw [Q9 hi];exact m
theorem It {av:Option Addr} {nd cv i:Nat} {a b:W} (hi:i≠7) (m:Gi av nd cv i a b):Ze [] a b:=by
 unfold Gi at m;rw [Q9 hi] at m;exact m
theorem Is {av:Option Addr} {nd cv i:Nat} {a b:W} (m:Gi av nd cv i a b):Ze (L av nd cv).ownBlock.toList a b:=by
 unfold Gi at m;split at m
 ·exact m
 ·exact m.qj _
end
section
variable {w0 w w':W} {lab lab':Nat->Nat} {P:EP} {s s':Zn}
def Tj (n0:Nat) (x:Zv) (v:Value) (w:W):Prop:=∃ q,v=E (I ⟨q.k,0,O⟩)/\Zz w q x/\q.nx=Xi 1/\∀ k∈q.blocks,n0<=k
theorem Tj.mod {n0:Nat} {x:Zv} {v:Value} {w w':W} (h:Tj n0 x v w) (m:Ze [] w w'):Tj n0 x v w':=by
 obtain ⟨q,h1,h2,h3,h4⟩:=h;exact ⟨q,h1,h2.mod m (by simp),h3,h4⟩
def To (n0:Nat) (x:Z8) (v:Value) (w:W):Prop:=∃ q,v=E (I ⟨q.k,0,O⟩)/\Yc w q x/\∀ k∈q.blocks,n0<=k
theorem To.mod {n0:Nat} {x:Z8} {v:Value} {w w':W} (h:To n0 x v w) (m:Ze [] w w'):To n0 x v w':=by
 obtain ⟨q,h1,h2,h4⟩:=h;exact ⟨q,h1,h2.mod m (by simp),h4⟩
def Gm (n0:Nat) (g:Qt) (v:Value) (w:W):Prop:=
 match g with
 |.wr x=>∃ q,v=.iface 140 (E (I ⟨q.k,0,O⟩))/\Zz w q x/\q.nx=Xi 1/\∀ k∈q.blocks,n0<=k
 |.rd x=>∃ q,v=.iface 142 (E (I ⟨q.k,0,O⟩))/\Yc w q x/\∀ k∈q.blocks,n0<=k
theorem Gm.mod {n0:Nat} {g:Qt} {v:Value} {w w':W} {S:List Nat} (h:Gm n0 g v w) (m:Ze S w w') (hS:∀ k∈S,k < n0):Gm n0 g v w':=by
 cases g with
 |wr x=>
  obtain ⟨q,h1,h2,h3,h4⟩:=h;exact ⟨q,h1,h2.mod m (λ k hk hs=>by have:=h4 k hk;have:=hS k hs;omega),h3,h4⟩
 |rd x=>
  obtain ⟨q,h1,h2,h4⟩:=h;exact ⟨q,h1,h2.mod m (λ k hk hs=>by have:=h4 k hk;have:=hS k hs;omega),h4⟩
def Of (k n5 x n0:Nat) (t tag c0 c1 c2 c3:Int) (aa ca:Option Addr) (an ac cn ccap:Nat) (code:List Xg) (args:List Nat):Nat->Value->W->Prop
 |0,v,_=>v=E (I ⟨k,0,O⟩)
 |1,v,_=>v=E (I ⟨x,0,O⟩)
 |2,v,_=>v=E (I ⟨x,0,O⟩)
 |3,v,_=>v=E (I ⟨x,0,O⟩)
 |4,v,_=>v=A_ #[U Y c0,U Y c1,U Y c2,U Y c3]
 |5,v,_=>v=U Y t
 |6,v,_=>v=A_ #[U Y tag,L ca cn ccap]
 |7,v,_=>v=E (I ⟨n5,1,O⟩)
 |8,v,_=>v=L aa an ac
 |9,v,w=>Tj n0 (Ul c0 c1 c2 c3 tag code args) v w
 |10,v,w=>Gm n0 (.wr (Ul c0 c1 c2 c3 tag code args)) v w
 |11,v,_=>v=E (I ⟨k,0,O⟩)
 |12,v,_=>v=E (I ⟨k,2,O⟩)
 |_,_,_=>True
theorem beg5F_on (k n5 x n0:Nat) (t tag c0 c1 c2 c3:Int) (aa ca:Option Addr) (an ac cn ccap:Nat) (code:List Xg) (args:List Nat) (i:Nat) (v:Value) (w w':W) (h:Of k n5 x n0 t tag c0 c1 c2 c3 aa ca an ac cn ccap code args i v w) (m:Ze [] w w'):Of k n5 x n0 t tag c0 c1 c2 c3 aa ca an ac cn ccap code args i v w':=by
 match i,h with
 |0,h=>exact h
 |1,h=>exact h
 |2,h=>exact h
 |3,h=>exact h
 |4,h=>exact h
 |5,h=>exact h
 |6,h=>exact h
 |7,h=>exact h
 |8,h=>exact h
 |9,h=>exact Tj.mod h m
 |10,h=>exact Gm.mod (n0:=n0) (g:=(.wr (Ul c0 c1 c2 c3 tag code args))) (v:=v) (w:=w) (S:=[]) h m (by simp)
 |11,h=>exact h
 |12,h=>exact h
 |i+13,h=>trivial
theorem Iw (k n5 x n0:Nat) (t tag c0 c1 c2 c3:Int) (aa ca:Option Addr) (an ac cn ccap:Nat) (code:List Xg) (args:List Nat) (i:Nat) (h:13<=i) (v:Value) (w:W):Of k n5 x n0 t tag c0 c1 c2 c3 aa ca an ac cn ccap code args i v w:=by
 match i,h with
 |j+13,_=>trivial
def Oe (k n5 x n0:Nat) (t tag c0 c1 c2 c3:Int) (aa ca:Option Addr) (an ac cn ccap:Nat) (code:List Xg) (args:List Nat):Nat->Value->W->Prop
 |0,v,_=>v=E (I ⟨k,0,O⟩)
 |1,v,_=>v=E (I ⟨x,0,O⟩)
 |2,v,_=>v=E (I ⟨x,0,O⟩)
 |3,v,_=>v=E (I ⟨x,0,O⟩)
 |4,v,_=>v=A_ #[U Y c0,U Y c1,U Y c2,U Y c3]
 |5,v,_=>v=U Y t
 |6,v,_=>v=A_ #[U Y tag,L ca cn ccap]
 |7,v,_=>v=E (I ⟨n5,1,O⟩)
 |8,v,_=>v=L aa an ac
 |9,v,w=>To n0 (Ug c0 c1 c2 c3 t tag code args) v w
 |10,v,w=>Gm n0 (.rd (Ug c0 c1 c2 c3 t tag code args)) v w
 |11,v,_=>v=E (I ⟨k,0,O⟩)
 |12,v,_=>v=E (I ⟨k,2,O⟩)
 |_,_,_=>True
theorem beg6F_on (k n5 x n0:Nat) (t tag c0 c1 c2 c3:Int) (aa ca:Option Addr) (an ac cn ccap:Nat) (code:List Xg) (args:List Nat) (i:Nat) (v:Value) (w w':W) (h:Oe k n5 x n0 t tag c0 c1 c2 c3 aa ca an ac cn ccap code args i v w) (m:Ze [] w w'):Oe k n5 x n0 t tag c0 c1 c2 c3 aa ca an ac cn ccap code args i v w':=by
 match i,h with
 |0,h=>exact h
 |1,h=>exact h
 |2,h=>exact h
 |3,h=>exact h
 |4,h=>exact h
 |5,h=>exact h
 |6,h=>exact h
 |7,h=>exact h
 |8,h=>exact h
 |9,h=>exact To.mod h m
 |10,h=>exact Gm.mod (n0:=n0) (g:=(.rd (Ug c0 c1 c2 c3 t tag code args))) (v:=v) (w:=w) (S:=[]) h m (by simp)
 |11,h=>exact h
 |12,h=>exact h
 |i+13,h=>trivial
theorem Iv (k n5 x n0:Nat) (t tag c0 c1 c2 c3:Int) (aa ca:Option Addr) (an ac cn ccap:Nat) (code:List Xg) (args:List Nat) (i:Nat) (h:13<=i) (v:Value) (w:W):Oe k n5 x n0 t tag c0 c1 c2 c3 aa ca an ac cn ccap code args i v w:=by
 match i,h with
 |j+13,_=>trivial
theorem info50':(N.info? 50).map (λ i=>(i.zero.map (λ z=>z.cells.size),i.size,i.bytes))=I (I 19,19,216):=by kernel_rfl
theorem info50:∃ i z,N.info? 50=I i/\i.zero=I z/\i.size=19/\i.bytes=216/\z.cells.size=19:=by
 have h:=info50';cases hi:N.info? 50 with
 |none=>rw [hi] at h;cases h
 |some i=>
  rw [hi] at h;simp only [Option.map_some,Option.some.injEq,Prod.mk.injEq] at h;obtain ⟨h1,h2,h3⟩:=h;cases hz:i.zero with
  |none=>rw [hz] at h1;cases h1
  |some z=>
   rw [hz] at h1;simp only [Option.map_some,Option.some.injEq] at h1;exact ⟨i,z,J,hz,h2,h3,h1⟩
def BegunP (w:W) (x k cg cc ncalls begun:Nat) (c0 c1 c2 c3 q4 q5 st ro:Int) (pg nprogs pc a r tg ntn tc:Nat) (vd:Value) (dl:List Value) (nd:Nat) (t prog:Int) (g:Qt) (e:Ending) (w':W):Prop:=
 e=R_ (.tuple #[])/\∃ v vd',Gm w.heap.size g v w'/\
  w'.heap[k]? =I (X #[L (I ⟨cg,0,O⟩) ncalls cc,U Y ((begun:Int)+1),v,U Y nd] 87 (0,0))/\
  w'.heap[x]? =I (X #[U Y c0,U Y c1,U Y c2,U Y c3,L (I ⟨pg,0,O⟩) nprogs pc,U Y 0,U Y 1,U Y 2,U Y 3,U Y q4,U Y q5,E (I ⟨a,0,O⟩),E (I ⟨r,0,O⟩),L (I ⟨tg,0,O⟩) ntn tc,vd',U Y st] 79 (0,0))/\
  w'.ownsRow 0 50 19 vd' (nd+1) (dl++Z9 (Xj t begun prog st) {Qm with fr:=ro})/\
  (∀ g,vd'.ownBlock=I g->vd.ownBlock=I g\/w.heap.size<=g)/\Ze (k :: x :: vd.ownBlock.toList) w w'
theorem Hq {w:W} {r:Nat} {o:Int} (c17:w.cell? ⟨r,17,O⟩=I (U Y o)):Calls N 26 #[E (I ⟨r,0,O⟩)] w (λ e w'=>e=R_ (U Y o)/\w=w'):=by
 go_enter func26,ntmps26;go_wp2;go_ret;exact ⟨J,J⟩
theorem Oc (t prog st ro:Int) (begun:Nat):(Z9 (Xj t begun prog st) {Qm with fr:=ro}).toArray.all (·.oneCell')=true:=by
 unfold Z9 Qm;simp only [List.all_toArray,List.all_cons];rfl
def Og (k n5 x r begun n0:Nat) (t prog st ro:Int):Nat->Value->W->Prop
 |0,v,_=>v=U Y t
 |1,v,_=>v=E (I ⟨k,0,O⟩)
 |2,v,_=>v=E (I ⟨k,0,O⟩)
 |3,v,_=>v=E (I ⟨k,1,O⟩)
 |4,v,_=>v=U Y begun
 |5,v,_=>v=E (I ⟨n5,0,O⟩)
 |6,v,_=>v=U Y prog
 |7,v,_=>v=E (I ⟨x,0,O⟩)
 |8,v,_=>v=E (I ⟨x,0,O⟩)
 |9,v,_=>v=E (I ⟨x,15,O⟩)
 |10,v,_=>v=U Y st
 |11,v,_=>v=E (I ⟨x,0,O⟩)
 |12,v,_=>v=E (I ⟨x,0,O⟩)
 |13,v,_=>v=E (I ⟨x,12,O⟩)
 |14,v,_=>v=E (I ⟨r,0,O⟩)
 |15,v,_=>v=U Y ro
 |16,v,_=>v=.agg (Z9 (Xj t begun prog st) {Qm with fr:=ro}).toArray
 |17,v,w=>Vq n0 v w
 |_,_,_=>True
theorem beg3F_on (k n5 x r begun n0:Nat) (t prog st ro:Int) (i:Nat) (v:Value) (w w':W) (h:Og k n5 x r begun n0 t prog st ro i v w) (m:Ze [] w w'):Og k n5 x r begun n0 t prog st ro i v w':=by
 match i,h with
 |0,h=>exact h
 |1,h=>exact h
 |2,h=>exact h
 |3,h=>exact h
 |4,h=>exact h
 |5,h=>exact h
 |6,h=>exact h
 |7,h=>exact h
 |8,h=>exact h
 |9,h=>exact h
 |10,h=>exact h
 |11,h=>exact h
 |12,h=>exact h
 |13,h=>exact h
 |14,h=>exact h
 |15,h=>exact h
 |16,h=>exact h
 |17,h=>exact Vq.mod h m
 |i+18,h=>trivial
theorem Ix (k n5 x r begun n0:Nat) (t prog st ro:Int) (i:Nat) (h:18<=i) (v:Value) (w:W):Og k n5 x r begun n0 t prog st ro i v w:=by
 match i,h with
 |j+18,_=>trivial
theorem begin_t {x k tg tc cg cc pg pc a r:Nat} {t prog tag c0 c1 c2 c3 q4 q5 st:Int} {ntn:Nat} {vd:Value} {aa ca:Option Addr} {an ac cn ccap:Nat} {begun ncalls nprogs:Nat} {ai:Int}
 (ht0:0<=t) (ht:t.toNat < ntn) (hb:begun < ncalls) (hp0:0<=prog) (hp:prog.toNat < nprogs)
 (qW:w.heap[x]? =I (X #[U Y c0,U Y c1,U Y c2,U Y c3,L (I ⟨pg,0,O⟩) nprogs pc,U Y 0,U Y 1,U Y 2,U Y 3,U Y q4,U Y q5,E (I ⟨a,0,O⟩),E (I ⟨r,0,O⟩),L (I ⟨tg,0,O⟩) ntn tc,vd,U Y st] 79 (0,0)))
 (T:w.cell? ⟨tg,t.toNat,O⟩=I (E (I ⟨k,0,O⟩))) (_:tg < w.heap.size)
 (K:w.heap[k]? =I (X #[L (I ⟨cg,0,O⟩) ncalls cc,U Y begun,.nilIface,U Y ai] 87 (0,0)))
 (C0:w.cell? ⟨cg,begun * 2,O⟩=I (U Y prog)) (C1:w.cell? ⟨cg,begun * 2+1,O⟩=I (L aa an ac)) (cgl:cg < w.heap.size)
 {f:Nat->Bool} {ro:Int} (R:w.heap[r]? =I (.cells (Hr f c1 ro) 123 (0,0)))
 (P0:w.cell? ⟨pg,prog.toNat * 2,O⟩=I (U Y tag)) (P1:w.cell? ⟨pg,prog.toNat * 2+1,O⟩=I (L ca cn ccap)) (pgl:pg < w.heap.size)
 {ab bb:Nat} {ms:Zh} {code:List Xg} {args:List Nat} {dl:List Value} {nd:Nat}
 (hcf:Y1 c0 c1 c2 c3) (ht1:t < c1) (MM:Zj 137 w ab bb ms)
 (hcode:w.ownsRow 0 106 3 (L ca cn ccap) code.length (Yl code)) (hcl:code.length<=5864062014635)
 (hargs:w.ownsRow 0 51 1 (L aa an ac) args.length (args.map (Z V))) (hal:args.length<=8)
 (hvd:w.ownsRow 0 50 19 vd nd dl) (hnd:nd < 1000000000) (hnc:ncalls<=64) (hdx:vd.ownBlock≠I x) (hdk:vd.ownBlock≠I k)
 {g:Qt} (hg:g=if tag=2 then .wr (Ul c0 c1 c2 c3 tag code args) else .rd (Ug c0 c1 c2 c3 t tag code args))
 :Calls N 45 #[E (I ⟨x,0,O⟩),U Y t] w (BegunP w x k cg cc ncalls begun c0 c1 c2 c3 q4 q5 st ro pg nprogs pc a r tg ntn tc vd dl nd t prog g):=by
 obtain ⟨av,cv,hav⟩:=Zo hvd;subst hav;have HCF:=Zh_ hcf;have HT0:=Zh_ ht0;have HTC:=Zh_ ht1;have HMM:=Zh_ MM;have HCO:=Zh_ hcode;have HCL:=Zh_ hcl;have HAR:=Zh_ hargs;have HAL:=Zh_ hal;have HVD:=Zh_ hvd;have HND:=Zh_ hnd;have HNC:=Zh_ hnc;have HDX:=Zh_ hdx;have HDK:=Zh_ hdk;have HK0:=Zh_ K;have HX0:=Zh_ qW;have HG0:=Zh_ hg;clear hg hnc hcf ht1 MM hcode hcl hargs hal hvd hnd hdx hdk;have hx:=B9 qW;have hk:=B9 K;have x4:=Za (i:=4) qW J;have x13:=Za (i:=13) qW J;have k0:=Za (i:=0) K J;have k1:=Za (i:=1) K J;go_enter func45,ntmps45;go_wp2_with fail;go_region;go_wp2_with fail;go_region;go_wp2_with fail;obtain ⟨n5,hn5⟩:∃ z,z=w.heap.size:=⟨_,J⟩;obtain ⟨n6,hn6⟩:∃ z,z=n5+1:=⟨_,J⟩;obtain ⟨w2,hw2⟩:∃ z,z=((w.alloc (X #[U Y prog,L aa an ac] 63)).alloc (X #[U Y tag,L ca cn ccap] 110)).drew.drew:=⟨_,J⟩;have M2:Ze [] w w2:=by rw [hw2];exact ((((Zr_ _ _).alloc _).alloc _).drew).drew
 have B5:w2.heap[n5]? =I (X #[U Y prog,L aa an ac] 63 (0,0)):=by rw [hw2,hn5];exact Zf _ (Zc _ _)
 have B6:w2.heap[n6]? =I (X #[U Y tag,L ca cn ccap] 110 (0,0)):=by
  rw [hw2,hn6,hn5];have:=Zc (w.alloc (X #[U Y prog,L aa an ac] 63)) (X #[U Y tag,L ca cn ccap] 110);rw [World.size_alloc] at this;exact this
 have X2:=M2.at qW (by simp);have K2:=M2.at K (by simp);have R2:=M2.at R (by simp);simp only [<-hw2,<-hn5,<-hn6];have HM2:=Zh_ M2;clear hn5 hn6 hw2 M2 qW K T C0 C1 P0 P1 R x4 x13 k0 k1 hx hk;have hx:=B9 X2;have hk:=B9 K2;have hr:=B9 R2;have h5:=B9 B5;have h6:=B9 B6;have k1:=Za (i:=1) K2 J;have b50:=Za (i:=0) B5 J;have x15:=Za (i:=15) X2 J;have x12:=Za (i:=12) X2 J;have HK:=Zh_ (show ∀ wx,Ze [] w2.drew wx->wx.cell? ⟨k,1,O⟩=I (U Y begun)/\wx.cell? ⟨n5,0,O⟩=I (U Y prog)/\wx.cell? ⟨x,15,O⟩=I (U Y st)/\wx.cell? ⟨x,12,O⟩=I (E (I ⟨r,0,O⟩))/\wx.cell? ⟨r,17,O⟩=I (U Y ro) from
  λ wx hR=>by
   have m:Ze [] w2 wx:=(Zr_ [] w2).drew.trans hR;exact ⟨Z5 m hk (by simp) k1,Z5 m h5 (by simp) b50,Z5 m hx (by simp) x15,Z5 m hx (by simp) x12,Za (m.at R2 (by simp)) J⟩)
 obtain ⟨n0,hq0⟩:∃ n,n=w2.heap.size:=⟨_,J⟩;have hn0:n0<=w2.drew.heap.size:=Nat.le_of_eq hq0;have HN0:=Zh_ hq0;have HR2:=Zh_ R2;have HX2:=Zh_ X2;have HK2:=Zh_ K2;have HB5:=Zh_ B5;have HB6:=Zh_ B6;clear k1 b50 x15 x12 hq0 R2 X2 K2 B5 B6
 go_cut [7] (λ A wx=>∃ n7,A=E (I ⟨n7,0,O⟩)/\wx.heap[n7]? =I (.cells (Z9 (Xj t begun prog st) {Qm with fr:=ro}).toArray 50 (0,0))/\w2.heap.size<=n7/\Ze [] w2 wx)
 case first=>
  refine Yt (by kernel_rfl) 18 (by rfl) (λ x y=>Ze [] x y) (Og k n5 x r begun n0 t prog st ro) (by kernel_rfl) (by rfl) (by kernel_rfl) (beg3F_on k n5 x r begun n0 t prog st ro) (λ a=>Zr_ _ _) (λ a b c h k=>h.trans k) ?_ ?_ ?_
  ·exact λ i v w' hv o ho hd=>Vi (m:=18) (by kernel_rfl) (Ix k n5 x r begun n0 t prog st ro) ho hd
  ·intro i o hi ho
   match i,hi with
   |0,_=>obtain rfl:=Zo_ ho;intro a wx hR hF hO;have e1:=To_ hO 1 (U Y t);clear hF hO;go_simp;exact ⟨Zr_ _ _,J⟩
   |1,_=>obtain rfl:=Zo_ ho;intro a wx hR hF hO;have e4:=To_ hO 4 (E (I ⟨k,0,O⟩));clear hF hO;go_simp;exact ⟨Zr_ _ _,J⟩
   |2,_=>obtain rfl:=Zo_ ho;intro a wx hR hF hO;have e34:=Tf_ hF 34 1 (E (I ⟨k,0,O⟩));clear hF hO;go_simp;exact ⟨Zr_ _ _,J⟩
   |3,_=>obtain rfl:=Zo_ ho;intro a wx hR hF hO;have e35:=Tf_ hF 35 2 (E (I ⟨k,0,O⟩));clear hF hO;go_simp;exact ⟨Zr_ _ _,J⟩
   |4,_=>obtain rfl:=Zo_ ho;intro a wx hR hF hO;have e36:=Tf_ hF 36 3 (E (I ⟨k,1,O⟩));clear hF hO;obtain ⟨ck,cn,cx,cy,cr⟩:=HK.out wx hR;go_simp;exact ⟨Zr_ _ _,J⟩
   |5,_=>obtain rfl:=Zo_ ho;intro a wx hR hF hO;have e5:=To_ hO 5 (E (I ⟨n5,0,O⟩));clear hF hO;go_simp;exact ⟨Zr_ _ _,J⟩
   |6,_=>obtain rfl:=Zo_ ho;intro a wx hR hF hO;have e38:=Tf_ hF 38 5 (E (I ⟨n5,0,O⟩));clear hF hO;obtain ⟨ck,cn,cx,cy,cr⟩:=HK.out wx hR;go_simp;exact ⟨Zr_ _ _,J⟩
   |7,_=>obtain rfl:=Zo_ ho;intro a wx hR hF hO;have e0:=To_ hO 0 (E (I ⟨x,0,O⟩));clear hF hO;go_simp;exact ⟨Zr_ _ _,J⟩
   |8,_=>obtain rfl:=Zo_ ho;intro a wx hR hF hO;have e40:=Tf_ hF 40 7 (E (I ⟨x,0,O⟩));clear hF hO;go_simp;exact ⟨Zr_ _ _,J⟩
   |9,_=>obtain rfl:=Zo_ ho;intro a wx hR hF hO;have e41:=Tf_ hF 41 8 (E (I ⟨x,0,O⟩));clear hF hO;go_simp;exact ⟨Zr_ _ _,J⟩
   |10,_=>obtain rfl:=Zo_ ho;intro a wx hR hF hO;have e42:=Tf_ hF 42 9 (E (I ⟨x,15,O⟩));clear hF hO;obtain ⟨ck,cn,cx,cy,cr⟩:=HK.out wx hR;go_simp;exact ⟨Zr_ _ _,J⟩
   |11,_=>obtain rfl:=Zo_ ho;intro a wx hR hF hO;have e0:=To_ hO 0 (E (I ⟨x,0,O⟩));clear hF hO;go_simp;exact ⟨Zr_ _ _,J⟩
   |12,_=>obtain rfl:=Zo_ ho;intro a wx hR hF hO;have e44:=Tf_ hF 44 11 (E (I ⟨x,0,O⟩));clear hF hO;go_simp;exact ⟨Zr_ _ _,J⟩
   |13,_=>obtain rfl:=Zo_ ho;intro a wx hR hF hO;have e45:=Tf_ hF 45 12 (E (I ⟨x,0,O⟩));clear hF hO;go_simp;exact ⟨Zr_ _ _,J⟩
   |14,_=>obtain rfl:=Zo_ ho;intro a wx hR hF hO;have e46:=Tf_ hF 46 13 (E (I ⟨x,12,O⟩));clear hF hO;obtain ⟨ck,cn,cx,cy,cr⟩:=HK.out wx hR;go_simp;exact ⟨Zr_ _ _,J⟩
   |15,_=>obtain rfl:=Zo_ ho;intro a wx hR hF hO;have e47:=Tf_ hF 47 14 (E (I ⟨r,0,O⟩));clear hF hO;obtain ⟨ck,cn,cx,cy,cr⟩:=HK.out wx hR;go_simp;refine Calls.mono (Hq cr) ?_;rintro e w' ⟨rfl,rfl⟩;exact ⟨_,J,Zr_ _ _,J⟩
   |16,_=>obtain rfl:=Zo_ ho;intro a wx hR hF hO;have e33:=Tf_ hF 33 0 (U Y t);have e37:=Tf_ hF 37 4 (U Y begun);have e39:=Tf_ hF 39 6 (U Y prog);have e43:=Tf_ hF 43 10 (U Y st);have e48:=Tf_ hF 48 15 (U Y ro);clear hF hO;go_simp;exact ⟨Zr_ _ _,J⟩
   |17,_=>obtain rfl:=Zo_ ho;intro a wx hR hF hO;clear hF hO;go_simp;exact ⟨(Zr_ _ _).alloc _,_,J,heap_alloc_new _ _,Nat.le_trans hn0 hR.size⟩
   |j+18,hh=>omega
  ·intro vs w5 hR hv;obtain ⟨g5,e7,k5,hg5⟩:Vq n0 (vs 17) w5:=hv 17 (by decide);have e49:vs 16=.agg (Z9 (Xj t begun prog st) {Qm with fr:=ro}).toArray:=hv 16 (by decide);have K5:=Zh_ k5;have H5:=Zh_ ((Zr_ [] w2).drew.trans hR);have HG:=Zh_ (show w2.heap.size<=g5 by rw [<-HN0.out];exact hg5);clear hR hv k5 hg5;simp only [Yx,List.take_succ_cons,List.take_zero,Act.put,e7,e49];go_simp;refine wpList_store_row J 50 _ _ J g5 (Z9 (Xj t begun prog st) {Qm with fr:=ro}).toArray J J 50 Yd K5.out (by kernel_rfl) J (Oc t prog st ro begun) ?_;go_wp2_with fail;go_meet;exact ⟨g5,J,Y0 K5.out,HG.out,H5.out.setRow _ _ (.inr HG.out)⟩
 case rest=>
  obtain ⟨n7,rfl,D7,hn7,M7⟩:=hcut;have X3:=M7.at HX2.out (by simp);have K3:=M7.at HK2.out (by simp);have B5:=M7.at HB5.out (by simp);have B6:=M7.at HB6.out (by simp);have MA:=Zh_ (HM2.out.trans M7);generalize wc=w3 at *
  obtain ⟨n0,hq0⟩:∃ n,n=w.heap.size:=⟨_,J⟩;have HN0:=Zh_ (show n0<=w3.heap.size by rw [hq0];exact MA.out.size);have HQ0:=Zh_ hq0;have HROW:=Zh_ (show ∀ wx,Ze [] w3.drew wx->wx.ownsRow 0 51 1 (L aa an ac) args.length (args.map (Z V))/\wx.ownsRow 0 106 3 (L ca cn ccap) code.length (Yl code)/\Zj 137 wx ab bb ms from
   λ wx hR=>by
    have m:Ze [] w wx:=(MA.out.drew).trans hR;exact ⟨Yg HAR.out m,Yg HCO.out m,HMM.out.mod m (by simp) (by simp)⟩)
  have HK:=Zh_ (show ∀ wx,Ze [] w3.drew wx->wx.heap[x]? =I (X #[U Y c0,U Y c1,U Y c2,U Y c3,L (I ⟨pg,0,O⟩) nprogs pc,U Y 0,U Y 1,U Y 2,U Y 3,U Y q4,U Y q5,E (I ⟨a,0,O⟩),E (I ⟨r,0,O⟩),L (I ⟨tg,0,O⟩) ntn tc,L av nd cv,U Y st] 79 (0,0))/\wx.heap[n6]? =I (X #[U Y tag,L ca cn ccap] 110 (0,0))/\wx.heap[n5]? =I (X #[U Y prog,L aa an ac] 63 (0,0)) from
   λ wx hR=>by
    have m:Ze [] w3 wx:=((Zr_ _ _).drew).trans hR;exact ⟨m.at X3 (by simp),m.at B6 (by simp),m.at B5 (by simp)⟩)
  have HKK:=Zh_ (show ∀ wx,Ze [] w3.drew wx->wx.heap[k]? =I (X #[L (I ⟨cg,0,O⟩) ncalls cc,U Y begun,.nilIface,U Y ai] 87 (0,0)) from
   λ wx hR=>(((Zr_ _ _).drew).trans hR).at K3 (by simp))
  have hlk:=B9 K3;have hlx:=B9 X3;have b60:=Za (i:=0) B6 J;have HX3:=Zh_ X3;have HD7:=Zh_ D7;have HN7:=Zh_ hn7;have HM7:=Zh_ M7;clear hq0 X3 K3 B5 B6 D7 hn7 M7 h5 h6 hr hx hk hn0 HK2 HX2 HR2 HB5 HB6;go_upto_if 52 with fail
  go_cut [] (λ wx=>∃ v w4,Ze [] w3.drew w4/\Gm n0 g v w4/\wx=w4.setCell ⟨k,2,O⟩ v)
  case first=>
   by_cases htag:tag=2
   ·have d52:(tag==2)=true:=by simp [htag]
    have hgw:g=.wr (Ul c0 c1 c2 c3 tag code args):=HG0.out.trans (P9 htag);have HTG:=Zh_ htag;have HGW:=Zh_ hgw;clear htag hgw;go_wp2_with fail;refine Yt (by kernel_rfl) 13 (by rfl) (λ x y=>Ze [] x y) (Of k n5 x n0 t tag c0 c1 c2 c3 aa ca an ac cn ccap code args) (by kernel_rfl) (by rfl) (by kernel_rfl) (beg5F_on k n5 x n0 t tag c0 c1 c2 c3 aa ca an ac cn ccap code args) (λ a=>Zr_ _ _) (λ a b c h k=>h.trans k) ?_ ?_ ?_
    ·exact λ i v w' hv o ho hd=>Vi (m:=13) (by kernel_rfl) (Iw k n5 x n0 t tag c0 c1 c2 c3 aa ca an ac cn ccap code args) ho hd
    ·intro i o hi ho
     match i,hi with
     |0,_=>obtain rfl:=Zo_ ho;intro a wx hR hF hO;have e4:=To_ hO 4 (E (I ⟨k,0,O⟩));clear hF hO;go_simp;exact ⟨Zr_ _ _,J⟩
     |1,_=>obtain rfl:=Zo_ ho;intro a wx hR hF hO;have e0:=To_ hO 0 (E (I ⟨x,0,O⟩));clear hF hO;go_simp;exact ⟨Zr_ _ _,J⟩
     |2,_=>obtain rfl:=Zo_ ho;intro a wx hR hF hO;have e54:=Tf_ hF 54 1 (E (I ⟨x,0,O⟩));clear hF hO;go_simp;exact ⟨Zr_ _ _,J⟩
     |3,_=>obtain rfl:=Zo_ ho;intro a wx hR hF hO;have e55:=Tf_ hF 55 2 (E (I ⟨x,0,O⟩));clear hF hO;go_simp;exact ⟨Zr_ _ _,J⟩
     |4,_=>obtain rfl:=Zo_ ho;intro a wx hR hF hO;have e56:=Tf_ hF 56 3 (E (I ⟨x,0,O⟩));clear hF hO;obtain ⟨cx,c6,c5⟩:=HK.out wx hR;have c0:=Za (i:=0) cx J;have c1:=Za (i:=1) cx J;have c2:=Za (i:=2) cx J;have c3:=Za (i:=3) cx J;go_simp;exact ⟨Zr_ _ _,J⟩
     |5,_=>obtain rfl:=Zo_ ho;intro a wx hR hF hO;have e1:=To_ hO 1 (U Y t);clear hF hO;go_simp;exact ⟨Zr_ _ _,J⟩
     |6,_=>obtain rfl:=Zo_ ho;intro a wx hR hF hO;have e6:=To_ hO 6 (E (I ⟨n6,0,O⟩));clear hF hO;obtain ⟨cx,c6,c5⟩:=HK.out wx hR;have d0:=Za (i:=0) c6 J;have d1:=Za (i:=1) c6 J;go_simp;exact ⟨Zr_ _ _,J⟩
     |7,_=>obtain rfl:=Zo_ ho;intro a wx hR hF hO;have e5:=To_ hO 5 (E (I ⟨n5,0,O⟩));clear hF hO;go_simp;exact ⟨Zr_ _ _,J⟩
     |8,_=>obtain rfl:=Zo_ ho;intro a wx hR hF hO;have e60:=Tf_ hF 60 7 (E (I ⟨n5,1,O⟩));clear hF hO;obtain ⟨cx,c6,c5⟩:=HK.out wx hR;have d1:=Za (i:=1) c5 J;go_simp;exact ⟨Zr_ _ _,J⟩
     |9,_=>obtain rfl:=Zo_ ho;intro a wx hR hF hO;have e57:=Tf_ hF 57 4 (A_ #[U Y c0,U Y c1,U Y c2,U Y c3]);have e58:=Tf_ hF 58 5 (U Y t);have e59:=Tf_ hF 59 6 (A_ #[U Y tag,L ca cn ccap]);have e61:=Tf_ hF 61 8 (L aa an ac);clear hF hO;obtain ⟨hA,hC,hM⟩:=HROW.out wx hR;go_simp;refine Calls.mono (wnew_c HCF.out t HT0.out HTC.out hC HCL.out hA HAL.out hM) ?_;rintro e w' ⟨q,rfl,A,B,C,M,D⟩;exact ⟨_,J,M,q,J,A,B,λ k hk=>Nat.le_trans HN0.out (Nat.le_trans hR.size (D k hk))⟩
     |10,_=>obtain rfl:=Zo_ ho;intro a wx hR hF hO;have e62:Tj n0 (Ul c0 c1 c2 c3 tag code args) (a.eval (.tmp 62)) wx:=hF 62 9 _ (by kernel_rfl) J J;clear hF hO;obtain ⟨q,q62,hrest⟩:=e62;replace q62:a.tmps[62]?.getD undef=_:=(show a.tmps[62]?.getD undef=a.eval (.tmp 62) by simp [Act.eval]).trans q62;have HG:=Zh_ hrest;clear hrest;go_simp;exact ⟨Zr_ _ _,q,J,HG.out⟩
     |11,_=>obtain rfl:=Zo_ ho;intro a wx hR hF hO;have e53:=Tf_ hF 53 0 (E (I ⟨k,0,O⟩));clear hF hO;go_simp;exact ⟨Zr_ _ _,J⟩
     |12,_=>obtain rfl:=Zo_ ho;intro a wx hR hF hO;have e64:=Tf_ hF 64 11 (E (I ⟨k,0,O⟩));clear hF hO;go_simp;exact ⟨Zr_ _ _,J⟩
     |j+13,hh=>omega
    ·intro vs w5 hR hv;obtain ⟨q,e63,hn⟩:Gm n0 (.wr (Ul c0 c1 c2 c3 tag code args)) (vs 10) w5:=hv 10 (by decide);have e65:vs 12=E (I ⟨k,2,O⟩):=hv 12 (by decide);have k2:=Za (i:=2) (HKK.out w5 hR) J;have z2:=Zb (i:=2) (HKK.out w5 hR);have HN:=Zh_ hn;have H5:=Zh_ hR;clear hv hn;simp only [Yx,List.take_succ_cons,List.take_zero,Act.put,e63,e65];go_simp;go_wp2_with fail;go_meet;exact ⟨_,w5,H5.out,by rw [HGW.out];exact ⟨q,J,HN.out⟩,J⟩
   ·have d52:(tag==2)=false:=by simp [htag]
    have hgw:g=.rd (Ug c0 c1 c2 c3 t tag code args):=HG0.out.trans (Q9 htag);have HTG:=Zh_ htag;have HGW:=Zh_ hgw;clear htag hgw;go_wp2_with fail;refine Yt (by kernel_rfl) 13 (by rfl) (λ x y=>Ze [] x y) (Oe k n5 x n0 t tag c0 c1 c2 c3 aa ca an ac cn ccap code args) (by kernel_rfl) (by rfl) (by kernel_rfl) (beg6F_on k n5 x n0 t tag c0 c1 c2 c3 aa ca an ac cn ccap code args) (λ a=>Zr_ _ _) (λ a b c h k=>h.trans k) ?_ ?_ ?_
    ·exact λ i v w' hv o ho hd=>Vi (m:=13) (by kernel_rfl) (Iv k n5 x n0 t tag c0 c1 c2 c3 aa ca an ac cn ccap code args) ho hd
    ·intro i o hi ho
     match i,hi with
     |0,_=>obtain rfl:=Zo_ ho;intro a wx hR hF hO;have e4:=To_ hO 4 (E (I ⟨k,0,O⟩));clear hF hO;go_simp;exact ⟨Zr_ _ _,J⟩
     |1,_=>obtain rfl:=Zo_ ho;intro a wx hR hF hO;have e0:=To_ hO 0 (E (I ⟨x,0,O⟩));clear hF hO;go_simp;exact ⟨Zr_ _ _,J⟩
     |2,_=>obtain rfl:=Zo_ ho;intro a wx hR hF hO;have e67:=Tf_ hF 67 1 (E (I ⟨x,0,O⟩));clear hF hO;go_simp;exact ⟨Zr_ _ _,J⟩
     |3,_=>obtain rfl:=Zo_ ho;intro a wx hR hF hO;have e68:=Tf_ hF 68 2 (E (I ⟨x,0,O⟩));clear hF hO;go_simp;exact ⟨Zr_ _ _,J⟩
     |4,_=>obtain rfl:=Zo_ ho;intro a wx hR hF hO;have e69:=Tf_ hF 69 3 (E (I ⟨x,0,O⟩));clear hF hO;obtain ⟨cx,c6,c5⟩:=HK.out wx hR;have c0:=Za (i:=0) cx J;have c1:=Za (i:=1) cx J;have c2:=Za (i:=2) cx J;have c3:=Za (i:=3) cx J;go_simp;exact ⟨Zr_ _ _,J⟩
     |5,_=>obtain rfl:=Zo_ ho;intro a wx hR hF hO;have e1:=To_ hO 1 (U Y t);clear hF hO;go_simp;exact ⟨Zr_ _ _,J⟩
     |6,_=>obtain rfl:=Zo_ ho;intro a wx hR hF hO;have e6:=To_ hO 6 (E (I ⟨n6,0,O⟩));clear hF hO;obtain ⟨cx,c6,c5⟩:=HK.out wx hR;have d0:=Za (i:=0) c6 J;have d1:=Za (i:=1) c6 J;go_simp;exact ⟨Zr_ _ _,J⟩
     |7,_=>obtain rfl:=Zo_ ho;intro a wx hR hF hO;have e5:=To_ hO 5 (E (I ⟨n5,0,O⟩));clear hF hO;go_simp;exact ⟨Zr_ _ _,J⟩
     |8,_=>obtain rfl:=Zo_ ho;intro a wx hR hF hO;have e73:=Tf_ hF 73 7 (E (I ⟨n5,1,O⟩));clear hF hO;obtain ⟨cx,c6,c5⟩:=HK.out wx hR;have d1:=Za (i:=1) c5 J;go_simp;exact ⟨Zr_ _ _,J⟩
     |9,_=>obtain rfl:=Zo_ ho;intro a wx hR hF hO;have e70:=Tf_ hF 70 4 (A_ #[U Y c0,U Y c1,U Y c2,U Y c3]);have e71:=Tf_ hF 71 5 (U Y t);have e72:=Tf_ hF 72 6 (A_ #[U Y tag,L ca cn ccap]);have e74:=Tf_ hF 74 8 (L aa an ac);clear hF hO;obtain ⟨hA,hC,hM⟩:=HROW.out wx hR;go_simp;refine Calls.mono (rnew_c HCF.out t HT0.out HTC.out hC HCL.out hA HAL.out hM) ?_;rintro e w' ⟨q,rfl,A,C,M,D⟩;exact ⟨_,J,M,q,J,A,λ k hk=>Nat.le_trans HN0.out (Nat.le_trans hR.size (D k hk))⟩
     |10,_=>obtain rfl:=Zo_ ho;intro a wx hR hF hO;have e75:To n0 (Ug c0 c1 c2 c3 t tag code args) (a.eval (.tmp 75)) wx:=hF 75 9 _ (by kernel_rfl) J J;clear hF hO;obtain ⟨q,q75,hrest⟩:=e75;replace q75:a.tmps[75]?.getD undef=_:=(show a.tmps[75]?.getD undef=a.eval (.tmp 75) by simp [Act.eval]).trans q75;have HG:=Zh_ hrest;clear hrest;go_simp;exact ⟨Zr_ _ _,q,J,HG.out⟩
     |11,_=>obtain rfl:=Zo_ ho;intro a wx hR hF hO;have e66:=Tf_ hF 66 0 (E (I ⟨k,0,O⟩));clear hF hO;go_simp;exact ⟨Zr_ _ _,J⟩
     |12,_=>obtain rfl:=Zo_ ho;intro a wx hR hF hO;have e77:=Tf_ hF 77 11 (E (I ⟨k,0,O⟩));clear hF hO;go_simp;exact ⟨Zr_ _ _,J⟩
     |j+13,hh=>omega
    ·intro vs w5 hR hv;obtain ⟨q,e63,hn⟩:Gm n0 (.rd (Ug c0 c1 c2 c3 t tag code args)) (vs 10) w5:=hv 10 (by decide);have e65:vs 12=E (I ⟨k,2,O⟩):=hv 12 (by decide);have k2:=Za (i:=2) (HKK.out w5 hR) J;have z2:=Zb (i:=2) (HKK.out w5 hR);have HN:=Zh_ hn;have H5:=Zh_ hR;clear hv hn;simp only [Yx,List.take_succ_cons,List.take_zero,Act.put,e63,e65];go_simp;go_wp2_with fail;go_meet;exact ⟨_,w5,H5.out,by rw [HGW.out];exact ⟨q,J,HN.out⟩,J⟩
  case rest=>
   obtain ⟨v,w4,M4,HGN,rfl⟩:=hcut;have hkx:x≠k:=λ e=>by
    have h1:=HX0.out;have h2:=HK0.out;rw [e,h2] at h1;simp at h1
   have K4:(w4.setCell ⟨k,2,O⟩ v).heap[k]? =I (X #[L (I ⟨cg,0,O⟩) ncalls cc,U Y begun,v,U Y ai] 87 (0,0)):=Zd _ (HKK.out w4 M4);have m4:Ze [k] w4 (w4.setCell ⟨k,2,O⟩ v):=(Zr_ _ _).setCell _ _ (.inl (by simp));have X4:=m4.at (HK.out w4 M4).1 (by simpa using hkx);have hkl:k < w.heap.size:=B9 HK0.out;have hxl:x < w.heap.size:=B9 HX0.out;have hs7:w.heap.size<=n7:=Nat.le_trans HM2.out.size HN7.out;have D4:=m4.at ((((Zr_ _ _).drew).trans M4).at HD7.out (by simp)) (by simp;omega);have G4:=Zh_ (HGN.mod m4 (by intro j hj;simp at hj;subst hj;rw [HQ0.out];exact hkl));have A4:=Zh_ (((MA.out.drew.trans M4).qj [k]).trans m4);have hrow4:(w4.setCell ⟨k,2,O⟩ v).ownsRow 0 50 19 (L av nd cv) nd dl:=Zt HVD.out A4.out (by intro g hg;have:=HDK.out;rw [hg] at this;simp at this ⊢;exact this);have HKX:=Zh_ hkx;have HKL:=Zh_ hkl;have HXL:=Zh_ hxl;have HS7:=Zh_ hs7;have HX4:=Zh_ X4;have HD4:=Zh_ D4;have HR4:=Zh_ hrow4;have k4:=Za (i:=1) K4 J;have z4:=Zb (i:=1) K4;have hlk4:=B9 K4;have HK4:=Zh_ K4;have hnc:=HNC.out;clear HGN m4 M4 X4 D4 hkx hkl hxl hs7 hrow4 K4;generalize w4.setCell ⟨k,2,O⟩ v=w5 at *
   go_upto_region 8 with fail;have K6:(w5.setCell ⟨k,1,O⟩ (U Y ((begun:Int)+1))).heap[k]? =I (X #[L (I ⟨cg,0,O⟩) ncalls cc,U Y ((begun:Int)+1),v,U Y ai] 87 (0,0)):=Zd _ HK4.out;have m6:Ze [k] w5 (w5.setCell ⟨k,1,O⟩ (U Y ((begun:Int)+1))):=(Zr_ _ _).setCell _ _ (.inl (by simp));have X6:=m6.at HX4.out (by simpa using HKX.out);have HM6:=Zh_ m6;have HX6:=Zh_ X6;have HK6:=Zh_ K6;have k6:=Za (i:=3) K6 J;have z6:=Zb (i:=3) K6;have x6:=Za (i:=14) X6 J;have hlk6:=B9 K6;have hlx6:=B9 X6;clear m6 X6 K6 k4 z4 hlk4;generalize w5.setCell ⟨k,1,O⟩ (U Y ((begun:Int)+1))=w6 at *
   go_upto_region 9 with fail;have K7:(w6.setCell ⟨k,3,O⟩ (U Y nd)).heap[k]? =I (X #[L (I ⟨cg,0,O⟩) ncalls cc,U Y ((begun:Int)+1),v,U Y nd] 87 (0,0)):=Zd _ HK6.out;have m7:Ze [k] w5 (w6.setCell ⟨k,3,O⟩ (U Y nd)):=HM6.out.setCell _ _ (.inl (by simp));have X7:=m7.at HX4.out (by simpa using HKX.out);have D7:=m7.at HD4.out (by have:=HS7.out;have:=HKL.out;simp;omega);have R7:(w6.setCell ⟨k,3,O⟩ (U Y nd)).ownsRow 0 50 19 (L av nd cv) nd dl:=Zt HR4.out m7 (by intro g hg;have:=HDK.out;rw [hg] at this;simp at this ⊢;exact this);have HM7:=Zh_ m7;have HG7:=Zh_ (G4.out.mod m7 (by intro j hj;simp at hj;subst hj;rw [HQ0.out];exact HKL.out));have HX7:=Zh_ X7;have HK7:=Zh_ K7;have HD7:=Zh_ D7;have HR7:=Zh_ R7;have x7:=Za (i:=14) X7 J;have zx7:=Zb (i:=14) X7;have hlx7:=B9 X7;have hl7:=B9 D7;clear m7 X7 K7 D7 R7 k6 z6 x6 hlk6 hlx6;generalize w6.setCell ⟨k,3,O⟩ (U Y nd)=w7 at *
   obtain ⟨cs,hcs⟩:∃ cs:Array Value,cs=(Z9 (Xj t begun prog st) {Qm with fr:=ro}).toArray:=⟨_,J⟩;have hcz:cs.size=19:=by rw [hcs];rfl
   have hone:∀ u∈cs.toList,u.oneCell'=true:=by
    rw [hcs];intro u hu;have:=Oc t prog st ro begun;rw [Array.all_eq_true_iff_forall_mem] at this;exact this u (by simpa using hu)
   obtain ⟨i0,z0,hi0,hz0,hz1,hz2,hz3⟩:=info50;obtain ⟨n9,hn9⟩:∃ n,n=w7.heap.size:=⟨_,J⟩;have HCS:=Zh_ hcz;have HCE:=Zh_ hcs;have HONE:=Zh_ hone;have HNE:=Zh_ hn9;have HN9:=Zh_ (show n9<=w7.drew.heap.size from Nat.le_of_eq hn9);have HXW:=Zh_ (show ∀ wx,Ze (L av nd cv).ownBlock.toList w7.drew wx->wx.heap[x]? =I (X #[U Y c0,U Y c1,U Y c2,U Y c3,L (I ⟨pg,0,O⟩) nprogs pc,U Y 0,U Y 1,U Y 2,U Y 3,U Y q4,U Y q5,E (I ⟨a,0,O⟩),E (I ⟨r,0,O⟩),L (I ⟨tg,0,O⟩) ntn tc,L av nd cv,U Y st] 79 (0,0)) from
    λ wx hR=>(((Zr_ _ w7).drew).trans hR).at HX7.out (λ hm=>HDX.out (Option.mem_toList.1 hm)))
   have HDW:=Zh_ (show ∀ wx,Ze (L av nd cv).ownBlock.toList w7.drew wx->wx.heap[n7]? =I (.cells cs 50 (0,0)) from
    λ wx hR=>by rw [HCE.out];exact (((Zr_ _ w7).drew).trans hR).at HD7.out (λ hm=>by have:=Yr HVD.out (Option.mem_toList.1 hm);have:=HS7.out;omega))
   have HGL:=Zh_ (show ∀ g,(L av nd cv).ownBlock=I g->g < n9 from λ g hg=>by rw [hn9];exact Yr HR7.out hg);clear hcs hcz hone hn9 x7 zx7 hlx7 hl7;refine Q3 (by kernel_rfl) 10 (by rfl) (Ze (L av nd cv).ownBlock.toList) (Gi av nd cv) 7 (Ze [] w7.drew) (Od x n9 av cv nd dl cs) (by kernel_rfl) (by rfl) (by kernel_rfl) (beg9F_on x n9 av cv nd dl cs HGL.out) (λ i a b h=>Is h) (λ j a b hj h k=>k.trans (It hj h)) (Zr_ _ _) (λ a=>Zr_ _ _) (λ a b c h k=>h.trans k) (λ i v w' hv o ho hd=>Vi (m:=10) (by kernel_rfl) (Iu x n9 av cv nd dl cs) ho hd) ?_ ?_
   ·intro i o hi ho
    match i,hi with
    |0,_=>
     obtain rfl:=Zo_ ho;intro a wx hR hB hF hO;have f0:a.eval (.tmp 0)=E (I ⟨x,0,O⟩):=hO 0 (by kernel_rfl) (Zm (by kernel_rfl));have e0:=Tv_ f0;clear hF hO hB hR;go_simp;exact ⟨Uy (by decide) (Zr_ _ _),J⟩
    |1,_=>
     obtain rfl:=Zo_ ho;intro a wx hR hB hF hO;have e0:=To_ hO 0 (E (I ⟨x,0,O⟩));clear hF hO hB hR;go_simp;exact ⟨Uy (by decide) (Zr_ _ _),J⟩
    |2,_=>
     obtain rfl:=Zo_ ho;intro a wx hR hB hF hO;have e95:=Tf_ hF 95 1 (E (I ⟨x,0,O⟩));clear hF hO hB hR;go_simp;exact ⟨Uy (by decide) (Zr_ _ _),J⟩
    |3,_=>
     obtain rfl:=Zo_ ho;intro a wx hR hB hF hO;have e96:=Tf_ hF 96 2 (E (I ⟨x,0,O⟩));clear hF hO hB hR;go_simp;exact ⟨Uy (by decide) (Zr_ _ _),J⟩
    |4,_=>
     obtain rfl:=Zo_ ho;intro a wx hR hB hF hO;have e97:=Tf_ hF 97 3 (E (I ⟨x,14,O⟩));have c14:wx.cell? ⟨x,14,O⟩=I (L av nd cv):=Za (HXW.out wx hR) J;clear hF hO hB hR;go_simp;exact ⟨Uy (by decide) (Zr_ _ _),J⟩
    |5,_=>
     obtain rfl:=Zo_ ho;intro a wx hR hB hF hO;have f7:a.eval (.tmp 7)=E (I ⟨n7,0,O⟩):=hO 7 (by kernel_rfl) (Zm (by kernel_rfl));exact Jd 50 _ J n7 f7 50 cs (0,0) _ (HDW.out wx hR) underlying50 J (by rw [HCS.out];kernel_rfl) ⟨Uy (by decide) (Zr_ _ _),J⟩
    |6,_=>
     obtain rfl:=Zo_ ho;intro a wx hR hB hF hO;have f99:a.eval (.tmp 99)=.agg cs:=hF 99 5 _ (by kernel_rfl) J J;exact Qb 38 50 _ J cs f99 i0 z0 underlying38 hi0 hz0 (by rw [hz1,HCS.out]) (by rw [HCS.out];decide) (by rw [HCS.out];decide) ⟨Uy (by decide) ((Zr_ _ _).alloc _),_,J,Zc _ _,Nat.le_trans HN9.out hR.size⟩
    |7,_=>
     obtain rfl:=Zo_ ho;intro a wx hR hB hF hO;have f98:a.eval (.tmp 98)=L av nd cv:=hF 98 4 _ (by kernel_rfl) J J;obtain ⟨B,f100,hB2,hB3⟩:∃ B,a.eval (.tmp 100)=L (I ⟨B,0,O⟩) 1 1/\wx.heap[B]? =I (.cells cs 50 (0,0))/\n9<=B:=hF 100 6 _ (by kernel_rfl) J J;have hnd:=HND.out;refine Y2 (.tmp 98) (.tmp 100) 38 J 0 50 i0 z0 19 216 underlying38 hi0 hz0 hz1 hz2 hz3 (by decide) (L av nd cv) nd dl f98 (Yg HR7.out (((Zr_ [] w7).drew).trans (hB J))) ⟨B,0,O⟩ 1 1 cs.toList f100 (by rw [Array.length_toList,HCS.out]) (World.news_of_block hB2) HONE.out (by unfold maxLen;omega) (by omega) (Nat.zero_le _) ?_;intro v' w' ho hg hat;refine ⟨?_,ho,λ g hv=>?_⟩
     ·unfold Gi;rw [P9 rfl];exact (Zr_ _ wx).grown hg (λ g hg=>.inl (Option.mem_toList.2 hg))
     ·rcases hat with e|e
      ·exact .inl (e.symm.trans hv)
      ·rw [e] at hv;simp at hv;exact .inr (by rw [<-hv];exact Nat.le_trans HN9.out hR.size)
    |8,_=>
     obtain rfl:=Zo_ ho;intro a wx hR hB hF hO;have e94:=Tf_ hF 94 0 (E (I ⟨x,0,O⟩));clear hF hO hB hR;go_simp;exact ⟨Uy (by decide) (Zr_ _ _),J⟩
    |9,_=>
     obtain rfl:=Zo_ ho;intro a wx hR hB hF hO;have e102:=Tf_ hF 102 8 (E (I ⟨x,0,O⟩));clear hF hO hB hR;go_simp;exact ⟨Uy (by decide) (Zr_ _ _),J⟩
    |j+10,hh=>omega
   ·intro vs w8 hR hv;have e103:vs 9=E (I ⟨x,14,O⟩):=hv 9 (by decide);obtain ⟨ho,hat⟩:w8.ownsRow 0 50 19 (vs 7) (nd+1) (dl++cs.toList)/\∀ g,(vs 7).ownBlock=I g->(L av nd cv).ownBlock=I g\/n9<=g:=hv 7 (by decide);obtain ⟨g5,cap5,e7,_⟩:=Ya ho (by omega);rw [e7] at ho hat;have X8:=HXW.out w8 hR;have x8:=Za (i:=14) X8 J;have zx8:=Zb (i:=14) X8;have HX8:=Zh_ X8;have HO:=Zh_ ho;have HAT:=Zh_ hat;have H8:=Zh_ hR;clear hv ho hat hR X8;simp only [Yx,List.take_succ_cons,List.take_zero,Act.put,e7,e103];go_simp;go_wp2_with fail;go_end0;have hw7:w.heap.size<=w7.heap.size:=Nat.le_trans A4.out.size HM7.out.size;have hn9:w.heap.size<=n9:=by rw [HNE.out];exact hw7
    have m8:Ze (L av nd cv).ownBlock.toList w7 w8:=((Zr_ _ w7).drew).trans H8.out;have m9:Ze [x] w8 (w8.setCell ⟨x,14,O⟩ (L (I ⟨g5,0,O⟩) (nd+1) cap5)):=(Zr_ _ _).setCell _ _ (.inl (by simp));have hd0:∀ j,j∈(L av nd cv).ownBlock.toList->j < w.heap.size:=λ j hj=>Yr HVD.out (Option.mem_toList.1 hj);have hkx:=HKX.out;have hxl:=HXL.out;have hkl:=HKL.out;have hg5:∀ j,(L (I ⟨g5,0,O⟩) (nd+1) cap5).ownBlock=I j->(L av nd cv).ownBlock=I j\/w.heap.size<=j:=λ j hj=>(HAT.out j hj).imp id (λ h=>Nat.le_trans hn9 h);refine ⟨J,v,L (I ⟨g5,0,O⟩) (nd+1) cap5,?_,?_,?_,?_,hg5,?_⟩
    ·have g7:=HG7.out;rw [HQ0.out] at g7;exact (g7.mod m8 hd0).mod m9 (by intro j hj;simp at hj;subst hj;exact hxl)
    ·exact m9.at (m8.at HK7.out (λ hm=>HDK.out (Option.mem_toList.1 hm))) (by simpa using Ne.symm hkx)
    ·exact Zd _ HX8.out
    ·have ho:=Zt HO.out m9 (λ j hj hm=>by
      simp at hm;subst hm;rcases hg5 _ hj with e|e
      ·exact HDX.out e
      ·omega)
     rw [HCE.out] at ho;exact ho
    ·have a1:Ze (k :: x :: (L av nd cv).ownBlock.toList) w w7:=(A4.out.trans HM7.out).mono (λ j hj=>.inl (by simp at hj;simp [hj]));refine (a1.trans (m8.mono (λ j hj=>.inl (by simp [List.mem_cons,hj])))).trans (m9.mono (λ j hj=>.inl (by simp at hj;simp [hj])))
end
end Go.Proofs.YtkhonmhnchdpkaaGreat

/- A part of the proof; no condition. -/
import Derived.Test.YtkhonmhnchdpkaaGreatB28
set_option maxRecDepth 100000
set_option maxHeartbeats 40000000
namespace Go.Proofs.YtkhonmhnchdpkaaGreat
open Go.RowKit _root_.Go.Proofs.Tryz
open Go renaming World→W
open Value renaming int→U,pointer→E,slice→L,float→Z,agg→A_
open IntKind renaming i64→Y
open FloatKind renaming f64→V
open Obj renaming cells→X
open Option renaming some→I,none→O
open Ending renaming returned→R_
open _root_.Go.Proofs.Tryz renaming prog→N
open List renaming getD_eq_getElem?_getD→G_
section
def Wo (ops:Array Oper) (n:Nat) (i:Nat) (o:Oper):Bool:=
 o.guard.isNone&&o.after.all (λ e=>!Region.binds .any e || decide (e.on < i))&&(match o.dst with|none=>true|some d=>decide (d < n))&&
 (List.range ops.size).all λ j=>match ops[j]? with
  |none=>true
  |some oj=>match oj.dst with
   |none=>true
   |some d=>(i==j || o.dst !=I d)&&(!(o.looksAt ops).contains d || (Vk o j || Vk oj i))
def Bu (ops:Array Oper) (n:Nat):Bool:=Region.noSelect ops&&(List.range ops.size).all λ i=>match ops[i]? with|none=>true|some o=>Wo ops n i o
section
variable {P:Program} {ops:Array Oper} {n i m:Nat} {o:Oper} {a0:Act} {R:W->W->Prop} {Rj:Nat->W->W->Prop} {p:Nat} {Bp:W->Prop} {wd:W} {F:Nat->Value->W->Prop}
def OpEB (P:Program) (ops:Array Oper) (a0:Act) (R:W->W->Prop) (Rj:Nat->W->W->Prop) (p:Nat) (Bp:W->Prop) (wd:W) (F:Nat->Value->W->Prop) (i:Nat) (o:Oper):Prop:=
 ∀ (a:Act) (wx:W),R wd wx->(i=p->Bp wx)->
  (∀ (t j:Nat) (oj:Oper),(o.looksAt ops).contains t=true->ops[j]? =I oj->oj.dst=I t->Vk o j=true->F j (a.eval (.tmp t)) wx)->
  (∀ (t:Nat),(o.looksAt ops).contains t=true->(∀ (j:Nat) (oj:Oper),ops[j]? =I oj->oj.dst=I t->Vk oj i=true)->a.eval (.tmp t)=a0.eval (.tmp t))->
  J4 P (λ v w'=>Rj i wx w'/\F i v w') ((execOp a.eval o).run P wx)
theorem Fr (h:Bu ops n=true) (hi:ops[i]? =I o):Wo ops n i o=true:=by
 unfold Bu at h;rw [Bool.and_eq_true,List.all_eq_true] at h;have:=h.2 i (by rw [List.mem_range];exact (Array.getElem?_eq_some_iff.1 hi).1);simpa [hi] using this
structure OpFactsB (ops:Array Oper) (n:Nat) (i:Nat) (o:Oper):Prop where
 g:o.guard=O
 back:∀ e∈o.after,Region.binds .any e=true->e.on < i
 dn:∀ d,o.dst=I d->d < n
 wg:∀ (j:Nat) (oj:Oper) (d:Nat),ops[j]? =I oj->oj.dst=I d->i≠j->o.dst≠I d
 look:∀ (j:Nat) (oj:Oper) (d:Nat),ops[j]? =I oj->oj.dst=I d->(o.looksAt ops).contains d=true->Vk o j=true\/Vk oj i=true
theorem Gy (h:Wo ops n i o=true):OpFactsB ops n i o:=by
 unfold Wo at h;simp only [Bool.and_eq_true,Array.all_eq_true,List.all_eq_true,List.mem_range] at h;obtain ⟨⟨⟨h1,h2⟩,h3⟩,h4⟩:=h;refine ⟨by simpa using h1,λ e he hbe=>?_,λ d hd=>?_,λ j oj d hj hd hne=>?_,λ j oj d hj hd hl=>?_⟩
 ·obtain ⟨k,hk,rfl⟩:=Array.mem_iff_getElem.1 he;have:=h2 k hk;rw [hbe] at this;simpa using this
 ·rw [hd] at h3;simpa using h3
 ·have:=h4 j (Array.getElem?_eq_some_iff.1 hj).1;rw [hj] at this;simp only [hd,Bool.and_eq_true,Bool.or_eq_true,beq_iff_eq,bne_iff_ne] at this;exact this.1.resolve_left hne
 ·have:=h4 j (Array.getElem?_eq_some_iff.1 hj).1;rw [hj] at this;simp only [hd,Bool.and_eq_true,Bool.or_eq_true,Bool.not_eq_true'] at this;exact this.2.resolve_left (by rw [hl];decide)
theorem Rg (hreg:Bu ops a0.tmps.size=true) {listed:Array Bool} (hs:listed.size=ops.size) (hr:Region.ready .any ops listed=[]):∀ j,j < ops.size->listed.getD j false=true:=by
 intro j
 induction j using Nat.strongRecOn with
 |_ j ih=>
  intro hj;have hoj:ops[j]? =I ops[j]:=by simp [hj]
  have fi:=Gy (Fr hreg hoj)
  by_cases hl:listed.getD j true=false
  ·exfalso;have:j∈Region.ready .any ops listed:=mem_ready.2 ⟨hl,_,hoj,λ e he hb=>ih e.on (fi.back e he hb) (Nat.lt_trans (fi.back e he hb) hj)⟩;rw [hr] at this;cases this
  ·have:j < listed.size:=by omega
   simp [this] at hl ⊢
   exact hl
theorem L0 {j:Nat} (h:Vk o j=true):∃ e∈o.after,e.on=j/\Region.binds .any e=true:=by
 unfold Vk at h;rw [Array.any_eq_true] at h;obtain ⟨k,hk,h6⟩:=h;simp only [Bool.and_eq_true,beq_iff_eq] at h6;exact ⟨_,Array.getElem_mem hk,h6.1,h6.2⟩
theorem Inv.yd (hreg:Bu ops a0.tmps.size=true) (hF:∀ i j v w w',i≠j->Vj ops ops.size i j=false->F i v w->Rj j w w'->F i v w') (hsub:∀ i a b,Rj i a b->R a b) (htr:∀ a b c,R a b->R b c->R a c) {listed:Array Bool} {a:Act} {wx:W} (h:Inv ops a0 R wd F listed a wx) (hi:ops[i]? =I o) (hl:listed.getD i true=false) (hall:∀ e∈o.after,Region.binds .any e=true->listed.getD e.on false=true) {v:Value} {w':W} (hR':Rj i wx w') (hv:F i v w') (hu:o.dst=O->v=undef\/F i undef w'):
  Inv ops a0 R wd F (listed.setIfInBounds i true) (a.put o.dst v) w':=by
 have hR:=hsub _ _ _ hR';have fi:=Gy (Fr hreg hi);have hlt:i < listed.size:=by rw [h.sz];exact (Array.getElem?_eq_some_iff.1 hi).1
 refine ⟨by simpa using h.sz,htr _ _ _ h.cls hR,by rw [Ke];exact h.og,by rw [Ga];exact h.yb,λ k hk=>?_,λ j oj hj hlj e he hb=>getD_set_true (?_),λ j oj hj hlj=>?_⟩
 ·rw [Q5,Q9 (λ hh=>?_)]
  ·refine h.out k (λ j oj hj hd=>?_);have:=hk j oj hj hd
   by_cases hij:i=j
   ·subst hij;exact hl
   ·simpa [Array.getElem?_setIfInBounds,hij] using this
  ·have:=hk i o hi hh.1;simp [hlt] at this
 ·by_cases hij:i=j
  ·subst hij;rw [hi] at hj;obtain rfl:=Zo_ hj;exact hall e he hb
  ·exact h.oe j oj hj (by simpa [Array.getElem?_setIfInBounds,hij] using hlj) e he hb
 ·by_cases hij:i=j
  ·subst hij;rw [hi] at hj;obtain rfl:=Zo_ hj;cases hd:o.dst with
   |none=>
    rcases hu hd with e|e
    ·rw [<-e];exact hv
    ·exact e
   |some d=>
    show F i ((a.put (I d) v).tmps.getD d undef) w';rw [Q5,P9 ⟨rfl,by rw [h.yb];exact fi.dn d hd⟩];exact hv
  ·have hlj':listed.getD j false=true:=by simpa [Array.getElem?_setIfInBounds,hij] using hlj
   have hw:Vj ops ops.size j i=false:=by
    cases hq:Vj ops ops.size j i with
    |false=>rfl
    |true=>
     have:=J7 h.sz h.oe _ j i hlj' hq;have hlt':i < listed.size:=hlt;simp [hlt'] at this hl;rw [hl] at this;cases this
   have:=h.ub j oj hj hlj';cases hd:oj.dst with
   |none=>rw [hd] at this;exact hF _ _ _ _ _ (Ne.symm hij) hw this hR'
   |some d=>
    rw [hd] at this;show F j ((a.put o.dst v).tmps.getD d undef) w';rw [Q5,Q9 (λ hh=>fi.wg j oj d hj hd hij hh.1)];exact hF _ _ _ _ _ (Ne.symm hij) hw this hR'
theorem Inv.runEB (hreg:Bu ops a0.tmps.size=true) (hF:∀ i j v w w',i≠j->Vj ops ops.size i j=false->F i v w->Rj j w w'->F i v w') (hsub:∀ i a b,Rj i a b->R a b) (htr:∀ a b c,R a b->R b c->R a c) (hB:∀ j a b,j≠p->Rj j a b->Bp a->Bp b) {listed:Array Bool} {a:Act} {wx:W} {Q:Exit->Act->W->Prop} (hops:∀ i o,i < m->ops[i]? =I o->OpEB P ops a0 R Rj p Bp wd F i o) (h:Inv ops a0 R wd F listed a wx) (hb:listed.getD p true=false->Bp wx) (him:i < m) (hr:i∈Region.ready .any ops listed)
  {K:Act->W->Prop} (hK:∀ a' w',Inv ops a0 R wd F (listed.setIfInBounds i true) a' w'->((listed.setIfInBounds i true).getD p true=false->Bp w')->K a' w') (hskip:∀ i v w',F i v w'->∀ o,ops[i]? =I o->o.dst=O->F i undef w'):wpOp P ops Q i K a wx:=by
 obtain ⟨hl,o,hi,hall⟩:=mem_ready.1 hr;have fi:=Gy (Fr hreg hi);unfold wpOp;rw [hi];simp only;rw [P9 (by unfold Region.wanted;rw [fi.g])];left;have hnext:∀ w',Rj i wx w'->(listed.setIfInBounds i true).getD p true=false->Bp w':=by
  intro w' hR hp
  by_cases hip:i=p
  ·subst hip;rw [Bm] at hp;cases hp
  ·rw [getD_set_ne true hip] at hp;exact hB i _ _ hip hR (hb hp)
 have:=hops i o him hi a wx h.cls (λ e=>hb (by rw [<-e];exact hl)) (λ t j oj ht hj hd=>by
  intro hE;obtain ⟨e,he,rfl,hb⟩:=L0 hE;have:=h.ub e.on oj hj (hall e he hb);rw [hd] at this;exact this) (λ t _ hno=>by
  rw [Act.jm,Act.jm];refine h.out t (λ j oj hj hd=>?_);obtain ⟨e,he,hei,hb⟩:=L0 (hno j oj hj hd);cases hlj:listed.getD j true with
  |false=>rfl
  |true=>
   have hjs:j < listed.size:=by rw [h.sz];exact (Array.getElem?_eq_some_iff.1 hj).1
   have his:i < listed.size:=by rw [h.sz];exact (Array.getElem?_eq_some_iff.1 hi).1
   have:=h.oe j oj hj (by simp [hjs] at hlj ⊢;exact hlj) e he hb;rw [hei] at this;simp [his] at this hl;rw [hl] at this;cases this)
 unfold Oper.wp;revert this;generalize (execOp a.eval o).run P wx=r;intro this;cases r with
 |halt x w'=>exact this.elim
 |ok n w'=>
  cases n with
  |value v=>exact hK _ _ (h.yd hreg hF hsub htr hi hl hall this.1 this.2 (λ hd=>.inr (hskip _ _ _ this.2 o hi hd))) (hnext _ this.1)
  |skip=>exact hK _ _ (h.yd hreg hF hsub htr hi hl hall this.1 this.2 (λ _=>.inl J)) (hnext _ this.1)
  |enter f args=>
   refine Calls.mono this (λ e w'' ⟨v,he,hv⟩=>?_);subst he;exact hK _ _ (h.yd hreg hF hsub htr hi hl hall hv.1 hv.2 (λ hd=>.inr (hskip _ _ _ hv.2 o hi hd))) (hnext _ hv.1)
  |_=>exact this.elim
def lateB (ops:Array Oper) (t i:Nat):Bool:=(List.range ops.size).all λ j=>match ops[j]? with|none=>true|some oj=>oj.dst !=I t || Vk oj i
theorem Fu {t:Nat} (h:lateB ops t i=true):∀ (j:Nat) (oj:Oper),ops[j]? =I oj->oj.dst=I t->Vk oj i=true:=by
 intro j oj hj hd;unfold lateB at h;rw [List.all_eq_true] at h;have:=h j (List.mem_range.2 (Array.getElem?_eq_some_iff.1 hj).1);rw [hj] at this;simp only [Bool.or_eq_true,bne_iff_ne] at this;exact this.resolve_left (λ q=>q hd)
theorem Inv.yj (hreg:Bu ops a0.tmps.size=true) (hF:∀ i j v w w',i≠j->Vj ops ops.size i j=false->F i v w->Rj j w w'->F i v w') (hsub:∀ i a b,Rj i a b->R a b) (htr:∀ a b c,R a b->R b c->R a c) (hB:∀ j a b,j≠p->Rj j a b->Bp a->Bp b) {Q:Exit->Act->W->Prop} (hops:∀ i o,i < ops.size->ops[i]? =I o->OpEB P ops a0 R Rj p Bp wd F i o) (hskip:∀ i v w',F i v w'->∀ o,ops[i]? =I o->o.dst=O->F i undef w')
  (hend:∀ a w' listed,Inv ops a0 R wd F listed a w'->(∀ j,j < ops.size->listed.getD j false=true)->Q .normal a w'):∀ (fuel:Nat) (listed:Array Bool) (a:Act) (wx:W),(∀ n,n=(List.range ops.size).countP (λ i=>!listed.getD i true)->n<=fuel)->(listed.getD p true=false->Bp wx)->Inv ops a0 R wd F listed a wx->wpAny P .any ops Q fuel listed a wx
 |0,listed,a,wx,hn,hb,h=>by
  have h0:=hn _ J;have hz:(List.range ops.size).countP (λ i=>!listed.getD i true)=0:=by omega
  rw [List.countP_eq_zero] at hz;have hall:∀ j,j < ops.size->listed.getD j false=true:=by
   intro j hj;have:=hz j (by rw [List.mem_range];exact hj);have hj':j < listed.size:=by rw [h.sz];exact hj
   simp [hj'] at this ⊢
   exact this
  exact ⟨Bx hall h.sz,hend a wx listed h hall⟩
 |fuel+1,listed,a,wx,hn,hb,h=>by
  refine ⟨λ hr=>hend a wx listed h (Rg hreg h.sz hr),λ i hi=>?_⟩;have him:i < ops.size:=(Array.getElem?_eq_some_iff.1 (mem_ready.1 hi).2.choose_spec.1).1;refine h.runEB hreg hF hsub htr hB hops hb him hi (λ a' w' h' hb'=>Inv.yj hreg hF hsub htr hB hops hskip hend fuel _ a' w' ?_ hb' h') hskip;intro n hn';obtain ⟨hl,o,ho,_⟩:=mem_ready.1 hi;have h1:=hn _ J;have:(List.range ops.size).countP (λ j=>!(listed.setIfInBounds i true).getD j true)+1<=(List.range ops.size).countP (λ j=>!listed.getD j true):=by
   have key:∀ l:List Nat,l.Nodup->i∈l->l.countP (λ j=>!(listed.setIfInBounds i true).getD j true)+1<=l.countP (λ j=>!listed.getD j true):=by
    intro l
    induction l with
    |nil=>intro _ hm;cases hm
    |cons x l ih=>
     intro hnd hm;rw [List.nodup_cons] at hnd;rw [List.countP_cons,List.countP_cons];rcases List.mem_cons.1 hm with rfl|hm
     ·have e1:(!(listed.setIfInBounds i true).getD i true)=false:=by
       simp [Array.getElem?_setIfInBounds];split <;> rfl
      have e2:(!listed.getD i true)=true:=by rw [hl];rfl
      rw [e1,e2];have:l.countP (λ j=>!(listed.setIfInBounds i true).getD j true)<=l.countP (λ j=>!listed.getD j true):=by
       refine List.countP_mono_left (λ y hy=>?_);have hne:i≠y:=λ e=>hnd.1 (e ▸ hy);simp [hne]
      rw [Q9 (by decide),P9 rfl];omega
     ·have hne:i≠x:=λ e=>hnd.1 (e ▸ hm);have e1:(!(listed.setIfInBounds i true).getD x true)=!listed.getD x true:=by simp [hne]
      rw [e1];have:=ih hnd.2 hm;omega
   exact key _ List.nodup_range (List.mem_range.2 him)
  omega
end
section
variable {P:Program} {ops:Array Oper} {n i m:Nat} {o:Oper} {a0:Act} {F:Nat->Value->W->Prop}
theorem Pw {id:Nat} {Q:Exit->Act->W->Prop} {w:W} (hm:P.follows .mixedOrders=true) (m:Nat) (R:W->W->Prop) (Rj:Nat->W->W->Prop) (p:Nat) (Bp:W->Prop) (F:Nat->Value->W->Prop)
  (hreg:Bu ops a0.tmps.size=true) (hsz:ops.size=m) (hF:∀ i j v w w',i≠j->Vj ops ops.size i j=false->F i v w->Rj j w w'->F i v w') (hsub:∀ i a b,Rj i a b->R a b) (hB:∀ j a b,j≠p->Rj j a b->Bp a->Bp b) (hB0:Bp w.drew) (hrf:∀ a,R a a) (htr:∀ a b c,R a b->R b c->R a c)
  (hskip:∀ i v w',F i v w'->∀ o,ops[i]? =I o->o.dst=O->F i undef w')
  (hops:∀ i o,i < m->ops[i]? =I o->OpEB P ops a0 R Rj p Bp w.drew F i o)
  (hend:∀ (vs:Nat->Value) w',R w.drew w'->(∀ i,i < m->F i (vs i) w')->Q .normal (Yx a0 vs ops.toList 0) w'):(Code.region id ops true).wp P Q a0 w:=by
 subst hsz;refine wp_region_any hm (Inv.yj hreg hF hsub htr hB hops hskip ?_ ops.size _ a0 _ ?_ (λ _=>hB0) ⟨by simp,hrf _,rfl,rfl,λ _ _=>J,λ j oj hj hl=>?_,λ j oj hj hl=>?_⟩)
 ·intro a w' listed h hall
  let vs:Nat->Value:=λ i=>match (ops[i]?).bind (·.dst) with|none=>undef|some d=>a.tmps.getD d undef
  have e:a=Yx a0 vs ops.toList 0:=by
   have hsz':a.tmps.size=(Yx a0 vs ops.toList 0).tmps.size:=by rw [U3];exact h.yb
   have ht:a.tmps=(Yx a0 vs ops.toList 0).tmps:=by
    refine Array.ext hsz' (λ k hk1 hk2=>?_);have g1:a.tmps.getD k undef=a.tmps[k]:=by simp [hk1]
    have g2:(Yx a0 vs ops.toList 0).tmps.getD k undef=(Yx a0 vs ops.toList 0).tmps[k]:=by simp [hk2]
    rw [<-g1,<-g2]
    by_cases hex:∃ (j:Nat) (oj:Oper),ops[j]? =I oj/\oj.dst=I k
    ·obtain ⟨j,oj,hj,hd⟩:=hex;rw [Gq vs k ops.toList 0 a0 j oj (by simpa using hj) hd (by rw [<-h.yb];exact hk1) (λ j' o' hj' hne hd'=>by
      have hj2:ops[j']? =I o':=by simpa using hj'
      exact (Gy (Fr hreg hj)).wg j' o' k hj2 hd' (Ne.symm hne) hd)]
     show _=(match (ops[0+j]?).bind (·.dst) with|none=>undef|some d=>a.tmps.getD d undef);rw [Nat.zero_add,hj];simp [hd]
    ·rw [U7 vs k ops.toList 0 a0 (λ o ho hd=>by
      obtain ⟨j,hj⟩:=List.getElem?_of_mem ho;exact hex ⟨j,o,by simpa using hj,hd⟩)]
     exact h.out k (λ j oj hj hd=>absurd ⟨j,oj,hj,hd⟩ hex)
   have hd:a.defers=(Yx a0 vs ops.toList 0).defers:=by rw [Vr];exact h.og
   cases a
   cases hp:Yx a0 vs ops.toList 0
   rw [hp] at ht hd;simp only at ht hd;rw [ht,hd]
  rw [e];refine hend vs w' h.cls (λ i hi=>?_);have hoi:ops[i]? =I ops[i]:=by simp [hi]
  have:=h.ub i _ hoi (hall i hi);show F i (match (ops[i]?).bind (·.dst) with|none=>undef|some d=>a.tmps.getD d undef) w';rw [hoi];simp only [Option.bind_some];cases hd:ops[i].dst with
  |none=>rw [hd] at this;exact this
  |some d=>rw [hd] at this;exact this
 ·intro k hk;rw [hk];refine Nat.le_trans List.countP_le_length (by simp)
 ·have hlt:=(Array.getElem?_eq_some_iff.1 hj).1;simp [hlt] at hl
 ·have hlt:=(Array.getElem?_eq_some_iff.1 hj).1;simp [hlt] at hl
end
end
section
attribute [local go_sem] Zi
variable {w w':W}
def Mj (n0:Nat) (l:List Xg) (v:Value) (w:W):Prop:=∃ B,v=L (I ⟨B,0,O⟩) l.length l.length/\w.heap[B]? =I (.cells (Yl l).toArray 106 (0,0))/\n0<=B
theorem Mj.mod {n0:Nat} {l:List Xg} {v:Value} (h:Mj n0 l v w) (m:Ze [] w w'):Mj n0 l v w':=by
 obtain ⟨B,h1,h2,h3⟩:=h;exact ⟨B,h1,m.at h2 (by simp),h3⟩
def Ch (n0 _:Nat):Nat->Value->W->Prop
 |0,v,_=>v=.func (.func 36) #[] #[]
 |1,v,_=>v=A_ #[U Y 6,U Y 0,Z V 0]
 |2,v,_=>v=A_ #[U Y 16,U Y 0,Z V 0]
 |3,v,_=>v=.func (.func 36) #[] #[]
 |4,v,_=>v=A_ #[U Y 6,U Y 2,Z V 0]
 |5,v,_=>v=.func (.func 37) #[] #[]
 |6,v,_=>v=A_ #[U Y 10,U Y 8,Z V 0]
 |7,v,_=>v=A_ #[U Y 12,U Y 18,Z V 0]
 |8,v,_=>v=.func (.func 36) #[] #[]
 |9,v,_=>v=A_ #[U Y 6,U Y 0,Z V 0]
 |10,v,_=>v=A_ #[U Y 16,U Y 0,Z V 0]
 |11,v,_=>v=.func (.func 36) #[] #[]
 |12,v,_=>v=A_ #[U Y 6,U Y 2,Z V 0]
 |13,v,_=>v=.func (.func 37) #[] #[]
 |14,v,_=>v=A_ #[U Y 10,U Y 2,Z V 0]
 |15,v,_=>v=.func (.func 36) #[] #[]
 |16,v,_=>v=A_ #[U Y 6,U Y 0,Z V 0]
 |17,v,_=>v=A_ #[U Y 17,U Y 0,Z V 0]
 |18,v,_=>v=.func (.func 36) #[] #[]
 |19,v,_=>v=A_ #[U Y 6,U Y 1,Z V 0]
 |20,v,_=>v=A_ #[U Y 16,U Y 0,Z V 0]
 |21,v,_=>v=.func (.func 36) #[] #[]
 |22,v,_=>v=A_ #[U Y 6,U Y 2,Z V 0]
 |23,v,_=>v=.func (.func 37) #[] #[]
 |24,v,_=>v=A_ #[U Y 10,U Y 1,Z V 0]
 |25,v,_=>v=.func (.func 36) #[] #[]
 |26,v,_=>v=A_ #[U Y 6,U Y 1,Z V 0]
 |27,v,_=>v=A_ #[U Y 17,U Y 0,Z V 0]
 |28,v,_=>v=A_ #[U Y 20,U Y 0,Z V 0]
 |29,v,_=>v=A_ #[U Y 19,U Y 7,Z V 0]
 |30,v,w=>Mj n0 Jb v w
 |31,v,w=>Mj n0 Jb v w
 |_,_,_=>True
theorem I0 (n0 rb:Nat) (i:Nat) (v:Value) (w w':W) (h:Ch n0 rb i v w) (m:Ze [] w w'):Ch n0 rb i v w':=by
 match i,h with
 |0,h=>exact h
 |1,h=>exact h
 |2,h=>exact h
 |3,h=>exact h
 |4,h=>exact h
 |5,h=>exact h
 |6,h=>exact h
 |7,h=>exact h
 |8,h=>exact h
 |9,h=>exact h
 |10,h=>exact h
 |11,h=>exact h
 |12,h=>exact h
 |13,h=>exact h
 |14,h=>exact h
 |15,h=>exact h
 |16,h=>exact h
 |17,h=>exact h
 |18,h=>exact h
 |19,h=>exact h
 |20,h=>exact h
 |21,h=>exact h
 |22,h=>exact h
 |23,h=>exact h
 |24,h=>exact h
 |25,h=>exact h
 |26,h=>exact h
 |27,h=>exact h
 |28,h=>exact h
 |29,h=>exact h
 |30,h=>exact h.mod m
 |31,h=>exact h.mod m
 |i+32,h=>trivial
theorem Ak (n0 rb:Nat) (i:Nat) (h:32<=i) (v:Value) (w:W):Ch n0 rb i v w:=by
 match i,h with
 |j+32,_=>trivial
def BankP (w:W) (n:Nat) (e:Ending) (w':W):Prop:=∃ vs vp z,e=R_ (A_ #[U Y n,U Y 4,U Y 60,U Y 2,vs,vp,L (I ⟨z,0,O⟩) 4 4])/\
 Ze [] w w'/\w.heap.size<=z/\w'.heap[z]? =I (X #[L O 0 0,L O 0 0,L O 0 0,L O 0 0] 61 (0,0))/\
 ∀ wy,Ze [z] w' wy->FX wy vs (List.replicate n (fl 100))/\Mh wy vp (Gj n)
theorem ext_own {b z n:Nat} {ty:TypeId} {v:Value} {xs:List Value} (h:w.ownsRow b ty z v n xs):Bg w z v n xs:=by
 refine ⟨h.1,?_⟩;rcases Nat.eq_zero_or_pos n with h0|h0
 ·rcases h.2 with ⟨e,h1⟩|⟨g,cap,cur,e,_,hb,_,_,_,_⟩
  ·exact .inl ⟨e,h0⟩
  ·refine .inr ⟨⟨g,0,O⟩,cap,e,λ j u hu=>?_⟩;have:=(List.getElem?_eq_some_iff.1 hu).1;rw [h.1,h0] at this;omega
 ·obtain ⟨g,cap,e,_⟩:=Ya h h0;subst e;refine .inr ⟨⟨g,0,O⟩,cap,J,λ j u hu=>⟨(h.lt g J).2,?_⟩⟩;have hj:=(List.getElem?_eq_some_iff.1 hu).1;rw [h.1] at hj;have e:(⟨g,0,O⟩:Addr).add j=⟨g,j,O⟩:=by have:=Uz g 0 j;rw [Nat.zero_add] at this;exact this
  rw [e,h.cellAt j hj,hu]
theorem fx_own {b:Nat} {v:Value} {xs:List Nat} (h:w.ownsRow b 51 1 v xs.length (xs.map (Z V))):FX w v xs:=by
 obtain ⟨a,c,rfl⟩:=Zo h;refine ⟨a,c,J,λ i hi=>?_⟩;obtain ⟨g,cap,e,_⟩:=Ya h (by omega);simp only [Value.slice.injEq,true_and] at e;obtain ⟨rfl,rfl⟩:=e;refine ⟨g,0,J,(h.lt g J).2,?_⟩;rw [Nat.zero_add,h.cellAt i (by omega),List.getElem?_map,List.getElem?_eq_getElem hi,G_,List.getElem?_eq_getElem hi];rfl
theorem progs_of {pb B k c b:Nat} {ca:Option Addr} (PB:w.heap[pb]? =I (X #[U Y 2,L (I ⟨B,0,O⟩) 19 19,U Y 1,L ca (Kr k).length c] 110 (0,0)))
  (BM:w.heap[B]? =I (.cells (Yl Jb).toArray 106 (0,0))) (row:w.ownsRow b 106 3 (L ca (Kr k).length c) (Kr k).length (Yl (Kr k))):Mh w (L (I ⟨pb,0,O⟩) 2 2) (Gj k):=by
 refine ⟨_,2,J,λ j hj=>?_⟩;have hj:j < 2:=hj;rcases (show j=0\/j=1 by omega) with rfl|rfl
 ·refine ⟨pb,0,_,J,B9 PB,Za (i:=0) PB J,Za (i:=1) PB J,Th _,.inr ⟨⟨B,0,O⟩,19,J,λ j u hu=>⟨B9 BM,?_⟩⟩⟩;have e:(⟨B,0,O⟩:Addr).add j=⟨B,j,O⟩:=by have:=Uz B 0 j;rw [Nat.zero_add] at this;exact this
  rw [e];exact Za BM (by rw [<-hu];simp;rfl)
 ·exact ⟨pb,0,_,J,B9 PB,Za (i:=2) PB J,Za (i:=3) PB J,ext_own row⟩
theorem fl100:fl 100=4636737291354636288:=by decide+kernel
theorem Jf {B:Nat} {ty:TypeId} {f:Nat×Nat} {l:List Value} (h:w.heap[B]? =I (.cells l.toArray ty f)):∀ (j:Nat) (u:Value),l[j]? =I u->w.cell? ((⟨B,0,O⟩:Addr).add j)=I u:=by
 intro j u hj;have e:(⟨B,0,O⟩:Addr).add j=⟨B,j,O⟩:=by have:=Uz B 0 j;rw [Nat.zero_add] at this;exact this
 rw [e];exact Za h (by simpa using hj)
def Cv (k:Nat):List Xg:=⟨1,0,fl 0⟩ :: (List.range k).flatMap (λ i=>[⟨1,0,fl i⟩,⟨16,0,0⟩,⟨10,1,0⟩])
theorem Ti (a b:List Xg):Yl (a++b)=Yl a++Yl b:=by unfold Yl;rw [List.flatMap_append]
theorem Mu (k:Nat):Cv (k+1)=Cv k++[⟨1,0,fl k⟩,⟨16,0,0⟩,⟨10,1,0⟩]:=by unfold Cv;rw [List.range_succ,List.flatMap_append];rfl
theorem sumK_len (k:Nat):(Cv k).length=1+3 * k:=by
 induction k with
 |zero=>rfl
 |succ k ih=>rw [Mu,List.length_append,ih];simp;omega
theorem sumP_K (n:Nat):Kr n=Cv n++[⟨18,0,0⟩,⟨20,0,0⟩]:=J
theorem Xk {b:Nat} {t:TypeId} {n z:Nat} {xs:List Value} {S:List Nat} {v:Value} (h:w.ownsRow b t z v n xs) (m:Ze S w w') (hu:∀ g,v.ownBlock=I g->g∉S):w'.ownsRow b t z v n xs:=by
 refine ⟨h.1,?_⟩;rcases h.2 with hn|⟨g,cap,cur,rfl,hb,hgg,rest⟩
 ·exact .inl hn
 ·exact .inr ⟨g,cap,cur,J,hb,m.at hgg (hu g J),rest⟩
def Dq (n2 n9 k:Nat) (av:Option Addr) (cv nd:Nat) (dl:List Value):Nat->Value->W->Prop
 |0,v,_=>v=L av nd cv
 |1,v,_=>v=.func (.func 35) #[] #[]
 |2,v,_=>v=U Y k
 |3,v,_=>v=A_ #[U Y 1,U Y 0,Z V (fl k)]
 |4,v,_=>v=A_ #[U Y 16,U Y 0,Z V 0]
 |5,v,_=>v=.func (.func 37) #[] #[]
 |6,v,_=>v=A_ #[U Y 10,U Y 1,Z V 0]
 |7,v,w=>∃ B,v=L (I ⟨B,0,O⟩) 3 3/\w.heap[B]? =I (.cells ([U Y 1,U Y 0,Z V (fl k),U Y 16,U Y 0,Z V 0,U Y 10,U Y 1,Z V 0]:List Value).toArray 106 (0,0))/\n9<=B
 |8,v,w=>w.ownsRow n2 106 3 v (nd+3) (dl++[U Y 1,U Y 0,Z V (fl k),U Y 16,U Y 0,Z V 0,U Y 10,U Y 1,Z V 0])
 |9,v,w=>w.ownsRow n2 106 3 v (nd+3) (dl++[U Y 1,U Y 0,Z V (fl k),U Y 16,U Y 0,Z V 0,U Y 10,U Y 1,Z V 0])
 |_,_,_=>True
theorem An (n2 n9 k:Nat) (av:Option Addr) (cv nd:Nat) (dl:List Value) (hg:∀ g∈(L av nd cv).ownBlock.toList,g < n9) (i j:Nat) (v:Value) (w w':W) (hij:i≠j) (hd:¬ (j=8/\i=9)) (h:Dq n2 n9 k av cv nd dl i v w) (m:Kf (L av nd cv).ownBlock.toList 8 j w w'):Dq n2 n9 k av cv nd dl i v w':=by
 match i,hij,hd,h with
 |0,_,_,h=>exact h
 |1,_,_,h=>exact h
 |2,_,_,h=>exact h
 |3,_,_,h=>exact h
 |4,_,_,h=>exact h
 |5,_,_,h=>exact h
 |6,_,_,h=>exact h
 |7,_,_,⟨B,h1,h2,h3⟩=>exact ⟨B,h1,(Xn m).at h2 (λ hm=>by have:=hg _ hm;omega),h3⟩
 |8,hij,_,h=>exact Xk h (Xr (by omega) m) (by simp)
 |9,hij,hd,h=>exact Xk h (Xr (by omega) m) (by simp)
 |i+10,_,_,h=>trivial
theorem Re (n2 n9 k:Nat) (av:Option Addr) (cv nd:Nat) (dl:List Value) (i:Nat) (h:10<=i) (v:Value) (w:W):Dq n2 n9 k av cv nd dl i v w:=by
 match i,h with
 |j+10,_=>trivial
theorem mk26 (w:W):(Instr.makeSlice 26 (U Y 4) (U Y 4)).run N w=.ok (L (I ⟨w.heap.size,0,O⟩) 4 4) (w.alloc (X #[L O 0 0,L O 0 0,L O 0 0,L O 0 0] 61)):=by kernel_rfl
theorem bank_c {n:Nat} (n2:2<=n) (xq:n<=10):Calls N 16 #[U Y n,U Y 4] w (BankP w n):=by
 have hmk:=mk26;go_enter func16,ntmps16;go_upto_region 5 with fail;generalize hw:(w.alloc _).alloc _=w1;obtain ⟨n0,hn0⟩:∃ n,n=w.heap.size:=⟨_,J⟩;have B0:w1.heap[n0]? =I (X #[U Y 0,U Y 0,U Y 0,U Y 0,L O 0 0,L O 0 0,L O 0 0] 28 (0,0)):=by rw [<-hw,hn0];exact Zf _ (Zc _ _)
 have B1:w1.heap[n0+1]? =I (X #[U Y 16,U Y 0,Z V 0] 106 (0,0)):=by
  rw [<-hw,hn0];have:=Zc (w.alloc (X #[U Y 0,U Y 0,U Y 0,U Y 0,L O 0 0,L O 0 0,L O 0 0] 28)) (X #[U Y 16,U Y 0,Z V 0] 106);rw [World.size_alloc] at this;exact this
 have M1:Ze [] w w1:=by rw [<-hw];exact ((Zr_ _ _).alloc _).alloc _
 have hs1:n0<=w1.drew.heap.size:=by have:=B9 B0;show n0<=w1.heap.size;omega
 rw [<-hn0];have HN0:=Zh_ hn0;obtain ⟨rb,hrb⟩:∃ z,z=n0+1:=⟨_,J⟩;rw [<-hrb] at B1 ⊢
 have HRB:=Zh_ hrb;have HN:=Zh_ hs1;have HB0:=Zh_ B0;have HB1:=Zh_ B1;have HM1:=Zh_ M1;have HR:=Zh_ (show ∀ wx,Ze [] w1.drew wx->wx.cell? ⟨rb,0,O⟩=I (U Y 16)/\wx.cell? ⟨rb,1,O⟩=I (U Y 0)/\wx.cell? ⟨rb,2,O⟩=I (Z V 0) from
  λ wx m=>by
   have b:=(((Zr_ _ w1).drew).trans m).at HB1.out (by simp);exact ⟨Za b J,Za b J,Za b J⟩)
 clear hw hn0 B0 B1 M1 hs1 hrb;refine Jr (by kernel_rfl) 32 (λ x y=>Ze [] x y) (Ch n0 rb) (by kernel_rfl) (by rfl) (I0 n0 rb) (λ a=>Zr_ _ _) (λ a b c h k=>h.trans k) (λ i v w' hv o ho hd=>Vi (m:=32) (by kernel_rfl) (Ak n0 rb) ho hd) ?_ ?_
 ·intro i o hi ho
  match i,hi with
  |0,_=>obtain rfl:=Zo_ ho;intro a wx hR hF hO;have e7:=To_ hO 7 (.func (.func 36) #[] #[]);clear hF hO;go_simp;exact ⟨Zr_ _ _,J⟩
  |1,_=>obtain rfl:=Zo_ ho;intro a wx hR hF hO;have e15:=Tf_ hF 15 0 (.func (.func 36) #[] #[]);clear hF hO;go_simp;refine Calls.mono (Ps 0 wx) ?_;rintro e w' ⟨rfl,M⟩;exact ⟨_,J,M,J⟩
  |2,_=>obtain rfl:=Zo_ ho;intro a wx hR hF hO;have e6:=To_ hO 6 (E (I ⟨rb,0,O⟩));clear hF hO;obtain ⟨c0,c1,c2⟩:=HR.out wx hR;go_simp;exact ⟨Zr_ _ _,J⟩
  |3,_=>obtain rfl:=Zo_ ho;intro a wx hR hF hO;have e7:=To_ hO 7 (.func (.func 36) #[] #[]);clear hF hO;go_simp;exact ⟨Zr_ _ _,J⟩
  |4,_=>obtain rfl:=Zo_ ho;intro a wx hR hF hO;have e18:=Tf_ hF 18 3 (.func (.func 36) #[] #[]);clear hF hO;go_simp;refine Calls.mono (Ps 2 wx) ?_;rintro e w' ⟨rfl,M⟩;exact ⟨_,J,M,J⟩
  |5,_=>obtain rfl:=Zo_ ho;intro a wx hR hF hO;have e8:=To_ hO 8 (.func (.func 37) #[] #[]);clear hF hO;go_simp;exact ⟨Zr_ _ _,J⟩
  |6,_=>obtain rfl:=Zo_ ho;intro a wx hR hF hO;have e20:=Tf_ hF 20 5 (.func (.func 37) #[] #[]);clear hF hO;go_simp;refine Calls.mono (Da 8 wx) ?_;rintro e w' ⟨rfl,M⟩;exact ⟨_,J,M,J⟩
  |7,_=>obtain rfl:=Zo_ ho;intro a wx hR hF hO;clear hF hO;go_simp;exact ⟨Zr_ _ _,J⟩
  |8,_=>obtain rfl:=Zo_ ho;intro a wx hR hF hO;have e7:=To_ hO 7 (.func (.func 36) #[] #[]);clear hF hO;go_simp;exact ⟨Zr_ _ _,J⟩
  |9,_=>obtain rfl:=Zo_ ho;intro a wx hR hF hO;have e23:=Tf_ hF 23 8 (.func (.func 36) #[] #[]);clear hF hO;go_simp;refine Calls.mono (Ps 0 wx) ?_;rintro e w' ⟨rfl,M⟩;exact ⟨_,J,M,J⟩
  |10,_=>obtain rfl:=Zo_ ho;intro a wx hR hF hO;have e6:=To_ hO 6 (E (I ⟨rb,0,O⟩));clear hF hO;obtain ⟨c0,c1,c2⟩:=HR.out wx hR;go_simp;exact ⟨Zr_ _ _,J⟩
  |11,_=>obtain rfl:=Zo_ ho;intro a wx hR hF hO;have e7:=To_ hO 7 (.func (.func 36) #[] #[]);clear hF hO;go_simp;exact ⟨Zr_ _ _,J⟩
  |12,_=>obtain rfl:=Zo_ ho;intro a wx hR hF hO;have e26:=Tf_ hF 26 11 (.func (.func 36) #[] #[]);clear hF hO;go_simp;refine Calls.mono (Ps 2 wx) ?_;rintro e w' ⟨rfl,M⟩;exact ⟨_,J,M,J⟩
  |13,_=>obtain rfl:=Zo_ ho;intro a wx hR hF hO;have e8:=To_ hO 8 (.func (.func 37) #[] #[]);clear hF hO;go_simp;exact ⟨Zr_ _ _,J⟩
  |14,_=>obtain rfl:=Zo_ ho;intro a wx hR hF hO;have e28:=Tf_ hF 28 13 (.func (.func 37) #[] #[]);clear hF hO;go_simp;refine Calls.mono (Da 2 wx) ?_;rintro e w' ⟨rfl,M⟩;exact ⟨_,J,M,J⟩
  |15,_=>obtain rfl:=Zo_ ho;intro a wx hR hF hO;have e7:=To_ hO 7 (.func (.func 36) #[] #[]);clear hF hO;go_simp;exact ⟨Zr_ _ _,J⟩
  |16,_=>obtain rfl:=Zo_ ho;intro a wx hR hF hO;have e30:=Tf_ hF 30 15 (.func (.func 36) #[] #[]);clear hF hO;go_simp;refine Calls.mono (Ps 0 wx) ?_;rintro e w' ⟨rfl,M⟩;exact ⟨_,J,M,J⟩
  |17,_=>obtain rfl:=Zo_ ho;intro a wx hR hF hO;clear hF hO;go_simp;exact ⟨Zr_ _ _,J⟩
  |18,_=>obtain rfl:=Zo_ ho;intro a wx hR hF hO;have e7:=To_ hO 7 (.func (.func 36) #[] #[]);clear hF hO;go_simp;exact ⟨Zr_ _ _,J⟩
  |19,_=>obtain rfl:=Zo_ ho;intro a wx hR hF hO;have e33:=Tf_ hF 33 18 (.func (.func 36) #[] #[]);clear hF hO;go_simp;refine Calls.mono (Ps 1 wx) ?_;rintro e w' ⟨rfl,M⟩;exact ⟨_,J,M,J⟩
  |20,_=>obtain rfl:=Zo_ ho;intro a wx hR hF hO;have e6:=To_ hO 6 (E (I ⟨rb,0,O⟩));clear hF hO;obtain ⟨c0,c1,c2⟩:=HR.out wx hR;go_simp;exact ⟨Zr_ _ _,J⟩
  |21,_=>obtain rfl:=Zo_ ho;intro a wx hR hF hO;have e7:=To_ hO 7 (.func (.func 36) #[] #[]);clear hF hO;go_simp;exact ⟨Zr_ _ _,J⟩
  |22,_=>obtain rfl:=Zo_ ho;intro a wx hR hF hO;have e36:=Tf_ hF 36 21 (.func (.func 36) #[] #[]);clear hF hO;go_simp;refine Calls.mono (Ps 2 wx) ?_;rintro e w' ⟨rfl,M⟩;exact ⟨_,J,M,J⟩
  |23,_=>obtain rfl:=Zo_ ho;intro a wx hR hF hO;have e8:=To_ hO 8 (.func (.func 37) #[] #[]);clear hF hO;go_simp;exact ⟨Zr_ _ _,J⟩
  |24,_=>obtain rfl:=Zo_ ho;intro a wx hR hF hO;have e38:=Tf_ hF 38 23 (.func (.func 37) #[] #[]);clear hF hO;go_simp;refine Calls.mono (Da 1 wx) ?_;rintro e w' ⟨rfl,M⟩;exact ⟨_,J,M,J⟩
  |25,_=>obtain rfl:=Zo_ ho;intro a wx hR hF hO;have e7:=To_ hO 7 (.func (.func 36) #[] #[]);clear hF hO;go_simp;exact ⟨Zr_ _ _,J⟩
  |26,_=>obtain rfl:=Zo_ ho;intro a wx hR hF hO;have e40:=Tf_ hF 40 25 (.func (.func 36) #[] #[]);clear hF hO;go_simp;refine Calls.mono (Ps 1 wx) ?_;rintro e w' ⟨rfl,M⟩;exact ⟨_,J,M,J⟩
  |27,_=>obtain rfl:=Zo_ ho;intro a wx hR hF hO;clear hF hO;go_simp;exact ⟨Zr_ _ _,J⟩
  |28,_=>obtain rfl:=Zo_ ho;intro a wx hR hF hO;clear hF hO;go_simp;exact ⟨Zr_ _ _,J⟩
  |29,_=>obtain rfl:=Zo_ ho;intro a wx hR hF hO;clear hF hO;go_simp;exact ⟨Zr_ _ _,J⟩
  |30,_=>obtain rfl:=Zo_ ho;intro a wx hR hF hO;have e16:=Tf_ hF 16 1 (A_ #[U Y 6,U Y 0,Z V 0]);have e17:=Tf_ hF 17 2 (A_ #[U Y 16,U Y 0,Z V 0]);have e19:=Tf_ hF 19 4 (A_ #[U Y 6,U Y 2,Z V 0]);have e21:=Tf_ hF 21 6 (A_ #[U Y 10,U Y 8,Z V 0]);have e22:=Tf_ hF 22 7 (A_ #[U Y 12,U Y 18,Z V 0]);have e24:=Tf_ hF 24 9 (A_ #[U Y 6,U Y 0,Z V 0]);have e25:=Tf_ hF 25 10 (A_ #[U Y 16,U Y 0,Z V 0]);have e27:=Tf_ hF 27 12 (A_ #[U Y 6,U Y 2,Z V 0]);have e29:=Tf_ hF 29 14 (A_ #[U Y 10,U Y 2,Z V 0]);have e31:=Tf_ hF 31 16 (A_ #[U Y 6,U Y 0,Z V 0]);have e32:=Tf_ hF 32 17 (A_ #[U Y 17,U Y 0,Z V 0]);have e34:=Tf_ hF 34 19 (A_ #[U Y 6,U Y 1,Z V 0]);have e35:=Tf_ hF 35 20 (A_ #[U Y 16,U Y 0,Z V 0]);have e37:=Tf_ hF 37 22 (A_ #[U Y 6,U Y 2,Z V 0]);have e39:=Tf_ hF 39 24 (A_ #[U Y 10,U Y 1,Z V 0]);have e41:=Tf_ hF 41 26 (A_ #[U Y 6,U Y 1,Z V 0]);have e42:=Tf_ hF 42 27 (A_ #[U Y 17,U Y 0,Z V 0]);have e43:=Tf_ hF 43 28 (A_ #[U Y 20,U Y 0,Z V 0]);have e44:=Tf_ hF 44 29 (A_ #[U Y 19,U Y 7,Z V 0]);clear hF hO;go_simp;exact ⟨(Zr_ _ _).alloc _,_,J,Zc _ _,Nat.le_trans HN.out hR.size⟩
  |31,_=>obtain rfl:=Zo_ ho;intro a wx hR hF hO;have e45:Mj n0 Jb (a.eval (.tmp 45)) wx:=hF 45 30 _ (by kernel_rfl) J J;clear hF hO;obtain ⟨B,q45,hrest⟩:=e45;replace q45:a.tmps[45]?.getD undef=_:=(show a.tmps[45]?.getD undef=a.eval (.tmp 45) by simp [Act.eval]).trans q45;have HG:=Zh_ hrest;clear hrest;go_simp;exact ⟨Zr_ _ _,B,J,HG.out⟩
  |j+32,hh=>omega
 ·intro vs w2 hR hv;obtain ⟨B,eB,hB,hge⟩:Mj n0 Jb (vs 31) w2:=hv 31 (by decide);have M2:=Zh_ (((HM1.out).drew).trans hR);have HB02:=Zh_ ((((Zr_ _ w1).drew).trans hR).at HB0.out (by simp));have HB12:=Zh_ ((((Zr_ _ w1).drew).trans hR).at HB1.out (by simp));have HBM:=Zh_ hB;have HBN:=Zh_ (show n0≠B from λ e=>by have h1:=HB02.out;rw [e,hB] at h1;simp at h1);clear hv hR hB hge HM1 HB0 HB1 HR HN;simp only [Yx,Act.put,eB];clear eB;go_simp;go_wp2_with fail;refine (push_c 0 _).mono ?_;rintro e w3 ⟨rfl,m3⟩;have M3:=Zh_ m3;clear m3;obtain ⟨i0,hi0,hz0,hz1,hz2⟩:=info_parts T7;obtain ⟨n3,hn3⟩:∃ z,z=w2.heap.size:=⟨_,J⟩;have HN3:=Zh_ hn3;clear hn3;go_wp2_with (at_builtin;refine wpList_append_own_at _ J _ _ 108 J n3 106 i0 (A_ #[U Y 0,U Y 0,Z V 0]) 3 24 underlying108 hi0 hz0 hz1 hz2 J (by decide) (L O 0 0) 0 [] J (World.ownsRow_nil _ _ _ _) ⟨w3.heap.size,0,O⟩ 1 1 [U Y 1,U Y 0,Z V (floatOfInt .f64 0)] J J ?CA ?CB ?CC ?CD ?CE ?_)
  case CA=>exact Jf (Zc w3 (X #[U Y 1,U Y 0,Z V (floatOfInt .f64 0)] 106))
  case CB=>intro u hu;simp at hu;rcases hu with rfl|rfl|rfl <;> rfl
  case CC=>unfold maxLen;omega
  case CD=>omega
  case CE=>rw [HN3.out,World.size_alloc];have:=M3.out.size;omega
  intro u' w5 ho5 hg5 _ _;have M5:=Zh_ ((M3.out.alloc _).grown hg5 (λ g hg=>by simp [Value.ownBlock] at hg));have HO5:=Zh_ ho5;clear ho5 hg5 M3;go_wp2_with fail
  go_loopw [10,11] (λ a i wx=>∃ k:Nat,k<=n/\i=U Y k/\wx.ownsRow n3 106 3 a (1+3 * k) (Yl (Cv k))/\Ze [] w2 wx) (λ _ i _=>n - (intOf i).toNat)
  case atStart=>exact ⟨0,by omega,rfl,HO5.out,M5.out⟩
  case round=>
   obtain ⟨k,hk,rfl,hown,m⟩:=hrel;obtain ⟨av,cv,rfl⟩:=Zo hown;obtain ⟨nd,hnd⟩:∃ z,z=1+3 * k:=⟨_,J⟩;obtain ⟨dl,hdl⟩:∃ z,z=Yl (Cv k):=⟨_,J⟩;rw [<-hnd,<-hdl] at hown;rw [<-hnd];have HOW:=Zh_ hown;have HDL:=Zh_ hdl;have HND':=Zh_ hnd;have HM:=Zh_ m;have hge:=λ g hg=>hown.lt g hg
   by_cases hlt:k < n
   ·have d4:decide ((k:Int) < (n:Int))=true:=decide_eq_true (by omega);have HND:=Zh_ (show nd<=31 by omega);have HGE:=Zh_ hge;clear hnd hdl m hown hge HO5 M5;go_upto_region 11 with fail;generalize hw7:wr=w7 at *
    obtain ⟨n9,hn9⟩:∃ z,z=w7.heap.size:=⟨_,J⟩;have HN9:=Zh_ (show n9<=w7.drew.heap.size from Nat.le_of_eq hn9);have HN2:=Zh_ (show n3<=n9 by rw [hn9,HN3.out];exact HM.out.size);have HGL:=Zh_ (show ∀ g∈(L av nd cv).ownBlock.toList,g < n9 from λ g hg=>by rw [hn9];exact (HGE.out g (Option.mem_toList.1 hg)).2);have HR:=Zh_ (show ∀ wx,Ze (L av nd cv).ownBlock.toList w7.drew wx->wx.cell? ⟨rb,0,O⟩=I (U Y 16)/\wx.cell? ⟨rb,1,O⟩=I (U Y 0)/\wx.cell? ⟨rb,2,O⟩=I (Z V 0) from
     λ wx m=>by
      have b7:=(HM.out.drew).at HB12.out (by simp);have b:=m.at b7 (λ hm=>by have h1:=(HGE.out rb (Option.mem_toList.1 hm)).1;have h2:=B9 HB12.out;have h3:=HN3.out;omega);exact ⟨Za b J,Za b J,Za b J⟩)
    clear hn9 hw7;refine Pw (by kernel_rfl) 10 (Ze (L av nd cv).ownBlock.toList) (Kf (L av nd cv).ownBlock.toList 8) 8 (Ze [] w7.drew) (Dq n3 n9 k av cv nd dl) (by kernel_rfl) (by rfl) (λ i j v w w' hij hw=>An n3 n9 k av cv nd dl HGL.out i j v w w' hij (by rintro ⟨rfl,rfl⟩;exact Bool.false_ne_true (hw.symm.trans (by kernel_rfl)))) (λ i a b h=>Xn h) (λ j a b hj h k=>k.trans (Xr hj h)) (Zr_ _ _) (λ a=>Zr_ _ _) (λ a b c h k=>h.trans k) (λ i v w' hv o ho hd=>Vi (m:=10) (by kernel_rfl) (Re n3 n9 k av cv nd dl) ho hd) ?_ ?_
    ·intro i o hi ho
     match i,hi with
     |0,_=>
      obtain rfl:=Zo_ ho;intro a wx hR hB hF hO;have f10:a.eval (.tmp 10)=L av nd cv:=hO 10 (by kernel_rfl) (Fu (by kernel_rfl));have e10:=Tv_ f10;clear hF hO hB hR;go_simp;exact ⟨Zx (by decide) (Zr_ _ _),J⟩
     |1,_=>
      obtain rfl:=Zo_ ho;intro a wx hR hB hF hO;have f5:a.eval (.tmp 5)=.func (.func 35) #[] #[]:=hO 5 (by kernel_rfl) (Fu (by kernel_rfl));have e5:=Tv_ f5;clear hF hO hB hR;go_simp;exact ⟨Zx (by decide) (Zr_ _ _),J⟩
     |2,_=>
      obtain rfl:=Zo_ ho;intro a wx hR hB hF hO;have f11:a.eval (.tmp 11)=U Y (k:Int):=hO 11 (by kernel_rfl) (Fu (by kernel_rfl));have e11:=Tv_ f11;clear hF hO hB hR;go_simp;exact ⟨Zx (by decide) (Zr_ _ _),J⟩
     |3,_=>
      obtain rfl:=Zo_ ho;intro a wx hR hB hF hO;have f57:a.eval (.tmp 57)=.func (.func 35) #[] #[]:=hF 57 1 _ (by kernel_rfl) J J (by kernel_rfl);have e57:=Tv_ f57;have f58:a.eval (.tmp 58)=U Y (k:Int):=hF 58 2 _ (by kernel_rfl) J J (by kernel_rfl);have e58:=Tv_ f58;clear hF hO hB hR;go_simp;refine Calls.mono (push_c k wx) ?_;rintro e w' ⟨rfl,M⟩;exact ⟨_,J,Zx (by decide) M,J⟩
     |4,_=>
      obtain rfl:=Zo_ ho;intro a wx hR hB hF hO;have f6:a.eval (.tmp 6)=E (I ⟨rb,0,O⟩):=hO 6 (by kernel_rfl) (Fu (by kernel_rfl));have e6:=Tv_ f6;obtain ⟨c0,c1,c2⟩:=HR.out wx hR;clear hF hO hB hR;go_simp;exact ⟨Zx (by decide) (Zr_ _ _),J⟩
     |5,_=>
      obtain rfl:=Zo_ ho;intro a wx hR hB hF hO;have f8:a.eval (.tmp 8)=.func (.func 37) #[] #[]:=hO 8 (by kernel_rfl) (Fu (by kernel_rfl));have e8:=Tv_ f8;clear hF hO hB hR;go_simp;exact ⟨Zx (by decide) (Zr_ _ _),J⟩
     |6,_=>
      obtain rfl:=Zo_ ho;intro a wx hR hB hF hO;have f61:a.eval (.tmp 61)=.func (.func 37) #[] #[]:=hF 61 5 _ (by kernel_rfl) J J (by kernel_rfl);have e61:=Tv_ f61;clear hF hO hB hR;go_simp;refine Calls.mono (Da 1 wx) ?_;rintro e w' ⟨rfl,M⟩;exact ⟨_,J,Zx (by decide) M,J⟩
     |7,_=>
      obtain rfl:=Zo_ ho;intro a wx hR hB hF hO;have f59:a.eval (.tmp 59)=A_ #[U Y 1,U Y 0,Z V (fl k)]:=hF 59 3 _ (by kernel_rfl) J J (by kernel_rfl);have e59:=Tv_ f59;have f60:a.eval (.tmp 60)=A_ #[U Y 16,U Y 0,Z V 0]:=hF 60 4 _ (by kernel_rfl) J J (by kernel_rfl);have e60:=Tv_ f60;have f62:a.eval (.tmp 62)=A_ #[U Y 10,U Y 1,Z V 0]:=hF 62 6 _ (by kernel_rfl) J J (by kernel_rfl);have e62:=Tv_ f62;have hs:=Nat.le_trans HN9.out hR.size;clear hF hO hB hR;go_simp;exact ⟨Zx (by decide) ((Zr_ _ _).alloc _),_,J,Zc _ _,hs⟩
     |8,_=>
      obtain rfl:=Zo_ ho;intro a wx hR hB hF hO;have f56:a.eval (.tmp 56)=L av nd cv:=hF 56 0 _ (by kernel_rfl) J J (by kernel_rfl);obtain ⟨B,f63,hB2,hB3⟩:∃ B,a.eval (.tmp 63)=L (I ⟨B,0,O⟩) 3 3/\wx.heap[B]? =I (.cells ([U Y 1,U Y 0,Z V (fl k),U Y 16,U Y 0,Z V 0,U Y 10,U Y 1,Z V 0]:List Value).toArray 106 (0,0))/\n9<=B:=hF 63 7 _ (by kernel_rfl) J J (by kernel_rfl);refine Y2 (.tmp 56) (.tmp 63) 108 J n3 106 i0 (A_ #[U Y 0,U Y 0,Z V 0]) 3 24 underlying108 hi0 hz0 hz1 hz2 J (by decide) (L av nd cv) nd dl f56 (Xk HOW.out (((Zr_ [] w7).drew).trans (hB J)) (by simp)) ⟨B,0,O⟩ 3 3 [U Y 1,U Y 0,Z V (fl k),U Y 16,U Y 0,Z V 0,U Y 10,U Y 1,Z V 0] f63 J (Jf hB2) (by intro u hu;simp at hu;rcases hu with rfl|rfl|rfl|rfl|rfl|rfl|rfl|rfl|rfl <;> rfl) (by unfold maxLen;have:=HND.out;omega) (by have:=HND.out;omega) (Nat.le_trans (Nat.le_trans HN2.out HN9.out) hR.size) ?_;intro v' w' ho hg hat;exact ⟨Ht ((Zr_ _ wx).grown hg (λ g hg=>.inl (Option.mem_toList.2 hg))),ho⟩
     |9,_=>
      obtain rfl:=Zo_ ho;intro a wx hR hB hF hO;have row:wx.ownsRow n3 106 3 (a.eval (.tmp 64)) (nd+3) (dl++[U Y 1,U Y 0,Z V (fl k),U Y 16,U Y 0,Z V 0,U Y 10,U Y 1,Z V 0]):=hF 64 8 _ (by kernel_rfl) J J (by kernel_rfl);obtain ⟨ca,cc,hc⟩:=Zo row;rw [hc] at row;have e64:=Tv_ hc;have ROW:=Zh_ row;clear hF hO hB hR row hc;go_simp;exact ⟨Zx (by decide) (Zr_ _ _),ROW.out⟩
     |j+10,hh=>omega
    ·intro vs w8 hR hv;have row:w8.ownsRow n3 106 3 (vs 9) (nd+3) (dl++[U Y 1,U Y 0,Z V (fl k),U Y 16,U Y 0,Z V 0,U Y 10,U Y 1,Z V 0]):=hv 9 (by decide);obtain ⟨ca,cc,e9⟩:=Zo row;have M8:=Zh_ (((HM.out).drew).then hR (λ g hg=>.inr (by rw [<-HN3.out];exact (HGE.out g (Option.mem_toList.1 hg)).1)));have row2:w8.ownsRow n3 106 3 (L ca (nd+3) cc) (1+3 * (k+1)) (Yl (Cv (k+1))):=by
      rw [e9] at row;rw [Mu,Ti,<-HDL.out,show 1+3 * (k+1)=nd+3 by rw [HND'.out];omega];exact row
     have ROW:=Zh_ row2;clear hv hR row row2;simp only [Yx,Act.put,e9];clear e9;go_simp;go_wp2;go_roundw
     case rel=>exact ⟨k+1,by omega,by go_num,ROW.out,M8.out⟩
     case measure=>simp [intOf];omega
   ·obtain rfl:k=n:=by omega
    have d4:decide ((k:Int) < (k:Int))=false:=D9 (by omega);have HND:=Zh_ (show nd<=31 by omega);have HGE:=Zh_ hge;clear hnd hdl m hown hge HO5 M5;go_wp2_with (at_builtin;refine wpList_append_own_at _ J _ _ 108 J n3 106 i0 (A_ #[U Y 0,U Y 0,Z V 0]) 3 24 underlying108 hi0 hz0 hz1 hz2 J (by decide) _ _ _ J (HOW.out.alloc _) ⟨wr.heap.size,0,O⟩ 2 2 [U Y 18,U Y 0,Z V 0,U Y 20,U Y 0,Z V 0] J J ?CA ?CB ?CC ?CD ?CE ?_)
    case CA=>exact Jf (Zc wr (X #[U Y 18,U Y 0,Z V 0,U Y 20,U Y 0,Z V 0] 106))
    case CB=>intro u hu;simp at hu;rcases hu with rfl|rfl|rfl|rfl|rfl|rfl <;> rfl
    case CC=>unfold maxLen;have:=HND.out;omega
    case CD=>have:=HND.out;omega
    case CE=>rw [HN3.out,World.size_alloc];have:=HM.out.size;omega
    intro u' w5 ho5 hg5 _ _;obtain ⟨ca,cc,rfl⟩:=Zo ho5;have M6:=Zh_ ((HM.out.alloc _).grown hg5 (λ g hg=>.inr (by rw [<-HN3.out];exact (HGE.out g hg).1)));have e6:(Kr k).length=nd+2:=by rw [sumP_K,List.length_append,sumK_len,HND'.out];rfl
    have row6:w5.ownsRow n3 106 3 (L ca (nd+2) cc) (Kr k).length (Yl (Kr k)):=by
     rw [e6,sumP_K,Ti,<-HDL.out];exact ho5
    have HO6:=Zh_ row6;have HE6:=Zh_ e6;clear ho5 hg5 row6 e6;go_upto_region 14 with fail;generalize hwC:((w5.alloc _).alloc _).alloc _=wC;obtain ⟨pb,hpb⟩:∃ z,z=w5.heap.size:=⟨_,J⟩;rw [<-hpb] at hwC;have HSZ:=Zh_ (show wC.heap.size=pb+1+1+1 by rw [<-hwC,World.size_alloc,World.size_alloc,World.size_alloc,hpb]);have PB:=Zc w5 (X #[U Y 2,L (I ⟨B,0,O⟩) Jb.length Jb.length,U Y 1,L ca (nd+2) cc] 110);have PB2:=Zf (X #[U Y (k:Int),U Y 4,U Y 60,U Y 2,L O 0 0,L (I ⟨pb,0,O⟩) 2 2,L (I ⟨pb+1,0,O⟩) 4 4] 28) (Zf (X #[L O 0 0,L O 0 0,L O 0 0,L O 0 0] 61) PB);have ZB:=Zc (w5.alloc (X #[U Y 2,L (I ⟨B,0,O⟩) Jb.length Jb.length,U Y 1,L ca (nd+2) cc] 110)) (X #[L O 0 0,L O 0 0,L O 0 0,L O 0 0] 61);have ZB2:=Zf (X #[U Y (k:Int),U Y 4,U Y 60,U Y 2,L O 0 0,L (I ⟨pb,0,O⟩) 2 2,L (I ⟨pb+1,0,O⟩) 4 4] 28) ZB;have SB:=Zc ((w5.alloc (X #[U Y 2,L (I ⟨B,0,O⟩) Jb.length Jb.length,U Y 1,L ca (nd+2) cc] 110)).alloc (X #[L O 0 0,L O 0 0,L O 0 0,L O 0 0] 61)) (X #[U Y (k:Int),U Y 4,U Y 60,U Y 2,L O 0 0,L (I ⟨pb,0,O⟩) 2 2,L (I ⟨pb+1,0,O⟩) 4 4] 28);rw [World.size_alloc] at ZB2;rw [World.size_alloc,World.size_alloc] at SB;rw [<-hpb,hwC] at PB2 ZB2 SB;have MC:Ze [] w5 wC:=by rw [<-hwC];exact (((Zr_ _ _).alloc _).alloc _).alloc _
    rw [<-hpb];obtain ⟨sb,hsb⟩:∃ z,z=pb+1+1:=⟨_,J⟩;rw [<-hsb] at SB ⊢
    have h5:=B9 PB2;have HPB:=Zh_ PB2;have HZB:=Zh_ ZB2;have HSB:=Zh_ SB;have HMC:=Zh_ MC;have HSE:=Zh_ hsb;have HP5:=Zh_ hpb;clear hwC PB PB2 ZB ZB2 SB MC hsb hpb h5;go_wp2_with fail
    go_loopw [13] (λ i wx=>∃ j:Nat,j<=k/\i=U Y j/\∃ vs,wx.heap[sb]? =I (X #[U Y (k:Int),U Y 4,U Y 60,U Y 2,vs,L (I ⟨pb,0,O⟩) 2 2,L (I ⟨pb+1,0,O⟩) 4 4] 28 (0,0))/\wx.ownsRow (sb+1) 51 1 vs j ((List.replicate j (fl 100)).map (Z V))/\Ze [sb] wC wx) (λ i _=>k - (intOf i).toNat)
    case atStart=>exact ⟨0,by omega,rfl,_,HSB.out,World.ownsRow_nil _ _ _ _,Zr_ _ _⟩
    case round=>
     obtain ⟨j,hj,rfl,vs1,hS,hO,m⟩:=hrel;obtain ⟨va,vc,rfl⟩:=Zo hO;have s4:=Za (i:=4) hS J;have HS:=Zh_ hS;have HO:=Zh_ hO;have HMX:=Zh_ m
     by_cases hlt:j < k
     ·have d4:decide ((j:Int) < (k:Int))=true:=decide_eq_true (by omega);obtain ⟨i1,hi1,hy0,hy1,hy2⟩:=info_parts Up;clear hS hO m;go_wp2_with (at_builtin;refine wpList_append_own_at _ J _ _ 24 J (sb+1) 51 i1 (Z V 0) 1 8 underlying24 hi1 hy0 hy1 hy2 J (by decide) _ _ _ J (HO.out.alloc _) ⟨wr.heap.size,0,O⟩ 1 1 [Z V 4636737291354636288] J J ?CA ?CB ?CC ?CD ?CE ?_)
      case CA=>exact cell_one_new _ _ _
      case CB=>intro u hu;simp at hu;subst hu;rfl
      case CC=>unfold maxLen;omega
      case CD=>omega
      case CE=>rw [World.size_alloc];have:=B9 HS.out;omega
      intro u' w7 ho7 hg7 _ _;obtain ⟨ga,gc,rfl⟩:=Zo ho7;have K7:w7.heap[sb]? =_:=(hg7.block sb (by have:=B9 HS.out;simp;omega) (λ e=>by have:=(HO.out.lt sb e.symm).1;omega)).trans (Zf _ HS.out);have s7:=Za (i:=4) K7 J;have z7:=Zb (i:=4) K7;have K8:=Zd (i:=4) (L ga (j+1) gc) K7;have row8:(w7.setCell ⟨sb,4,O⟩ (L ga (j+1) gc)).ownsRow (sb+1) 51 1 (L ga (j+1) gc) (j+1) ((List.replicate (j+1) (fl 100)).map (Z V)):=by
       rw [List.replicate_succ',List.map_append,fl100];simp only [fl100,List.map_replicate,List.map_cons,List.map_nil] at ho7 ⊢
       exact Xk ho7 ((Zr_ [sb] w7).setCell _ _ (.inl (by simp))) (λ g hg hm=>by simp at hm;have:=(ho7.lt g hg).1;omega)
      have M8:Ze [sb] wC (w7.setCell ⟨sb,4,O⟩ (L ga (j+1) gc)):=((HMX.out.alloc _).grown hg7 (λ g hg=>.inr (by have:=(HO.out.lt g hg).1;have:=B9 HS.out;have:=HSZ.out;have:=HSE.out;omega))).setCell _ _ (.inl (by simp));have HK8:=Zh_ K8;have HR8:=Zh_ row8;have HM8:=Zh_ M8;clear ho7 hg7 K7 K8 row8 M8 s4;go_wp2;go_roundw
      case rel=>exact ⟨j+1,by omega,by go_num,_,HK8.out,HR8.out,HM8.out⟩
      case measure=>simp [intOf];omega
     ·obtain rfl:j=k:=by omega
      have d4:decide ((j:Int) < (j:Int))=false:=D9 (by omega);have s0:=Za (i:=0) hS J;have s1:=Za (i:=1) hS J;have s2:=Za (i:=2) hS J;have s3:=Za (i:=3) hS J;have s5:=Za (i:=5) hS J;have s6:=Za (i:=6) hS J;have M2C:=(M6.out.trans HMC.out).then m (λ g hg=>.inr (by simp at hg;subst hg;have:=HSE.out;have:=HP5.out;have:=M6.out.size;omega))
      have N0:=M2C.at HB02.out (by simp);have HN0B:=Zh_ N0;have HM2C:=Zh_ M2C;have y0:=Za (i:=0) N0 J;have f0:=Zb (i:=0) N0;have y1:=Za (i:=1) N0 J;have f1:=Zb (i:=1) N0;have y2:=Za (i:=2) N0 J;have f2:=Zb (i:=2) N0;have y3:=Za (i:=3) N0 J;have f3:=Zb (i:=3) N0;have y4:=Za (i:=4) N0 J;have f4:=Zb (i:=4) N0;have y5:=Za (i:=5) N0 J;have f5:=Zb (i:=5) N0;have y6:=Za (i:=6) N0 J;have f6:=Zb (i:=6) N0;clear N0 M2C hS hO m;go_wp2_with fail;have hb:=Zd (i:=6) (L (I ⟨pb+1,0,O⟩) 4 4) (Zd (i:=5) (L (I ⟨pb,0,O⟩) 2 2) (Zd (i:=4) (L va j vc) (Zd (i:=3) (U Y 2) (Zd (i:=2) (U Y 60) (Zd (i:=1) (U Y 4) (Zd (i:=0) (U Y (j:Int)) (HN0B.out)))))));have mm:Ze [n0] wr (((((((wr.setCell ⟨n0,0,O⟩ (U Y (j:Int))).setCell ⟨n0,1,O⟩ (U Y 4)).setCell ⟨n0,2,O⟩ (U Y 60)).setCell ⟨n0,3,O⟩ (U Y 2)).setCell ⟨n0,4,O⟩ (L va j vc)).setCell ⟨n0,5,O⟩ (L (I ⟨pb,0,O⟩) 2 2)).setCell ⟨n0,6,O⟩ (L (I ⟨pb+1,0,O⟩) 4 4)):=((((((((Zr_ [n0] wr).setCell _ _ (.inl (by simp))).setCell _ _ (.inl (by simp))).setCell _ _ (.inl (by simp))).setCell _ _ (.inl (by simp))).setCell _ _ (.inl (by simp))).setCell _ _ (.inl (by simp))).setCell _ _ (.inl (by simp)));generalize hwF:(((((((wr.setCell ⟨n0,0,O⟩ (U Y (j:Int))).setCell ⟨n0,1,O⟩ (U Y 4)).setCell ⟨n0,2,O⟩ (U Y 60)).setCell ⟨n0,3,O⟩ (U Y 2)).setCell ⟨n0,4,O⟩ (L va j vc)).setCell ⟨n0,5,O⟩ (L (I ⟨pb,0,O⟩) 2 2)).setCell ⟨n0,6,O⟩ (L (I ⟨pb+1,0,O⟩) 4 4))=wF at *
      clear hwF y0 y1 y2 y3 y4 y5 y6 f0 f1 f2 f3 f4 f5 f6 s0 s1 s2 s3 s4 s5 s6;have hn:=HN0.out;have hz2:=HSE.out;have hz3:=HP5.out;have hz4:=HSZ.out;have hz5:=M6.out.size;have l0:=B9 HB02.out;have ZB:=mm.at (HMX.out.at HZB.out (by simp;omega)) (by simp;omega);have PB:=mm.at (HMX.out.at HPB.out (by simp;omega)) (by simp;omega);have lB:=B9 HBM.out;have BM:=mm.at (HM2C.out.at HBM.out (by simp)) (by simp;have:=HBN.out;omega);have row5:=Xk (Xk (Xk HO6.out HMC.out (by simp)) HMX.out (λ g hg hm=>by simp at hm;have:=(HO6.out.lt g hg).2;omega)) mm (λ g hg hm=>by simp at hm;have:=(HO6.out.lt g hg).1;have:=HN3.out;omega);have row6:=Xk HO.out mm (λ g hg hm=>by simp at hm;have:=(HO.out.lt g hg).1;omega);have MW:Ze [] w wF:=(M2.out.trans HM2C.out).then mm (λ g hg=>.inr (by simp at hg;omega))
      refine bodyPost_ret (v:=A_ #[U Y (j:Int),U Y 4,U Y 60,U Y 2,L va j vc,L (I ⟨pb,0,O⟩) 2 2,L (I ⟨pb+1,0,O⟩) 4 4]) (results_cell_row (P:=N) (fn:=Tryz.f16) (p:=4) (ty:=28) J _ _ n0 28 _ (0,0) _ J hb underlying28 J (by kernel_rfl)) J ⟨_,_,pb+1,J,MW,by have:=M2.out.size;omega,ZB,λ wy my=>⟨fx_own (b:=sb+1) (Xk (by simpa using row6) my (λ g hg hm=>by simp at hm;have:=(HO.out.lt g hg).1;omega)),?_⟩⟩;have e6:=HE6.out;rw [<-e6] at PB row5;exact progs_of (b:=n3) (my.at PB (by simp)) (my.at BM (by simp;omega)) (Xk row5 my (λ g hg hm=>by simp at hm;have:=(HO6.out.lt g (by rw [<-e6];exact hg)).2;omega))
end
end Go.Proofs.YtkhonmhnchdpkaaGreat

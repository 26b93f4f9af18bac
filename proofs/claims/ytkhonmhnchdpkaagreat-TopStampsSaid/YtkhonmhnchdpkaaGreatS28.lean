/- A part of the proof; no condition. -/
import Derived.Test.YtkhonmhnchdpkaaGreatS27
import Derived.Great.BuildSlice
import Derived.BigRegion
set_option maxRecDepth 100000
set_option maxHeartbeats 40000000
namespace Go.Proofs.YtkhonmhnchdpkaaGreat
open Go.RowKit _root_.Go.Proofs.Tryz
section
section
theorem Pu (l:Array Bool) (i:Nat):(l.setIfInBounds i true).getD i true=true:=by
 simp only [Array.getD_eq_getD_getElem?,Array.getElem?_setIfInBounds]
 by_cases h:i < l.size <;> simp [h]
variable {P:Program} {ops:Array Oper} {n i m:Nat} {o:Oper} {a0:Act} {R:World→World→Prop} {Rj:Nat→World→World→Prop} {p:Nat} {Bp:World→Prop} {wd:World} {F:Nat→Value→World→Prop}
def OpE (P:Program) (ops:Array Oper) (a0:Act) (R:World→World→Prop) (Rj:Nat→World→World→Prop) (p:Nat) (Bp:World→Prop) (wd:World) (F:Nat→Value→World→Prop) (i:Nat) (o:Oper):Prop:=
 ∀ (a:Act) (wx:World),R wd wx→(i=p→Bp wx)→
  (∀ (t j:Nat) (oj:Oper),(o.looksAt ops).contains t=true→ops[j]? =some oj→oj.dst=some t→F j (a.eval (.tmp t)) wx)→
  (∀ (t:Nat),(o.looksAt ops).contains t=true→(∀ (j:Nat) (oj:Oper),ops[j]? =some oj→oj.dst≠some t)→a.eval (.tmp t)=a0.eval (.tmp t))→
  Jt P (fun v w'=>Rj i wx w'∧F i v w') ((execOp a.eval o).run P wx)
def Uw (ops:Array Oper):Nat→Nat→Nat→Bool
 |0,_,_=>false
 |n+1,i,j=>match ops[i]? with
  |none=>false
  |some o=>o.after.any fun e=>Region.binds .any e&&(e.on==j || Uw ops n e.on j)
theorem Gg {listed:Array Bool} (hs:listed.size=ops.size) (hd:∀ (j:Nat) (oj:Oper),ops[j]? =some oj→listed.getD j false=true→∀ e∈oj.after,Region.binds .any e=true→listed.getD e.on false=true):∀ (n i j:Nat),listed.getD i false=true→Uw ops n i j=true→listed.getD j false=true
 |0,i,j,_,h=>by cases h
 |n+1,i,j,hi,h=>by
  unfold Uw at h
  cases ho:ops[i]? with
  |none=>rw [ho] at h;cases h
  |some o=>
   rw [ho] at h
   simp only at h
   rw [Array.any_eq_true] at h
   obtain ⟨q,hq,hb⟩:=h
   simp only [Bool.and_eq_true,Bool.or_eq_true,beq_iff_eq] at hb
   have:=hd i o ho hi _ (Array.getElem_mem hq) hb.1
   rcases hb.2 with e|e
   ·rw [←e];exact this
   ·exact Gg hs hd n _ j this e
theorem Inv.stepE (hreg:Ue ops a0.tmps.size=true) (hF:∀ i j v w w',i≠j→Uw ops ops.size i j=false→F i v w→Rj j w w'→F i v w') (hsub:∀ i a b,Rj i a b→R a b) (htr:∀ a b c,R a b→R b c→R a c) {listed:Array Bool} {a:Act} {wx:World} (h:Inv ops a0 R wd F listed a wx) (hi:ops[i]? =some o) (hl:listed.getD i true=false) (hall:∀ e∈o.after,Region.binds .any e=true→listed.getD e.on false=true) {v:Value} {w':World} (hR':Rj i wx w') (hv:F i v w') (hu:o.dst=none→v=undef∨F i undef w'):
  Inv ops a0 R wd F (listed.setIfInBounds i true) (a.put o.dst v) w':=by
 have hR:=hsub _ _ _ hR'
 have fi:=Qm (Q0 hreg hi)
 have hlt:i < listed.size:=by rw [h.sz];exact (Array.getElem?_eq_some_iff.1 hi).1
 refine ⟨by simpa using h.sz,htr _ _ _ h.cls hR,by rw [Ku];exact h.dfs,by rw [Gp];exact h.tsz,fun k hk=>?_,fun j oj hj hlj e he hb=>getD_set_true (?_),fun j oj hj hlj=>?_⟩
 ·rw [Vl,if_neg (fun hh=>?_)]
  ·refine h.out k (fun j oj hj hd=>?_)
   have:=hk j oj hj hd
   by_cases hij:i=j
   ·subst hij;exact hl
   ·simpa [Array.getElem?_setIfInBounds,hij] using this
  ·have:=hk i o hi hh.1
   simp [hlt] at this
 ·by_cases hij:i=j
  ·subst hij
   rw [hi] at hj
   obtain rfl:=Zo_ hj
   exact hall e he hb
  ·exact h.dwn j oj hj (by simpa [Array.getElem?_setIfInBounds,hij] using hlj) e he hb
 ·by_cases hij:i=j
  ·subst hij
   rw [hi] at hj
   obtain rfl:=Zo_ hj
   cases hd:o.dst with
   |none=>
    rcases hu hd with e|e
    ·rw [←e];exact hv
    ·exact e
   |some d=>
    show F i ((a.put (some d) v).tmps.getD d undef) w'
    rw [Vl,if_pos ⟨rfl,by rw [h.tsz];exact fi.dn d hd⟩]
    exact hv
  ·have hlj':listed.getD j false=true:=by simpa [Array.getElem?_setIfInBounds,hij] using hlj
   have hw:Uw ops ops.size j i=false:=by
    cases hq:Uw ops ops.size j i with
    |false=>rfl
    |true=>
     have:=Gg h.sz h.dwn _ j i hlj' hq
     have hlt':i < listed.size:=hlt
     simp [hlt'] at this hl
     rw [hl] at this
     cases this
   have:=h.don j oj hj hlj'
   cases hd:oj.dst with
   |none=>rw [hd] at this;exact hF _ _ _ _ _ (Ne.symm hij) hw this hR'
   |some d=>
    rw [hd] at this
    show F j ((a.put o.dst v).tmps.getD d undef) w'
    rw [Vl,if_neg (fun hh=>fi.dist j oj d hj hd hij hh.1)]
    exact hF _ _ _ _ _ (Ne.symm hij) hw this hR'
theorem Inv.runE (hreg:Ue ops a0.tmps.size=true) (hF:∀ i j v w w',i≠j→Uw ops ops.size i j=false→F i v w→Rj j w w'→F i v w') (hsub:∀ i a b,Rj i a b→R a b) (htr:∀ a b c,R a b→R b c→R a c) (hB:∀ j a b,j≠p→Rj j a b→Bp a→Bp b) {listed:Array Bool} {a:Act} {wx:World} {Q:Exit→Act→World→Prop} (hops:∀ i o,i < m→ops[i]? =some o→OpE P ops a0 R Rj p Bp wd F i o) (h:Inv ops a0 R wd F listed a wx) (hb:listed.getD p true=false→Bp wx) (him:i < m) (hr:i∈Region.ready .any ops listed)
  {K:Act→World→Prop} (hK:∀ a' w',Inv ops a0 R wd F (listed.setIfInBounds i true) a' w'→((listed.setIfInBounds i true).getD p true=false→Bp w')→K a' w') (hskip:∀ i v w',F i v w'→∀ o,ops[i]? =some o→o.dst=none→F i undef w'):wpOp P ops Q i K a wx:=by
 obtain ⟨hl,o,hi,hall⟩:=mem_ready.1 hr
 have fi:=Qm (Q0 hreg hi)
 unfold wpOp
 rw [hi]
 simp only
 rw [if_pos (by unfold Region.wanted;rw [fi.g])]
 left
 have hnext:∀ w',Rj i wx w'→(listed.setIfInBounds i true).getD p true=false→Bp w':=by
  intro w' hR hp
  by_cases hip:i=p
  ·subst hip
   rw [Pu] at hp
   cases hp
  ·rw [getD_set_ne true hip] at hp
   exact hB i _ _ hip hR (hb hp)
 have:=hops i o him hi a wx h.cls (fun e=>hb (by rw [←e];exact hl)) (fun t j oj ht hj hd=>by
  obtain ⟨e,he,rfl,hb⟩:=fi.look j oj t hj hd ht
  have:=h.don e.on oj hj (hall e he hb)
  rw [hd] at this
  exact this) (fun t _ hno=>by
  rw [Act.eval_tmp,Act.eval_tmp]
  exact h.out t (fun j oj hj hd=>absurd hd (hno j oj hj)))
 unfold Oper.wp
 revert this
 generalize (execOp a.eval o).run P wx=r
 intro this
 cases r with
 |halt x w'=>exact this.elim
 |ok n w'=>
  cases n with
  |value v=>exact hK _ _ (h.stepE hreg hF hsub htr hi hl hall this.1 this.2 (fun hd=>.inr (hskip _ _ _ this.2 o hi hd))) (hnext _ this.1)
  |skip=>exact hK _ _ (h.stepE hreg hF hsub htr hi hl hall this.1 this.2 (fun _=>.inl rfl)) (hnext _ this.1)
  |enter f args=>
   refine Calls.mono this (fun e w'' ⟨v,he,hv⟩=>?_)
   subst he
   exact hK _ _ (h.stepE hreg hF hsub htr hi hl hall hv.1 hv.2 (fun hd=>.inr (hskip _ _ _ hv.2 o hi hd))) (hnext _ hv.1)
  |_=>exact this.elim
theorem Inv.allE (hreg:Ue ops a0.tmps.size=true) (hF:∀ i j v w w',i≠j→Uw ops ops.size i j=false→F i v w→Rj j w w'→F i v w') (hsub:∀ i a b,Rj i a b→R a b) (htr:∀ a b c,R a b→R b c→R a c) (hB:∀ j a b,j≠p→Rj j a b→Bp a→Bp b) {Q:Exit→Act→World→Prop} (hsz:ops.size=m+1) (hcov:Bq ops m=true) (hops:∀ i o,i < m→ops[i]? =some o→OpE P ops a0 R Rj p Bp wd F i o) (hskip:∀ i v w',F i v w'→∀ o,ops[i]? =some o→o.dst=none→F i undef w')
  (hend:∀ a w',(∀ listed,Inv ops a0 R wd F listed a w'→listed.getD m true=false→(∀ j,j < m→listed.getD j false=true)→wpList P ops Q [ops[m]!] a w')):∀ (fuel:Nat) (listed:Array Bool) (a:Act) (wx:World),listed.getD m true=false→(∀ n,n=(List.range ops.size).countP (fun i=>!listed.getD i true)→n≤fuel)→(listed.getD p true=false→Bp wx)→Inv ops a0 R wd F listed a wx→wpAny P .any ops Q fuel listed a wx
 |0,listed,a,wx,hlm,hn,hb,h=>by
  exfalso
  have h0:=hn _ rfl
  have hz:(List.range ops.size).countP (fun i=>!listed.getD i true)=0:=by omega
  rw [List.countP_eq_zero] at hz
  have:=hz m (by rw [List.mem_range];omega)
  rw [hlm] at this
  simp at this
 |fuel+1,listed,a,wx,hlm,hn,hb,h=>by
  refine ⟨fun hr=>?_,fun i hi=>?_⟩
  ·exfalso
   have:=Jk hreg h.sz hr m (by omega)
   have hm':m < listed.size:=by rw [h.sz];omega
   have e:listed.getD m false=listed.getD m true:=by simp [hm']
   rw [e,hlm] at this
   cases this
  by_cases him:i=m
  ·subst him
   have hom:ops[i]? =some ops[i]!:=by simp [hsz]
   obtain ⟨hl,o,ho,hall⟩:=mem_ready.1 hi
   have hc:∀ d j,j+d=i→0 < d→listed.getD j false=true:=by
    intro d
    induction d using Nat.strongRecOn with
    |_ d ih=>
     intro j hj hd
     obtain ⟨k,ok,hk,hjk,hki,he⟩:=Mo hcov j (by omega)
     unfold Bo at he
     rw [Array.any_eq_true] at he
     obtain ⟨q,hq,hb⟩:=he
     simp only [Bool.and_eq_true,beq_iff_eq] at hb
     rw [←hb.1]
     by_cases hki':k=i
     ·subst hki'
      rw [ho] at hk
      obtain rfl:=Zo_ hk
      exact hall _ (Array.getElem_mem hq) hb.2
     ·exact h.dwn k ok hk (ih (i - k) (by omega) k (by omega) (by omega)) _ (Array.getElem_mem hq) hb.2
   have hw:=hend a wx listed h hlm (fun j hj=>hc (i - j) j (by omega) (by omega))
   unfold wpOp
   rw [hom]
   have fi:=Qm (Q0 hreg hom)
   simp only
   rw [if_pos (by unfold Region.wanted;rw [fi.g])]
   unfold wpList at hw
   rw [if_pos (by unfold Region.wanted;rw [fi.g])] at hw
   refine hw.imp (Oper.wp_mono (fun a' w' hq=>?_)) id
   have e:=H7 h.sz hsz (fun j hj=>hc (i - j) j (by omega) (by omega))
   have hq:Q .normal a' w':=hq
   cases fuel with
   |zero=>exact ⟨e,hq⟩
   |succ f=>exact ⟨fun _=>hq,fun j hj=>by rw [e] at hj;cases hj⟩
  refine h.runE hreg hF hsub htr hB hops hb (by have:=(Array.getElem?_eq_some_iff.1 (mem_ready.1 hi).2.choose_spec.1).1;omega) hi (fun a' w' h' hb'=>Inv.allE hreg hF hsub htr hB hsz hcov hops hskip hend fuel _ a' w' (by rw [getD_set_ne true him];exact hlm) ?_ hb' h') hskip
  intro n hn'
  obtain ⟨hl,o,ho,_⟩:=mem_ready.1 hi
  have hlt:=(Array.getElem?_eq_some_iff.1 ho).1
  have h1:=hn _ rfl
  have:(List.range ops.size).countP (fun j=>!(listed.setIfInBounds i true).getD j true)+1≤(List.range ops.size).countP (fun j=>!listed.getD j true):=by
   have key:∀ l:List Nat,l.Nodup→i∈l→l.countP (fun j=>!(listed.setIfInBounds i true).getD j true)+1≤l.countP (fun j=>!listed.getD j true):=by
    intro l
    induction l with
    |nil=>intro _ hm;cases hm
    |cons x l ih=>
     intro hnd hm
     rw [List.nodup_cons] at hnd
     rw [List.countP_cons,List.countP_cons]
     rcases List.mem_cons.1 hm with rfl|hm
     ·have e1:(!(listed.setIfInBounds i true).getD i true)=false:=by
       simp [Array.getElem?_setIfInBounds]
       split <;> rfl
      have e2:(!listed.getD i true)=true:=by rw [hl];rfl
      rw [e1,e2]
      have:l.countP (fun j=>!(listed.setIfInBounds i true).getD j true)≤l.countP (fun j=>!listed.getD j true):=by
       refine List.countP_mono_left (fun y hy=>?_)
       have hne:i≠y:=fun e=>hnd.1 (e ▸ hy)
       simp [hne]
      rw [if_neg (by decide),if_pos rfl]
      omega
     ·have hne:i≠x:=fun e=>hnd.1 (e ▸ hm)
      have e1:(!(listed.setIfInBounds i true).getD x true)=!listed.getD x true:=by simp [hne]
      rw [e1]
      have:=ih hnd.2 hm
      omega
   exact key _ List.nodup_range (List.mem_range.2 hlt)
  omega
end
section
variable {P:Program} {ops:Array Oper} {n i m:Nat} {o:Oper} {a0:Act} {F:Nat→Value→World→Prop}
theorem Ub {id:Nat} {Q:Exit→Act→World→Prop} {w:World} (hm:P.follows .mixedOrders=true) (m:Nat) {ol:Oper} (hol:ops[m]? =some ol) (R:World→World→Prop) (Rj:Nat→World→World→Prop) (p:Nat) (Bp:World→Prop) (F:Nat→Value→World→Prop)
  (hreg:Ue ops a0.tmps.size=true) (hsz:ops.size=m+1) (hcov:Bq ops m=true) (hF:∀ i j v w w',i≠j→F i v w→Rj j w w'→F i v w') (hsub:∀ i a b,Rj i a b→R a b) (hB:∀ j a b,j≠p→Rj j a b→Bp a→Bp b) (hB0:Bp w.drew) (hrf:∀ a,R a a) (htr:∀ a b c,R a b→R b c→R a c)
  (hskip:∀ i v w',F i v w'→∀ o,ops[i]? =some o→o.dst=none→F i undef w')
  (hops:∀ i o,i < m→ops[i]? =some o→OpE P ops a0 R Rj p Bp w.drew F i o)
  (hend:∀ (vs:Nat→Value) w',R w.drew w'→(∀ i,i < m→F i (vs i) w')→wpList P ops Q [ol] (Xb a0 vs (ops.toList.take m) 0) w'):(Code.region id ops true).wp P Q a0 w:=by
 refine wp_region_any hm (Inv.allE hreg (fun i j v w w' hij _=>hF i j v w w' hij) hsub htr hB hsz hcov hops hskip ?_ ops.size _ a0 _ (by simp [hsz]) ?_ (fun _=>hB0) ⟨by simp,hrf _,rfl,rfl,fun _ _=>rfl,fun j oj hj hl=>?_,fun j oj hj hl=>?_⟩)
 ·intro a w' listed h hlm hall
  let vs:Nat→Value:=fun i=>match (ops[i]?).bind (·.dst) with|none=>undef|some d=>a.tmps.getD d undef
  have e:a=Xb a0 vs (ops.toList.take m) 0:=by
   have hsz':a.tmps.size=(Xb a0 vs (ops.toList.take m) 0).tmps.size:=by rw [U3];exact h.tsz
   have ht:a.tmps=(Xb a0 vs (ops.toList.take m) 0).tmps:=by
    refine Array.ext hsz' (fun k hk1 hk2=>?_)
    have g1:a.tmps.getD k undef=a.tmps[k]:=by simp [hk1]
    have g2:(Xb a0 vs (ops.toList.take m) 0).tmps.getD k undef=(Xb a0 vs (ops.toList.take m) 0).tmps[k]:=by simp [hk2]
    rw [←g1,←g2]
    by_cases hex:∃ (j:Nat) (oj:Oper),j < m∧ops[j]? =some oj∧oj.dst=some k
    ·obtain ⟨j,oj,hjm,hj,hd⟩:=hex
     rw [Gq vs k (ops.toList.take m) 0 a0 j oj (by rw [List.getElem?_take_of_lt hjm];simpa using hj) hd (by rw [←h.tsz];exact hk1) (fun j' o' hj' hne hd'=>by
      have hj2:ops[j']? =some o':=by
       by_cases hlt:j' < m
       ·rw [List.getElem?_take_of_lt hlt] at hj'
        simpa using hj'
       ·rw [List.getElem?_eq_none (by simp;omega)] at hj'
        cases hj'
      exact (Qm (Q0 hreg hj)).dist j' o' k hj2 hd' (Ne.symm hne) hd)]
     show _=(match (ops[0+j]?).bind (·.dst) with|none=>undef|some d=>a.tmps.getD d undef)
     rw [Nat.zero_add,hj]
     simp [hd]
    ·rw [U4 vs k (ops.toList.take m) 0 a0 (fun o ho hd=>by
      obtain ⟨j,hj⟩:=List.getElem?_of_mem ho
      have hlt:j < m:=by
       have:=(List.getElem?_eq_some_iff.1 hj).1
       simp at this
       omega
      rw [List.getElem?_take_of_lt hlt] at hj
      exact hex ⟨j,o,hlt,by simpa using hj,hd⟩)]
     exact h.out k (fun j oj hj hd=>by
      by_cases hlt:j < m
      ·exact absurd ⟨j,oj,hlt,hj,hd⟩ hex
      ·have:=(Array.getElem?_eq_some_iff.1 hj).1
       obtain rfl:j=m:=by omega
       exact hlm)
   have hd:a.defers=(Xb a0 vs (ops.toList.take m) 0).defers:=by rw [Vm];exact h.dfs
   cases a
   cases hp:Xb a0 vs (ops.toList.take m) 0
   rw [hp] at ht hd
   simp only at ht hd
   rw [ht,hd]
  rw [e]
  have hom:ops[m]! =ol:=by
   have:=hol
   simp only [getElem!_def,this]
  rw [hom]
  refine hend vs w' h.cls (fun i hi=>?_)
  have hi':i < ops.size:=by omega
  have hoi:ops[i]? =some ops[i]:=by simp [hi']
  have:=h.don i _ hoi (hall i hi)
  show F i (match (ops[i]?).bind (·.dst) with|none=>undef|some d=>a.tmps.getD d undef) w'
  rw [hoi]
  simp only [Option.bind_some]
  cases hd:ops[i].dst with
  |none=>rw [hd] at this;exact this
  |some d=>rw [hd] at this;exact this
 ·intro k hk
  rw [hk]
  refine Nat.le_trans List.countP_le_length (by simp)
 ·have hlt:=(Array.getElem?_eq_some_iff.1 hj).1
  simp [hlt] at hl
 ·have hlt:=(Array.getElem?_eq_some_iff.1 hj).1
  simp [hlt] at hl
end
end
section
def Ro (x n0:Nat) (av:Option Addr) (cv nd:Nat) (dl:List Value) (cs:Array Value):Nat→Value→World→Prop
 |0,v,_=>v=.pointer (some ⟨x,0,none⟩)
 |1,v,_=>v=.pointer (some ⟨x,0,none⟩)
 |2,v,_=>v=.pointer (some ⟨x,0,none⟩)
 |3,v,_=>v=.pointer (some ⟨x,14,none⟩)
 |4,v,_=>v=.slice av nd cv
 |5,v,_=>v=.agg cs
 |6,v,w=>∃ B,v=.slice (some ⟨B,0,none⟩) 1 1∧w.heap[B]? =some (.cells cs 50 (0,0))∧n0≤B
 |7,v,w=>w.ownsRow 0 50 19 v (nd+1) (dl++cs.toList)∧∀ g,v.ownBlock=some g→(Value.slice av nd cv).ownBlock=some g∨n0≤g
 |8,v,_=>v=.pointer (some ⟨x,0,none⟩)
 |9,v,_=>v=.pointer (some ⟨x,14,none⟩)
 |_,_,_=>True
def J1 (av:Option Addr) (nd cv:Nat) (i:Nat):World→World→Prop:=if i=7 then Ze (Value.slice av nd cv).ownBlock.toList else Ze []
theorem beg9F_on (x n0:Nat) (av:Option Addr) (cv nd:Nat) (dl:List Value) (cs:Array Value) (hg:∀ g,(Value.slice av nd cv).ownBlock=some g→g < n0) (i j:Nat) (v:Value) (w w':World) (hij:i≠j) (h:Ro x n0 av cv nd dl cs i v w) (m:J1 av nd cv j w w'):Ro x n0 av cv nd dl cs i v w':=by
 match i,hij,h with
 |0,_,h=>exact h
 |1,_,h=>exact h
 |2,_,h=>exact h
 |3,_,h=>exact h
 |4,_,h=>exact h
 |5,_,h=>exact h
 |6,_,⟨B,h1,h2,h3⟩=>
  refine ⟨B,h1,?_,h3⟩
  unfold J1 at m
  split at m
  ·exact m.at h2 (fun hm=>by have:=hg B (Option.mem_toList.1 hm);omega)
  ·exact m.at h2 (by simp)
 |7,hij,⟨h1,h2⟩=>
  unfold J1 at m
  rw [if_neg (Ne.symm hij)] at m
  exact ⟨Ye h1 m,h2⟩
 |8,_,h=>exact h
 |9,_,h=>exact h
 |i+10,_,h=>trivial
theorem A9 (x n0:Nat) (av:Option Addr) (cv nd:Nat) (dl:List Value) (cs:Array Value) (i:Nat) (h:10≤i) (v:Value) (w:World):Ro x n0 av cv nd dl cs i v w:=by
 match i,h with
 |j+10,_=>trivial
theorem Ui {P:Program} {w:World} {o:Oper} {a:Act} {K:Value→World→Prop} (ty:TypeId) (x:Operand) (ho:o.op=.load ty x)
  (g:Nat) (hx:a.eval x=.pointer (some ⟨g,0,none⟩)) (t:TypeId) (cs:Array Value) (fr:Nat×Nat) (d:TypeDesc) (hg:w.heap[g]? =some (.cells cs t fr))
  (hu:P.underlying ty=some d) (hd:(match d with|.struct _|.array _ _=>true|_=>false)=true) (hi:(P.info? ty).map (·.size)=some cs.size)
  (h:K (.agg cs) w):Jt P K ((execOp a.eval o).run P w):=by
 unfold execOp
 simp only [ho,hx,Instr.loadAt,Instr.sureAddr,Sem.run_bind,Sem.run_pure,Result.andThen_ok,run_loadVar_row w g t ty cs fr d hg hu hd hi]
 exact h
theorem Qv {P:Program} {w:World} {o:Oper} {a:Act} {K:Value→World→Prop} (t e:TypeId) (x:Operand) (ho:o.op=.buildSlice t 1 #[(0,x)])
  (cs:Array Value) (hx:a.eval x=.agg cs) (ie:TypeInfo) (z:Value) (hu:P.underlying t=some (.slice e)) (hie:P.info? e=some ie) (hz:ie.zero=some z) (hsz:ie.size=cs.size) (h0:0 < cs.size) (h24:cs.size≤1000)
  (h:K (.slice (some ⟨w.heap.size,0,none⟩) 1 1) (w.alloc (.cells cs e))):Jt P K ((execOp a.eval o).run P w):=by
 unfold execOp
 simp only [ho,Sem.run_bind]
 rw [run_buildSlice w t e 1 _ cs ie z hu hie hz (by rw [hsz];omega) (by rw [hsz];omega) ?_]
 ·exact h
 ·have hf:=Great.fill_whole (s:=cs.size) h0 [.agg cs] ((Array.range (1 * ie.size)).map (z.cells[·% z.cells.size]!)) (by intro v hv;simp at hv;subst hv;rfl) (by simp [hsz])
  rw [hsz] at hf ⊢
  simp only [List.map_toArray,List.map_cons,List.map_nil,hx]
  have e:([Value.agg cs].flatMap fun v=>v.cells.toList).toArray=cs:=by simp [Value.cells]
  rw [e] at hf
  exact hf
theorem V3 {av:Option Addr} {nd cv i:Nat} {a b:World} (hi:i≠7) (m:Ze [] a b):J1 av nd cv i a b:=by
 unfold J1
 rw [if_neg hi]
 exact m
theorem A8 {av:Option Addr} {nd cv i:Nat} {a b:World} (hi:i≠7) (m:J1 av nd cv i a b):Ze [] a b:=by
 unfold J1 at m
 rw [if_neg hi] at m
 exact m
theorem A7 {av:Option Addr} {nd cv i:Nat} {a b:World} (m:J1 av nd cv i a b):Ze (Value.slice av nd cv).ownBlock.toList a b:=by
 unfold J1 at m
 split at m
 ·exact m
 ·exact m.weak _
end
section
theorem joined_t (a0 a1 a2 a3 a5 a6 a10 a11 a12 a13 a14 a15 a16 a17 a18 b0 b1 b2 b3 b5 b6 b10 b11 b12 b13 b14 b15 b16 b17 b18:Int) (a4 a7 a8 a9 b4 b7 b8 b9:Value) (o4:b4.oneCell'=true) (o7:b7.oneCell'=true) (o8:b8.oneCell'=true) (o9:b9.oneCell'=true) (w:World):
  Calls Tryz.prog 25 #[.agg #[.int .i64 a0,.int .i64 a1,.int .i64 a2,.int .i64 a3,a4,.int .i64 a5,.int .i64 a6,a7,a8,a9,.int .i64 a10,.int .i64 a11,.int .i64 a12,.int .i64 a13,.int .i64 a14,.int .i64 a15,.int .i64 a16,.int .i64 a17,.int .i64 a18],.agg #[.int .i64 b0,.int .i64 b1,.int .i64 b2,.int .i64 b3,b4,.int .i64 b5,.int .i64 b6,b7,b8,b9,.int .i64 b10,.int .i64 b11,.int .i64 b12,.int .i64 b13,.int .i64 b14,.int .i64 b15,.int .i64 b16,.int .i64 b17,.int .i64 b18]] w
   (fun e w'=>e=.returned (.agg #[.int .i64 a0,.int .i64 a1,.int .i64 a2,.int .i64 b3,b4,.int .i64 b5,.int .i64 b6,b7,b8,b9,.int .i64 b10,.int .i64 b11,.int .i64 b12,.int .i64 a13,.int .i64 a14,.int .i64 b15,.int .i64 a16,.int .i64 a17,.int .i64 a18])∧Ze [] w w'):=by
 have ONE:=Zh_ (show ((#[.int .i64 a0,.int .i64 a1,.int .i64 a2,.int .i64 b3,b4,.int .i64 b5,.int .i64 b6,b7,b8,b9,.int .i64 b10,.int .i64 b11,.int .i64 b12,.int .i64 a13,.int .i64 a14,.int .i64 b15,.int .i64 a16,.int .i64 a17,.int .i64 a18]:Array Value).all (·.oneCell'))=true by simp only [List.all_toArray,List.all_cons,o4,o7,o8,o9];rfl)
 clear o4 o7 o8 o9
 go_enter func25,ntmps25
 go_upto_region 1 with fail
 obtain ⟨n2,hn2⟩:∃ n,n=w.heap.size:=⟨_,rfl⟩
 obtain ⟨n3,hn3⟩:∃ n,n=n2+1:=⟨_,rfl⟩
 obtain ⟨n4,hn4⟩:∃ n,n=n3+1:=⟨_,rfl⟩
 obtain ⟨w1,hw1⟩:∃ z,z=((w.alloc (.cells #[.int .i64 a0,.int .i64 a1,.int .i64 a2,.int .i64 a3,a4,.int .i64 a5,.int .i64 a6,a7,a8,a9,.int .i64 a10,.int .i64 a11,.int .i64 a12,.int .i64 a13,.int .i64 a14,.int .i64 a15,.int .i64 a16,.int .i64 a17,.int .i64 a18] 50)).alloc (.cells #[.int .i64 b0,.int .i64 b1,.int .i64 b2,.int .i64 b3,b4,.int .i64 b5,.int .i64 b6,b7,b8,b9,.int .i64 b10,.int .i64 b11,.int .i64 b12,.int .i64 b13,.int .i64 b14,.int .i64 b15,.int .i64 b16,.int .i64 b17,.int .i64 b18] 50)).alloc (.cells #[.int .i64 0,.int .i64 0,.int .i64 0,.int .i64 0,.slice none 0 0,.int .i64 0,.int .i64 0,.slice none 0 0,.slice none 0 0,.slice none 0 0,.int .i64 0,.int .i64 0,.int .i64 0,.int .i64 0,.int .i64 0,.int .i64 0,.int .i64 0,.int .i64 0,.int .i64 0] 50):=⟨_,rfl⟩
 have A2:w1.heap[n2]? =some (.cells #[.int .i64 a0,.int .i64 a1,.int .i64 a2,.int .i64 a3,a4,.int .i64 a5,.int .i64 a6,a7,a8,a9,.int .i64 a10,.int .i64 a11,.int .i64 a12,.int .i64 a13,.int .i64 a14,.int .i64 a15,.int .i64 a16,.int .i64 a17,.int .i64 a18] 50 (0,0)):=by rw [hw1,hn2];exact Zf _ (Zf _ (Zc _ _))
 have A3:w1.heap[n3]? =some (.cells #[.int .i64 b0,.int .i64 b1,.int .i64 b2,.int .i64 b3,b4,.int .i64 b5,.int .i64 b6,b7,b8,b9,.int .i64 b10,.int .i64 b11,.int .i64 b12,.int .i64 b13,.int .i64 b14,.int .i64 b15,.int .i64 b16,.int .i64 b17,.int .i64 b18] 50 (0,0)):=by rw [hw1,hn3,hn2];exact Zf _ (Mu _ _ _)
 have A4:w1.heap[n4]? =some (.cells Z4 50 (0,0)):=by
  rw [hw1,hn4,hn3,hn2]
  have:=Zc ((w.alloc (.cells #[.int .i64 a0,.int .i64 a1,.int .i64 a2,.int .i64 a3,a4,.int .i64 a5,.int .i64 a6,a7,a8,a9,.int .i64 a10,.int .i64 a11,.int .i64 a12,.int .i64 a13,.int .i64 a14,.int .i64 a15,.int .i64 a16,.int .i64 a17,.int .i64 a18] 50)).alloc (.cells #[.int .i64 b0,.int .i64 b1,.int .i64 b2,.int .i64 b3,b4,.int .i64 b5,.int .i64 b6,b7,b8,b9,.int .i64 b10,.int .i64 b11,.int .i64 b12,.int .i64 b13,.int .i64 b14,.int .i64 b15,.int .i64 b16,.int .i64 b17,.int .i64 b18] 50)) (.cells #[.int .i64 0,.int .i64 0,.int .i64 0,.int .i64 0,.slice none 0 0,.int .i64 0,.int .i64 0,.slice none 0 0,.slice none 0 0,.slice none 0 0,.int .i64 0,.int .i64 0,.int .i64 0,.int .i64 0,.int .i64 0,.int .i64 0,.int .i64 0,.int .i64 0,.int .i64 0] 50)
  rw [World.size_alloc,World.size_alloc] at this
  exact this
 have M1:Ze [] w w1:=by rw [hw1];exact (((Zr_ _ _).alloc _).alloc _).alloc _
 simp only [←hw1,←hn2,←hn3,←hn4]
 have x0:w1.cell? ⟨n2,0,none⟩=some (.int .i64 a0):=Za A2 rfl
 have x1:w1.cell? ⟨n2,1,none⟩=some (.int .i64 a1):=Za A2 rfl
 have x2:w1.cell? ⟨n2,2,none⟩=some (.int .i64 a2):=Za A2 rfl
 have x13:w1.cell? ⟨n2,13,none⟩=some (.int .i64 a13):=Za A2 rfl
 have x14:w1.cell? ⟨n2,14,none⟩=some (.int .i64 a14):=Za A2 rfl
 have x16:w1.cell? ⟨n2,16,none⟩=some (.int .i64 a16):=Za A2 rfl
 have x17:w1.cell? ⟨n2,17,none⟩=some (.int .i64 a17):=Za A2 rfl
 have x18:w1.cell? ⟨n2,18,none⟩=some (.int .i64 a18):=Za A2 rfl
 have y0:w1.cell? ⟨n3,0,none⟩=some (.int .i64 b0):=Za A3 rfl
 have z0:w1.frozen? ⟨n3,0,none⟩=false:=Zb A3
 have y1:w1.cell? ⟨n3,1,none⟩=some (.int .i64 b1):=Za A3 rfl
 have z1:w1.frozen? ⟨n3,1,none⟩=false:=Zb A3
 have y2:w1.cell? ⟨n3,2,none⟩=some (.int .i64 b2):=Za A3 rfl
 have z2:w1.frozen? ⟨n3,2,none⟩=false:=Zb A3
 have y13:w1.cell? ⟨n3,13,none⟩=some (.int .i64 b13):=Za A3 rfl
 have z13:w1.frozen? ⟨n3,13,none⟩=false:=Zb A3
 have y14:w1.cell? ⟨n3,14,none⟩=some (.int .i64 b14):=Za A3 rfl
 have z14:w1.frozen? ⟨n3,14,none⟩=false:=Zb A3
 have y16:w1.cell? ⟨n3,16,none⟩=some (.int .i64 b16):=Za A3 rfl
 have z16:w1.frozen? ⟨n3,16,none⟩=false:=Zb A3
 have y17:w1.cell? ⟨n3,17,none⟩=some (.int .i64 b17):=Za A3 rfl
 have z17:w1.frozen? ⟨n3,17,none⟩=false:=Zb A3
 have y18:w1.cell? ⟨n3,18,none⟩=some (.int .i64 b18):=Za A3 rfl
 have z18:w1.frozen? ⟨n3,18,none⟩=false:=Zb A3
 have l2:=lt_of_block A2
 have l3:=lt_of_block A3
 have l4:=lt_of_block A4
 have h23:n2≠n3:=by omega
 have h32:n3≠n2:=by omega
 have H34:=Zh_ (show n3≠n4 by omega)
 have H23:=Zh_ h23
 have HA2:=Zh_ A2
 have HA3:=Zh_ A3
 have HA4:=Zh_ A4
 have HM:=Zh_ M1
 have HN2:=Zh_ (show w.heap.size≤n2 by omega)
 have HN3:=Zh_ (show w.heap.size≤n3 by omega)
 have HN4:=Zh_ (show w.heap.size≤n4 by omega)
 clear A2 A3 A4 M1 hn2 hn3 hn4 hw1
 go_region
 go_upto_region 2 with fail
 have m2:Ze [n3] w1 (((w1.setCell ⟨n3,0,none⟩ (.int .i64 a0)).setCell ⟨n3,1,none⟩ (.int .i64 a1)).setCell ⟨n3,2,none⟩ (.int .i64 a2)):=(((Zr_ _ _).setCell _ _ (.inl (by simp))).setCell _ _ (.inl (by simp))).setCell _ _ (.inl (by simp))
 have A3:(((w1.setCell ⟨n3,0,none⟩ (.int .i64 a0)).setCell ⟨n3,1,none⟩ (.int .i64 a1)).setCell ⟨n3,2,none⟩ (.int .i64 a2)).heap[n3]? =some (.cells #[.int .i64 a0,.int .i64 a1,.int .i64 a2,.int .i64 b3,b4,.int .i64 b5,.int .i64 b6,b7,b8,b9,.int .i64 b10,.int .i64 b11,.int .i64 b12,.int .i64 b13,.int .i64 b14,.int .i64 b15,.int .i64 b16,.int .i64 b17,.int .i64 b18] 50 (0,0)):=Zd _ (Zd _ (Zd _ HA3.out))
 have A2:=m2.at HA2.out (by simpa using H23.out)
 have A4:=m2.at HA4.out (by simpa using Ne.symm H34.out)
 have HM2:=Zh_ m2
 clear m2 x0 y0 z0 x1 y1 z1 x2 y2 z2 x13 y13 z13 x14 y14 z14 x16 y16 z16 x17 y17 z17 x18 y18 z18 l2 l3 l4
 generalize ((w1.setCell ⟨n3,0,none⟩ (.int .i64 a0)).setCell ⟨n3,1,none⟩ (.int .i64 a1)).setCell ⟨n3,2,none⟩ (.int .i64 a2)=w2 at *
 have x13:w2.cell? ⟨n2,13,none⟩=some (.int .i64 a13):=Za A2 rfl
 have x14:w2.cell? ⟨n2,14,none⟩=some (.int .i64 a14):=Za A2 rfl
 have x16:w2.cell? ⟨n2,16,none⟩=some (.int .i64 a16):=Za A2 rfl
 have x17:w2.cell? ⟨n2,17,none⟩=some (.int .i64 a17):=Za A2 rfl
 have x18:w2.cell? ⟨n2,18,none⟩=some (.int .i64 a18):=Za A2 rfl
 have y13:w2.cell? ⟨n3,13,none⟩=some (.int .i64 b13):=Za A3 rfl
 have z13:w2.frozen? ⟨n3,13,none⟩=false:=Zb A3
 have y14:w2.cell? ⟨n3,14,none⟩=some (.int .i64 b14):=Za A3 rfl
 have z14:w2.frozen? ⟨n3,14,none⟩=false:=Zb A3
 have y16:w2.cell? ⟨n3,16,none⟩=some (.int .i64 b16):=Za A3 rfl
 have z16:w2.frozen? ⟨n3,16,none⟩=false:=Zb A3
 have y17:w2.cell? ⟨n3,17,none⟩=some (.int .i64 b17):=Za A3 rfl
 have z17:w2.frozen? ⟨n3,17,none⟩=false:=Zb A3
 have y18:w2.cell? ⟨n3,18,none⟩=some (.int .i64 b18):=Za A3 rfl
 have z18:w2.frozen? ⟨n3,18,none⟩=false:=Zb A3
 have l2:=lt_of_block A2
 have l3:=lt_of_block A3
 have l4:=lt_of_block A4
 have HB2:=Zh_ A2
 have HB3:=Zh_ A3
 have HB4:=Zh_ A4
 clear A2 A3 A4
 go_region
 go_upto_region 3 with fail
 have m3:Ze [n3] w2 (((((w2.setCell ⟨n3,13,none⟩ (.int .i64 a13)).setCell ⟨n3,14,none⟩ (.int .i64 a14)).setCell ⟨n3,16,none⟩ (.int .i64 a16)).setCell ⟨n3,17,none⟩ (.int .i64 a17)).setCell ⟨n3,18,none⟩ (.int .i64 a18)):=(((((Zr_ _ _).setCell _ _ (.inl (by simp))).setCell _ _ (.inl (by simp))).setCell _ _ (.inl (by simp))).setCell _ _ (.inl (by simp))).setCell _ _ (.inl (by simp))
 have K3:(((((w2.setCell ⟨n3,13,none⟩ (.int .i64 a13)).setCell ⟨n3,14,none⟩ (.int .i64 a14)).setCell ⟨n3,16,none⟩ (.int .i64 a16)).setCell ⟨n3,17,none⟩ (.int .i64 a17)).setCell ⟨n3,18,none⟩ (.int .i64 a18)).heap[n3]? =some (.cells #[.int .i64 a0,.int .i64 a1,.int .i64 a2,.int .i64 b3,b4,.int .i64 b5,.int .i64 b6,b7,b8,b9,.int .i64 b10,.int .i64 b11,.int .i64 b12,.int .i64 a13,.int .i64 a14,.int .i64 b15,.int .i64 a16,.int .i64 a17,.int .i64 a18] 50 (0,0)):=Zd _ (Zd _ (Zd _ (Zd _ (Zd _ HB3.out))))
 have K4:=m3.at HB4.out (by simpa using Ne.symm H34.out)
 generalize ((((w2.setCell ⟨n3,13,none⟩ (.int .i64 a13)).setCell ⟨n3,14,none⟩ (.int .i64 a14)).setCell ⟨n3,16,none⟩ (.int .i64 a16)).setCell ⟨n3,17,none⟩ (.int .i64 a17)).setCell ⟨n3,18,none⟩ (.int .i64 a18)=w3 at *
 have K3:w3.drew.drew.heap[n3]? =some (.cells #[.int .i64 a0,.int .i64 a1,.int .i64 a2,.int .i64 b3,b4,.int .i64 b5,.int .i64 b6,b7,b8,b9,.int .i64 b10,.int .i64 b11,.int .i64 b12,.int .i64 a13,.int .i64 a14,.int .i64 b15,.int .i64 a16,.int .i64 a17,.int .i64 a18] 50 (0,0)):=K3
 have K4:w3.drew.drew.heap[n4]? =some (.cells #[.int .i64 0,.int .i64 0,.int .i64 0,.int .i64 0,.slice none 0 0,.int .i64 0,.int .i64 0,.slice none 0 0,.slice none 0 0,.slice none 0 0,.int .i64 0,.int .i64 0,.int .i64 0,.int .i64 0,.int .i64 0,.int .i64 0,.int .i64 0,.int .i64 0,.int .i64 0] 50 (0,0)):=K4
 have M4:Ze [] w w3.drew.drew:=(HM.out.then HM2.out (fun k hk=>.inr (by simp at hk;subst hk;exact HN3.out))).then ((m3.drew).drew) (fun k hk=>.inr (by simp at hk;subst hk;exact HN3.out))
 have HM4:=Zh_ M4
 have HK3:=Zh_ K3
 have HK4:=Zh_ K4
 clear M4 K3 K4 m3
 generalize w3.drew.drew=w4 at *
 refine wp_region_lit ?_
 refine wpList_load_row rfl 50 _ rfl n3 rfl 50 #[.int .i64 a0,.int .i64 a1,.int .i64 a2,.int .i64 b3,b4,.int .i64 b5,.int .i64 b6,b7,b8,b9,.int .i64 b10,.int .i64 b11,.int .i64 b12,.int .i64 a13,.int .i64 a14,.int .i64 b15,.int .i64 a16,.int .i64 a17,.int .i64 a18] (0,0) _ HK3.out underlying50 rfl (by kernel_rfl) ?_
 refine wpList_store_row rfl 50 _ _ rfl n4 #[.int .i64 a0,.int .i64 a1,.int .i64 a2,.int .i64 b3,b4,.int .i64 b5,.int .i64 b6,b7,b8,b9,.int .i64 b10,.int .i64 b11,.int .i64 b12,.int .i64 a13,.int .i64 a14,.int .i64 b15,.int .i64 a16,.int .i64 a17,.int .i64 a18] rfl rfl 50 _ HK4.out (by kernel_rfl) rfl ONE.out ?_
 go_wp2_with fail
 refine bodyPost_ret (v:=.agg #[.int .i64 a0,.int .i64 a1,.int .i64 a2,.int .i64 b3,b4,.int .i64 b5,.int .i64 b6,b7,b8,b9,.int .i64 b10,.int .i64 b11,.int .i64 b12,.int .i64 a13,.int .i64 a14,.int .i64 b15,.int .i64 a16,.int .i64 a17,.int .i64 a18]) (results_cell_row (P:=Tryz.prog) (fn:=Tryz.f25) (p:=4) (ty:=50) rfl _ _ n4 50 _ (0,0) _ rfl (Yo HK4.out) underlying50 rfl (by kernel_rfl)) rfl ?_
 exact ⟨rfl,HM4.out.setRow _ _ (.inr HN4.out)⟩
def DX.join (d:DX) (told:DX):DX:={told with ah:=d.ah,fr:=d.fr,til:=d.til}
theorem Md (d told:Z2) (x y:DX) (o4:y.va.oneCell'=true) (o7:y.vr.oneCell'=true) (o8:y.vw.oneCell'=true) (o9:y.vo.oneCell'=true) (w:World):
  Calls Tryz.prog 25 #[.agg (Z3 d x).toArray,.agg (Z3 told y).toArray] w (fun e w'=>e=.returned (.agg (Z3 (d.join told) (x.join y)).toArray)∧Ze [] w w'):=
 joined_t _ _ _ _ _ _ _ _ _ _ _ _ _ _ _ _ _ _ _ _ _ _ _ _ _ _ _ _ _ _ _ _ _ _ _ _ _ _ o4 o7 o8 o9 w
end
end Go.Proofs.YtkhonmhnchdpkaaGreat

/- A part of the proof; no condition. -/
import Derived.Test.YtkhonmhnchdpkaaGreatB17
set_option maxRecDepth 100000
set_option maxHeartbeats 40000000
namespace Go.Proofs.YtkhonmhnchdpkaaGreat
open Go.RowKit _root_.Go.Proofs.Tryz
open Go renaming World→W
open Value renaming int→U,pointer→E,slice→L,agg→A9,agg→A_
open IntKind renaming i64→Y,u64→Y_
open Obj renaming cells→X
open Option renaming some→I,none→O
open Ending renaming returned→R_
open _root_.Go.Proofs.Tryz renaming prog→N
section
section
variable {P:Program} {ops:Array Oper} {n i m:Nat} {o:Oper} {a0:Act} {R:W->W->Prop} {wd:W} {F:Nat->Value->W->Prop}
theorem Bx {listed:Array Bool} (h:∀ j,j < ops.size->listed.getD j false=true) (hs:listed.size=ops.size):Region.ready .any ops listed=[]:=by
 rw [List.eq_nil_iff_forall_not_mem];intro j hj;obtain ⟨hl,o,ho,_⟩:=mem_ready.1 hj;have hlt:=(Array.getElem?_eq_some_iff.1 ho).1;have:=h j hlt;have hj':j < listed.size:=by omega
 simp [hj'] at hl this;rw [hl] at this;cases this
theorem Inv.whole (hreg:U6 ops a0.tmps.size=true) (hF:∀ i v w w',F i v w->R w w'->F i v w') (htr:∀ a b c,R a b->R b c->R a c) {Q:Exit->Act->W->Prop} (hops:∀ i o,i < ops.size->ops[i]? =I o->OpS P ops a0 R wd F i o) (hskip:∀ i v w',F i v w'->∀ o,ops[i]? =I o->o.dst=O->F i undef w')
  (hend:∀ a w' listed,Inv ops a0 R wd F listed a w'->(∀ j,j < ops.size->listed.getD j false=true)->Q .normal a w'):∀ (fuel:Nat) (listed:Array Bool) (a:Act) (wx:W),(∀ n,n=(List.range ops.size).countP (λ i=>!listed.getD i true)->n<=fuel)->Inv ops a0 R wd F listed a wx->wpAny P .any ops Q fuel listed a wx
 |0,listed,a,wx,hn,h=>by
  have h0:=hn _ J;have hz:(List.range ops.size).countP (λ i=>!listed.getD i true)=0:=by omega
  rw [List.countP_eq_zero] at hz;have hall:∀ j,j < ops.size->listed.getD j false=true:=by
   intro j hj;have:=hz j (by rw [List.mem_range];exact hj);have hj':j < listed.size:=by rw [h.sz];exact hj
   simp [hj'] at this ⊢
   exact this
  exact ⟨Bx hall h.sz,hend a wx listed h hall⟩
 |fuel+1,listed,a,wx,hn,h=>by
  refine ⟨λ hr=>hend a wx listed h (Kj hreg h.sz hr),λ i hi=>?_⟩;have him:i < ops.size:=(Array.getElem?_eq_some_iff.1 (mem_ready.1 hi).2.choose_spec.1).1;refine h.run hreg hF htr hops him hi (λ a' w' h'=>Inv.whole hreg hF htr hops hskip hend fuel _ a' w' ?_ h') hskip;intro n hn';obtain ⟨hl,o,ho,_⟩:=mem_ready.1 hi;have h1:=hn _ J;have:(List.range ops.size).countP (λ j=>!(listed.setIfInBounds i true).getD j true)+1<=(List.range ops.size).countP (λ j=>!listed.getD j true):=by
   have key:∀ l:List Nat,l.Nodup->i∈l->l.countP (λ j=>!(listed.setIfInBounds i true).getD j true)+1<=l.countP (λ j=>!listed.getD j true):=by
    intro l
    induction l with
    |nil=>intro _ hm;cases hm
    |cons x l ih=>
     intro hnd hm;rw [List.nodup_cons] at hnd;rw [List.countP_cons,List.countP_cons];rcases List.mem_cons.1 hm with rfl|hm
     ·have e1:(!(listed.setIfInBounds i true).getD i true)=false:=by
       simp [Array.getElem?_setIfInBounds];split <;> rfl
      have e2:(!listed.getD i true)=true:=by rw [hl];rfl
      rw [e1,e2];have:l.countP (λ j=>!(listed.setIfInBounds i true).getD j true)<=l.countP (λ j=>!listed.getD j true):=by
       refine List.countP_mono_left (λ y hy=>?_);have hne:i≠y:=λ e=>hnd.1 (e ▸ hy);simp [hne]
      rw [Q9 (by decide),P9 rfl];omega
     ·have hne:i≠x:=λ e=>hnd.1 (e ▸ hm);have e1:(!(listed.setIfInBounds i true).getD x true)=!listed.getD x true:=by simp [hne]
      rw [e1];have:=ih hnd.2 hm;omega
   exact key _ List.nodup_range (List.mem_range.2 him)
  omega
theorem Jr {id:Nat} {Q:Exit->Act->W->Prop} {w:W} (hm:P.follows .mixedOrders=true) (m:Nat) (R:W->W->Prop) (F:Nat->Value->W->Prop)
  (hreg:U6 ops a0.tmps.size=true) (hsz:ops.size=m) (hF:∀ i v w w',F i v w->R w w'->F i v w') (hrf:∀ a,R a a) (htr:∀ a b c,R a b->R b c->R a c)
  (hskip:∀ i v w',F i v w'->∀ o,ops[i]? =I o->o.dst=O->F i undef w')
  (hops:∀ i o,i < m->ops[i]? =I o->OpS P ops a0 R w.drew F i o)
  (hend:∀ (vs:Nat->Value) w',R w.drew w'->(∀ i,i < m->F i (vs i) w')->Q .normal (Yx a0 vs ops.toList 0) w'):(Code.region id ops true).wp P Q a0 w:=by
 subst hsz;refine wp_region_any hm (Inv.whole hreg hF htr hops hskip ?_ ops.size _ a0 _ ?_ ⟨by simp,hrf _,rfl,rfl,λ _ _=>J,λ j oj hj hl=>?_,λ j oj hj hl=>?_⟩)
 ·intro a w' listed h hall
  let vs:Nat->Value:=λ i=>match (ops[i]?).bind (·.dst) with|none=>undef|some d=>a.tmps.getD d undef
  have e:a=Yx a0 vs ops.toList 0:=by
   have hsz':a.tmps.size=(Yx a0 vs ops.toList 0).tmps.size:=by rw [U3];exact h.yb
   have ht:a.tmps=(Yx a0 vs ops.toList 0).tmps:=by
    refine Array.ext hsz' (λ k hk1 hk2=>?_);have g1:a.tmps.getD k undef=a.tmps[k]:=by simp [hk1]
    have g2:(Yx a0 vs ops.toList 0).tmps.getD k undef=(Yx a0 vs ops.toList 0).tmps[k]:=by simp [hk2]
    rw [<-g1,<-g2]
    by_cases hex:∃ (j:Nat) (oj:Oper),ops[j]? =I oj/\oj.dst=I k
    ·obtain ⟨j,oj,hj,hd⟩:=hex;rw [Gq vs k ops.toList 0 a0 j oj (by simpa using hj) hd (by rw [<-h.yb];exact hk1) (λ j' o' hj' hne hd'=>by
      have hj2:ops[j']? =I o':=by simpa using hj'
      exact (Qq9 (Vv hreg hj)).wg j' o' k hj2 hd' (Ne.symm hne) hd)]
     show _=(match (ops[0+j]?).bind (·.dst) with|none=>undef|some d=>a.tmps.getD d undef);rw [Nat.zero_add,hj];simp [hd]
    ·rw [U7 vs k ops.toList 0 a0 (λ o ho hd=>by
      obtain ⟨j,hj⟩:=List.getElem?_of_mem ho;exact hex ⟨j,o,by simpa using hj,hd⟩)]
     exact h.out k (λ j oj hj hd=>absurd ⟨j,oj,hj,hd⟩ hex)
   have hd:a.defers=(Yx a0 vs ops.toList 0).defers:=by rw [Vr];exact h.og
   cases a
   cases hp:Yx a0 vs ops.toList 0
   rw [hp] at ht hd;simp only at ht hd;rw [ht,hd]
  rw [e];refine hend vs w' h.cls (λ i hi=>?_);have hoi:ops[i]? =I ops[i]:=by simp [hi]
  have:=h.ub i _ hoi (hall i hi);show F i (match (ops[i]?).bind (·.dst) with|none=>undef|some d=>a.tmps.getD d undef) w';rw [hoi];simp only [Option.bind_some];cases hd:ops[i].dst with
  |none=>rw [hd] at this;exact this
  |some d=>rw [hd] at this;exact this
 ·intro k hk;rw [hk];refine Nat.le_trans List.countP_le_length (by simp)
 ·have hlt:=(Array.getElem?_eq_some_iff.1 hj).1;simp [hlt] at hl
 ·have hlt:=(Array.getElem?_eq_some_iff.1 hj).1;simp [hlt] at hl
end
end
section
variable {w0 w w' w1:W} {lab lab' lab1:Nat->Nat} {P P':EP} {s s':Zn} {t:Nat} {S qJ:List Nat}
theorem Sx (v:Value) (w:W):(method 393 140 v "Step").run N w=.ok (229,v) w:=by kernel_rfl
theorem Sw (v:Value) (w:W):(method 393 142 v "Step").run N w=.ok (234,v) w:=by kernel_rfl
theorem Nv (v:Value) (w:W):(method 393 140 v "Deed").run N w=.ok (227,v) w:=by kernel_rfl
theorem Sy (v:Value) (w:W):(method 393 142 v "Deed").run N w=.ok (232,v) w:=by kernel_rfl
theorem ta140 (u:Value) (w:W):(Instr.typeAssert (.iface 140 u) 85 140 true).run N w=.ok (.tuple #[u,.bool true]) w:=by kernel_rfl
theorem ta142 (u:Value) (w:W):(Instr.typeAssert (.iface 142 u) 85 140 true).run N w=.ok (.tuple #[E O,.bool false]) w:=by kernel_rfl
theorem drew_rd {x k:Nat} {vc u:Value} {begun:Nat} {ai:Int} (K:w.heap[k]? =I (.cells (Qp vc begun (.iface 142 u) ai) 87 (0,0))):
  Calls N 46 #[E (I ⟨x,0,O⟩),E (I ⟨k,0,O⟩)] w λ e w'=>e=R_ (.tuple #[])/\Ze [] w w':=by
 have k2:w.cell? ⟨k,2,O⟩=I (.iface 142 u):=Za K J;have hta:=ta142;go_enter func46,ntmps46;go_wp2_with fail;go_end0;exact ⟨J,Zr_ _ _⟩
theorem ahead_q {a b:Nat} {s:Zh} {w:W} (hM:Zj 137 w a b s) (p0 p1 p2 p3 p4 p5 qc:Int):
  Calls N 67 #[E (I ⟨a,0,O⟩),A_ #[U Y p0,U Y p1,U Y p2,U Y p3,U Y p4,U Y p5],U Y_ qc] w λ e w'=>e=R_ (.tuple #[U Y (s.ahead p1 qc),U Y (s.bad p1)])/\Ze [] w w':=by
 by_cases hbad:s.bad p1=0
 ·by_cases hle:qc<=s.xh p1
  ·have hres:s.ahead p1 qc=0:=by unfold Zh.ahead;rw [P9 hbad,P9 hle]
   have Hres:=Zh_ hres;clear hres;go_enter func67,ntmps67;go_wp2_with (first|(go_at_call 32;refine (Jo (((hM.alloc _).alloc _).alloc _) _).mono ?_;rintro e w1 ⟨rfl,rfl⟩)|go_in)
   go_ret2;exact ⟨by simp [hbad,Hres.out],(by repeat (first|with_reducible exact Zr_ _ _|with_reducible assumption|with_reducible refine Ze.alloc ?_ _))⟩
  ·obtain ⟨t,ht⟩:∃ t,t=IntKind.u64.wrap (qc - s.xh p1):=⟨_,J⟩;have ht0:0<=t:=by rw [ht];exact Pv _
   have hsub:IntKind.u64.wrap (qc - s.xh p1)=t:=ht.symm;clear ht
   by_cases hbig:t<=2147483647
   ·have hres:s.ahead p1 qc=t:=by unfold Zh.ahead;rw [P9 hbad,Q9 hle,hsub,P9 hbig]
    have Hres:=Zh_ hres;clear hres;go_enter func67,ntmps67;go_wp2_with (first|(go_at_call 32;refine (Jo (((hM.alloc _).alloc _).alloc _) _).mono ?_;rintro e w1 ⟨rfl,rfl⟩)|go_in)
    go_ret2;exact ⟨by simp [hbad,Hres.out],(by repeat (first|with_reducible exact Zr_ _ _|with_reducible assumption|with_reducible refine Ze.alloc ?_ _))⟩
   ·have hres:s.ahead p1 qc=2147483647:=by unfold Zh.ahead;rw [P9 hbad,Q9 hle,hsub,Q9 hbig]
    have Hres:=Zh_ hres;clear hres;go_enter func67,ntmps67;go_wp2_with (first|(go_at_call 32;refine (Jo (((hM.alloc _).alloc _).alloc _) _).mono ?_;rintro e w1 ⟨rfl,rfl⟩)|go_in)
    go_ret2;exact ⟨by simp [hbad,Hres.out],(by repeat (first|with_reducible exact Zr_ _ _|with_reducible assumption|with_reducible refine Ze.alloc ?_ _))⟩
 ·have hz:(s.bad p1==0)=false:=by simp [hbad]
  have hz2:(s.bad p1 !=0)=true:=by simp [hbad]
  have hres:s.ahead p1 qc=0:=by unfold Zh.ahead;rw [Q9 hbad]
  have Hres:=Zh_ hres;clear hres;clear hbad;go_enter func67,ntmps67;go_wp2_with (first|(go_at_call 32;refine (Jo (((hM.alloc _).alloc _).alloc _) _).mono ?_;rintro e w1 ⟨rfl,rfl⟩)|go_in)
  all_goals
   go_ret2;exact ⟨by simp [Hres.out],(by repeat (first|with_reducible exact Zr_ _ _|with_reducible assumption|with_reducible refine Ze.alloc ?_ _))⟩
def W7 (x ma k qk:Nat) (q4 q5 tag mark num qq ec ee:Int):Nat->Value->W->Prop
 |0,v,_=>v=E (I ⟨x,0,O⟩)
 |1,v,_=>v=E (I ⟨x,0,O⟩)
 |2,v,_=>v=E (I ⟨x,11,O⟩)
 |3,v,_=>v=E (I ⟨ma,0,O⟩)
 |4,v,_=>v=E (I ⟨x,0,O⟩)
 |5,v,_=>v=E (I ⟨x,0,O⟩)
 |6,v,_=>v=E (I ⟨x,5,O⟩)
 |7,v,_=>v=A_ #[U Y 0,U Y 1,U Y 2,U Y 3,U Y q4,U Y q5]
 |8,v,_=>v=E (I ⟨k,0,O⟩)
 |9,v,_=>v=E (I ⟨k,0,O⟩)
 |10,v,_=>v=E (I ⟨k,2,O⟩)
 |11,v,_=>v=.iface 140 (E (I ⟨qk,0,O⟩))
 |12,v,_=>∃ st va vr vw vo,v=.agg (Qk tag mark num st qq ec ee va vr vw vo)
 |13,v,_=>v=U Y mark
 |14,v,_=>v=U Y_ (IntKind.u64.wrap mark)
 |15,v,_=>∃ n e,v=.tuple #[U Y n,U Y e]
 |16,v,_=>∃ n e,v=.tuple #[U Y n,U Y e]
 |17,v,_=>∃ n,v=U Y n
 |18,v,_=>∃ n,v=U Y n
 |19,v,_=>∃ n,v=U Y n
 |20,v,_=>∃ n,v=U Y n
 |_,_,_=>True
theorem drewF_on (x ma k qk:Nat) (q4 q5 tag mark num qq ec ee:Int) (i:Nat) (v:Value) (w w':W) (h:W7 x ma k qk q4 q5 tag mark num qq ec ee i v w) (_:Ze [] w w'):W7 x ma k qk q4 q5 tag mark num qq ec ee i v w':=by
 match i,h with
 |0,h=>exact h
 |1,h=>exact h
 |2,h=>exact h
 |3,h=>exact h
 |4,h=>exact h
 |5,h=>exact h
 |6,h=>exact h
 |7,h=>exact h
 |8,h=>exact h
 |9,h=>exact h
 |10,h=>exact h
 |11,h=>exact h
 |12,h=>exact h
 |13,h=>exact h
 |14,h=>exact h
 |15,h=>exact h
 |16,h=>exact h
 |17,h=>exact h
 |18,h=>exact h
 |19,h=>exact h
 |20,h=>exact h
 |i+21,h=>trivial
theorem Ij (x ma k qk:Nat) (q4 q5 tag mark num qq ec ee:Int) (i:Nat) (h:21<=i) (v:Value) (w:W):W7 x ma k qk q4 q5 tag mark num qq ec ee i v w:=by
 match i,h with
 |j+21,_=>trivial
theorem drew_wr {x ma mb k r tg tc dg dc nd i:Nat} {c0 c1 c2 c3 q4 q5 st ai ah:Int} {vp vc:Value} {begun ntn:Nat} {q:WP} {y:Zv} {s:Zh}
 (qW:w.heap[x]? =I (X #[U Y c0,U Y c1,U Y c2,U Y c3,vp,U Y 0,U Y 1,U Y 2,U Y 3,U Y q4,U Y q5,E (I ⟨ma,0,O⟩),E (I ⟨r,0,O⟩),L (I ⟨tg,0,O⟩) ntn tc,L (I ⟨dg,0,O⟩) nd dc,U Y st] 79 (0,0)))
 (K:w.heap[k]? =I (X #[vc,U Y begun,.iface 140 (E (I ⟨q.k,0,O⟩)),U Y ai] 87 (0,0)))
 (hq:Zz w q y) (ok:Ym y.m) (hal:y.args.length<=4096) (hM:Zj 137 w ma mb s) (hai:ai=i) (hi:i < nd) (hdl:dg < w.heap.size)
 (hc:w.cell? ⟨dg,i * 19+16,O⟩=I (U Y ah)) (hf:w.frozen? ⟨dg,i * 19+16,O⟩=false):
 Calls N 46 #[E (I ⟨x,0,O⟩),E (I ⟨k,0,O⟩)] w λ e w'=>e=R_ (.tuple #[])/\∃ w1 n,Ze [] w w1/\w'=w1.setCell ⟨dg,i * 19+16,O⟩ (U Y n):=by
 have hta:=ta140;have k2:w.cell? ⟨k,2,O⟩=I (.iface 140 (E (I ⟨q.k,0,O⟩))):=Za K J;subst hai;obtain ⟨qk,hqk⟩:∃ z,z=q.k:=⟨_,J⟩;rw [<-hqk] at K k2;have HK:=Zh_ (show ∀ wx,Ze [] w.drew wx->wx.heap[x]? =I (X #[U Y c0,U Y c1,U Y c2,U Y c3,vp,U Y 0,U Y 1,U Y 2,U Y 3,U Y q4,U Y q5,E (I ⟨ma,0,O⟩),E (I ⟨r,0,O⟩),L (I ⟨tg,0,O⟩) ntn tc,L (I ⟨dg,0,O⟩) nd dc,U Y st] 79 (0,0))/\wx.heap[k]? =I (X #[vc,U Y begun,.iface 140 (E (I ⟨qk,0,O⟩)),U Y i] 87 (0,0)) from
  λ wx hR=>⟨(((Zr_ _ w).drew).trans hR).at qW (by simp),(((Zr_ _ w).drew).trans hR).at K (by simp)⟩)
 obtain ⟨tag,htag⟩:∃ z,z=y.told.tag:=⟨_,J⟩;obtain ⟨mark,hmark⟩:∃ z,z=y.told.mark:=⟨_,J⟩;obtain ⟨num,hnum⟩:∃ z,z=y.told.number:=⟨_,J⟩;obtain ⟨qq,hhow⟩:∃ z,z=y.told.qq:=⟨_,J⟩;obtain ⟨ec,hec⟩:∃ z,z=y.told.qn:=⟨_,J⟩;obtain ⟨ee,hee⟩:∃ z,z=y.told.zd:=⟨_,J⟩;have HD:=Zh_ (show ∀ wx,Ze [] w.drew wx->Calls N 227 #[E (I ⟨qk,0,O⟩)] wx (λ e w'=>∃ st va vr vw vo,e=R_ (.agg (Qk tag mark num st qq ec ee va vr vw vo))/\Ze [] wx w') from
  λ wx hR=>by
   rw [hqk,htag,hmark,hnum,hhow,hec,hee];refine (A9 (hq.mod (((Zr_ _ w).drew).trans hR) (by simp)) ok hal).mono ?_;rintro e w' ⟨st,va,vr,vw,vo,rfl,_,_,_,_,M⟩;exact ⟨st,va,vr,vw,vo,J,M⟩)
 have HA:=Zh_ (λ (wx:W) (hR:Ze [] w.drew wx)=>ahead_q (hM.mod (((Zr_ _ w).drew).trans hR) (by simp) (by simp)) 0 1 2 3 q4 q5 (IntKind.u64.wrap mark));have HCF:=Zh_ (show ∀ wx,Ze [] w.drew wx->wx.cell? ⟨dg,i * 19+16,O⟩=I (U Y ah)/\wx.frozen? ⟨dg,i * 19+16,O⟩=false/\dg < wx.heap.size from
  λ wx hR=>by
   have m:Ze [] w wx:=((Zr_ _ w).drew).trans hR;refine ⟨Z5 m hdl (by simp) hc,?_,Nat.lt_of_lt_of_le hdl m.size⟩;have hb:=m.block dg hdl (by simp);unfold World.frozen? at hf ⊢
   rw [hb];exact hf)
 have HI:=Zh_ hi;clear hqk htag hmark hnum hhow hec hee qW K hq ok hal hM hc hf hdl;go_enter func46,ntmps46;go_upto_region 2 with fail;refine Jr (by kernel_rfl) 21 (λ x y=>Ze [] x y) (W7 x ma k qk q4 q5 tag mark num qq ec ee) (by kernel_rfl) (by rfl) (drewF_on x ma k qk q4 q5 tag mark num qq ec ee) (λ a=>Zr_ _ _) (λ a b c h k=>h.trans k) (λ i v w' hv o ho hd=>Vi (m:=21) (by kernel_rfl) (Ij x ma k qk q4 q5 tag mark num qq ec ee) ho hd) ?_ ?_
 ·intro i o hi ho
  match i,hi with
  |0,_=>obtain rfl:=Zo_ ho;intro a wx hR hF hO;have e0:=To_ hO 0 (E (I ⟨x,0,O⟩));clear hF hO;go_simp;exact ⟨Zr_ _ _,J⟩
  |1,_=>obtain rfl:=Zo_ ho;intro a wx hR hF hO;have e18:=Tf_ hF 18 0 (E (I ⟨x,0,O⟩));clear hF hO;go_simp;exact ⟨Zr_ _ _,J⟩
  |2,_=>obtain rfl:=Zo_ ho;intro a wx hR hF hO;have e19:=Tf_ hF 19 1 (E (I ⟨x,0,O⟩));clear hF hO;go_simp;exact ⟨Zr_ _ _,J⟩
  |3,_=>obtain rfl:=Zo_ ho;intro a wx hR hF hO;have e20:=Tf_ hF 20 2 (E (I ⟨x,11,O⟩));clear hF hO;obtain ⟨cx,ck⟩:=HK.out wx hR;have c11:=Za (i:=11) cx J;go_simp;exact ⟨Zr_ _ _,J⟩
  |4,_=>obtain rfl:=Zo_ ho;intro a wx hR hF hO;have e0:=To_ hO 0 (E (I ⟨x,0,O⟩));clear hF hO;go_simp;exact ⟨Zr_ _ _,J⟩
  |5,_=>obtain rfl:=Zo_ ho;intro a wx hR hF hO;have e22:=Tf_ hF 22 4 (E (I ⟨x,0,O⟩));clear hF hO;go_simp;exact ⟨Zr_ _ _,J⟩
  |6,_=>obtain rfl:=Zo_ ho;intro a wx hR hF hO;have e23:=Tf_ hF 23 5 (E (I ⟨x,0,O⟩));clear hF hO;go_simp;exact ⟨Zr_ _ _,J⟩
  |7,_=>obtain rfl:=Zo_ ho;intro a wx hR hF hO;have e24:=Tf_ hF 24 6 (E (I ⟨x,5,O⟩));clear hF hO;obtain ⟨cx,ck⟩:=HK.out wx hR;have c5:=Za (i:=5) cx J;have c6:=Za (i:=6) cx J;have c7:=Za (i:=7) cx J;have c8:=Za (i:=8) cx J;have c9:=Za (i:=9) cx J;have c10:=Za (i:=10) cx J;go_simp;exact ⟨Zr_ _ _,J⟩
  |8,_=>obtain rfl:=Zo_ ho;intro a wx hR hF hO;have e1:=To_ hO 1 (E (I ⟨k,0,O⟩));clear hF hO;go_simp;exact ⟨Zr_ _ _,J⟩
  |9,_=>obtain rfl:=Zo_ ho;intro a wx hR hF hO;have e26:=Tf_ hF 26 8 (E (I ⟨k,0,O⟩));clear hF hO;go_simp;exact ⟨Zr_ _ _,J⟩
  |10,_=>obtain rfl:=Zo_ ho;intro a wx hR hF hO;have e27:=Tf_ hF 27 9 (E (I ⟨k,0,O⟩));clear hF hO;go_simp;exact ⟨Zr_ _ _,J⟩
  |11,_=>obtain rfl:=Zo_ ho;intro a wx hR hF hO;have e28:=Tf_ hF 28 10 (E (I ⟨k,2,O⟩));clear hF hO;obtain ⟨cx,ck⟩:=HK.out wx hR;have c2:=Za (i:=2) ck J;go_simp;exact ⟨Zr_ _ _,J⟩
  |12,_=>obtain rfl:=Zo_ ho;intro a wx hR hF hO;have e29:=Tf_ hF 29 11 (.iface 140 (E (I ⟨qk,0,O⟩)));clear hF hO;have hme:=Nv;go_simp;refine Calls.mono (HD.out wx hR) ?_;rintro e w' ⟨st,va,vr,vw,vo,rfl,M⟩;exact ⟨_,J,M,_,_,_,_,_,J⟩
  |13,_=>
   obtain rfl:=Zo_ ho;intro a wx hR hF hO;have e30:∃ st va vr vw vo,(a.eval (.tmp 30))=.agg (Qk tag mark num st qq ec ee va vr vw vo):=hF 30 12 _ (by kernel_rfl) J J;clear hF hO;obtain ⟨st,va,vr,vw,vo,q30⟩:=e30;replace q30:a.tmps[30]?.getD undef=_:=(show a.tmps[30]?.getD undef=a.eval (.tmp 30) by simp [Act.eval]).trans q30;have hf:∀ w:W,(Instr.field 50 (.agg (Qk tag mark num st qq ec ee va vr vw vo)) 5).run N w=.ok (U Y mark) w:=λ w=>by kernel_rfl
   go_simp;exact ⟨Zr_ _ _,J⟩
  |14,_=>obtain rfl:=Zo_ ho;intro a wx hR hF hO;have e31:=Tf_ hF 31 13 (U Y mark);clear hF hO;go_simp;exact ⟨Zr_ _ _,J⟩
  |15,_=>obtain rfl:=Zo_ ho;intro a wx hR hF hO;have e21:=Tf_ hF 21 3 (E (I ⟨ma,0,O⟩));have e25:=Tf_ hF 25 7 (A_ #[U Y 0,U Y 1,U Y 2,U Y 3,U Y q4,U Y q5]);have e32:=Tf_ hF 32 14 (U Y_ (IntKind.u64.wrap mark));clear hF hO;go_simp;refine Calls.mono (HA.out wx hR) ?_;rintro e w' ⟨rfl,M⟩;exact ⟨_,J,M,_,_,J⟩
  |16,_=>obtain rfl:=Zo_ ho;intro a wx hR hF hO;have e33:∃ n e,(a.eval (.tmp 33))=.tuple #[U Y n,U Y e]:=hF 33 15 _ (by kernel_rfl) J J;clear hF hO;obtain ⟨n,e,q33⟩:=e33;replace q33:a.tmps[33]?.getD undef=_:=(show a.tmps[33]?.getD undef=a.eval (.tmp 33) by simp [Act.eval]).trans q33;go_simp;exact ⟨Zr_ _ _,_,_,J⟩
  |17,_=>obtain rfl:=Zo_ ho;intro a wx hR hF hO;have e17:∃ n e,(a.eval (.tmp 17))=.tuple #[U Y n,U Y e]:=hF 17 16 _ (by kernel_rfl) J J;clear hF hO;obtain ⟨n,e,q17⟩:=e17;replace q17:a.tmps[17]?.getD undef=_:=(show a.tmps[17]?.getD undef=a.eval (.tmp 17) by simp [Act.eval]).trans q17;go_simp;exact ⟨Zr_ _ _,_,J⟩
  |18,_=>obtain rfl:=Zo_ ho;intro a wx hR hF hO;have e17:∃ n e,(a.eval (.tmp 17))=.tuple #[U Y n,U Y e]:=hF 17 16 _ (by kernel_rfl) J J;clear hF hO;obtain ⟨n,e,q17⟩:=e17;replace q17:a.tmps[17]?.getD undef=_:=(show a.tmps[17]?.getD undef=a.eval (.tmp 17) by simp [Act.eval]).trans q17;go_simp;exact ⟨Zr_ _ _,_,J⟩
  |19,_=>obtain rfl:=Zo_ ho;intro a wx hR hF hO;have e34:∃ n,(a.eval (.tmp 34))=U Y n:=hF 34 17 _ (by kernel_rfl) J J;clear hF hO;obtain ⟨n,q34⟩:=e34;replace q34:a.tmps[34]?.getD undef=_:=(show a.tmps[34]?.getD undef=a.eval (.tmp 34) by simp [Act.eval]).trans q34;go_simp;exact ⟨Zr_ _ _,_,J⟩
  |20,_=>obtain rfl:=Zo_ ho;intro a wx hR hF hO;have e35:∃ n,(a.eval (.tmp 35))=U Y n:=hF 35 18 _ (by kernel_rfl) J J;clear hF hO;obtain ⟨n,q35⟩:=e35;replace q35:a.tmps[35]?.getD undef=_:=(show a.tmps[35]?.getD undef=a.eval (.tmp 35) by simp [Act.eval]).trans q35;go_simp;exact ⟨Zr_ _ _,_,J⟩
  |j+21,hh=>omega
 ·intro vs w5 hR hv;obtain ⟨n,e6⟩:∃ n,vs 19=U Y n:=hv 19 (by decide);obtain ⟨X5,K5⟩:=HK.out w5 hR;obtain ⟨c5,f5,l5⟩:=HCF.out w5 hR;have x14:=Za (i:=14) X5 J;have k3:=Za (i:=3) K5 J;have hi:=HI.out;have H5:=Zh_ (((Zr_ _ w).drew).trans hR);have lx:=B9 X5;have lk:=B9 K5;clear hv hR X5 K5 k2 hta;simp only [Yx,Act.put,e6];go_simp;go_upto_region 3 with fail;go_region;go_wp2_with fail;go_end0;refine ⟨J,w5.drew,n,H5.out.drew,J⟩
end
end Go.Proofs.YtkhonmhnchdpkaaGreat

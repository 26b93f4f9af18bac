/- A part of the proof; no condition. -/
import Derived.Test.YtkhonmhnchdpkaaGreatB20
set_option maxRecDepth 100000
set_option maxHeartbeats 40000000
namespace Go.Proofs.YtkhonmhnchdpkaaGreat
open Go.RowKit _root_.Go.Proofs.Tryz
open Go renaming World→W
open Value renaming int→U,pointer→E,slice→L,float→Z,agg→A_
open IntKind renaming i64→Y
open FloatKind renaming f64→V
open Option renaming some→I,none→O
open Ending renaming returned→R9,returned→R_
open _root_.Go.Proofs.Tryz renaming prog→N
open List renaming getD_eq_getElem?_getD→G_
section
section
variable {P:Program} {ops:Array Oper} {n i m:Nat} {o:Oper} {a0:Act} {R:W->W->Prop} {Rj:Nat->W->W->Prop} {p:Nat} {Bp:W->Prop} {wd:W} {F:Nat->Value->W->Prop}
theorem Inv.yp (hreg:U6 ops a0.tmps.size=true) (hF:∀ i j v w w',i≠j->Vj ops ops.size i j=false->F i v w->Rj j w w'->F i v w') (hsub:∀ i a b,Rj i a b->R a b) (htr:∀ a b c,R a b->R b c->R a c) (hB:∀ j a b,j≠p->Rj j a b->Bp a->Bp b) {Q:Exit->Act->W->Prop} (hops:∀ i o,i < ops.size->ops[i]? =I o->OpE P ops a0 R Rj p Bp wd F i o) (hskip:∀ i v w',F i v w'->∀ o,ops[i]? =I o->o.dst=O->F i undef w')
  (hend:∀ a w' listed,Inv ops a0 R wd F listed a w'->(∀ j,j < ops.size->listed.getD j false=true)->Q .normal a w'):∀ (fuel:Nat) (listed:Array Bool) (a:Act) (wx:W),(∀ n,n=(List.range ops.size).countP (λ i=>!listed.getD i true)->n<=fuel)->(listed.getD p true=false->Bp wx)->Inv ops a0 R wd F listed a wx->wpAny P .any ops Q fuel listed a wx
 |0,listed,a,wx,hn,hb,h=>by
  have h0:=hn _ J;have hz:(List.range ops.size).countP (λ i=>!listed.getD i true)=0:=by omega
  rw [List.countP_eq_zero] at hz;have hall:∀ j,j < ops.size->listed.getD j false=true:=by
   intro j hj;have:=hz j (by rw [List.mem_range];exact hj);have hj':j < listed.size:=by rw [h.sz];exact hj
   simp [hj'] at this ⊢
   exact this
  exact ⟨Bx hall h.sz,hend a wx listed h hall⟩
 |fuel+1,listed,a,wx,hn,hb,h=>by
  refine ⟨λ hr=>hend a wx listed h (Kj hreg h.sz hr),λ i hi=>?_⟩;have him:i < ops.size:=(Array.getElem?_eq_some_iff.1 (mem_ready.1 hi).2.choose_spec.1).1;refine h.runE hreg hF hsub htr hB hops hb him hi (λ a' w' h' hb'=>Inv.yp hreg hF hsub htr hB hops hskip hend fuel _ a' w' ?_ hb' h') hskip;intro n hn';obtain ⟨hl,o,ho,_⟩:=mem_ready.1 hi;have h1:=hn _ J;have:(List.range ops.size).countP (λ j=>!(listed.setIfInBounds i true).getD j true)+1<=(List.range ops.size).countP (λ j=>!listed.getD j true):=by
   have key:∀ l:List Nat,l.Nodup->i∈l->l.countP (λ j=>!(listed.setIfInBounds i true).getD j true)+1<=l.countP (λ j=>!listed.getD j true):=by
    intro l
    induction l with
    |nil=>intro _ hm;cases hm
    |cons x l ih=>
     intro hnd hm;rw [List.nodup_cons] at hnd;rw [List.countP_cons,List.countP_cons];rcases List.mem_cons.1 hm with rfl|hm
     ·have e1:(!(listed.setIfInBounds i true).getD i true)=false:=by
       simp [Array.getElem?_setIfInBounds];split <;> rfl
      have e2:(!listed.getD i true)=true:=by rw [hl];rfl
      rw [e1,e2];have:l.countP (λ j=>!(listed.setIfInBounds i true).getD j true)<=l.countP (λ j=>!listed.getD j true):=by
       refine List.countP_mono_left (λ y hy=>?_);have hne:i≠y:=λ e=>hnd.1 (e ▸ hy);simp [hne]
      rw [Q9 (by decide),P9 rfl];omega
     ·have hne:i≠x:=λ e=>hnd.1 (e ▸ hm);have e1:(!(listed.setIfInBounds i true).getD x true)=!listed.getD x true:=by simp [hne]
      rw [e1];have:=ih hnd.2 hm;omega
   exact key _ List.nodup_range (List.mem_range.2 him)
  omega
end
section
variable {P:Program} {ops:Array Oper} {n i m:Nat} {o:Oper} {a0:Act} {F:Nat->Value->W->Prop}
theorem Px {id:Nat} {Q:Exit->Act->W->Prop} {w:W} (hm:P.follows .mixedOrders=true) (m:Nat) (R:W->W->Prop) (Rj:Nat->W->W->Prop) (p:Nat) (Bp:W->Prop) (F:Nat->Value->W->Prop)
  (hreg:U6 ops a0.tmps.size=true) (hsz:ops.size=m) (hF:∀ i j v w w',i≠j->Vj ops ops.size i j=false->F i v w->Rj j w w'->F i v w') (hsub:∀ i a b,Rj i a b->R a b) (hB:∀ j a b,j≠p->Rj j a b->Bp a->Bp b) (hB0:Bp w.drew) (hrf:∀ a,R a a) (htr:∀ a b c,R a b->R b c->R a c)
  (hskip:∀ i v w',F i v w'->∀ o,ops[i]? =I o->o.dst=O->F i undef w')
  (hops:∀ i o,i < m->ops[i]? =I o->OpE P ops a0 R Rj p Bp w.drew F i o)
  (hend:∀ (vs:Nat->Value) w',R w.drew w'->(∀ i,i < m->F i (vs i) w')->Q .normal (Yx a0 vs ops.toList 0) w'):(Code.region id ops true).wp P Q a0 w:=by
 subst hsz;refine wp_region_any hm (Inv.yp hreg hF hsub htr hB hops hskip ?_ ops.size _ a0 _ ?_ (λ _=>hB0) ⟨by simp,hrf _,rfl,rfl,λ _ _=>J,λ j oj hj hl=>?_,λ j oj hj hl=>?_⟩)
 ·intro a w' listed h hall
  let vs:Nat->Value:=λ i=>match (ops[i]?).bind (·.dst) with|none=>undef|some d=>a.tmps.getD d undef
  have e:a=Yx a0 vs ops.toList 0:=by
   have hsz':a.tmps.size=(Yx a0 vs ops.toList 0).tmps.size:=by rw [U3];exact h.yb
   have ht:a.tmps=(Yx a0 vs ops.toList 0).tmps:=by
    refine Array.ext hsz' (λ k hk1 hk2=>?_);have g1:a.tmps.getD k undef=a.tmps[k]:=by simp [hk1]
    have g2:(Yx a0 vs ops.toList 0).tmps.getD k undef=(Yx a0 vs ops.toList 0).tmps[k]:=by simp [hk2]
    rw [<-g1,<-g2]
    by_cases hex:∃ (j:Nat) (oj:Oper),ops[j]? =I oj/\oj.dst=I k
    ·obtain ⟨j,oj,hj,hd⟩:=hex;rw [Gq vs k ops.toList 0 a0 j oj (by simpa using hj) hd (by rw [<-h.yb];exact hk1) (λ j' o' hj' hne hd'=>by
      have hj2:ops[j']? =I o':=by simpa using hj'
      exact (Qq9 (Vv hreg hj)).wg j' o' k hj2 hd' (Ne.symm hne) hd)]
     show _=(match (ops[0+j]?).bind (·.dst) with|none=>undef|some d=>a.tmps.getD d undef);rw [Nat.zero_add,hj];simp [hd]
    ·rw [U7 vs k ops.toList 0 a0 (λ o ho hd=>by
      obtain ⟨j,hj⟩:=List.getElem?_of_mem ho;exact hex ⟨j,o,by simpa using hj,hd⟩)]
     exact h.out k (λ j oj hj hd=>absurd ⟨j,oj,hj,hd⟩ hex)
   have hd:a.defers=(Yx a0 vs ops.toList 0).defers:=by rw [Vr];exact h.og
   cases a
   cases hp:Yx a0 vs ops.toList 0
   rw [hp] at ht hd;simp only at ht hd;rw [ht,hd]
  rw [e];refine hend vs w' h.cls (λ i hi=>?_);have hoi:ops[i]? =I ops[i]:=by simp [hi]
  have:=h.ub i _ hoi (hall i hi);show F i (match (ops[i]?).bind (·.dst) with|none=>undef|some d=>a.tmps.getD d undef) w';rw [hoi];simp only [Option.bind_some];cases hd:ops[i].dst with
  |none=>rw [hd] at this;exact this
  |some d=>rw [hd] at this;exact this
 ·intro k hk;rw [hk];refine Nat.le_trans List.countP_le_length (by simp)
 ·have hlt:=(Array.getElem?_eq_some_iff.1 hj).1;simp [hlt] at hl
 ·have hlt:=(Array.getElem?_eq_some_iff.1 hj).1;simp [hlt] at hl
end
end
section
variable {w0 w w' w1:W} {lab lab' lab1:Nat->Nat} {P P':EP} {s s':Zn} {t i:Nat} {S qJ:List Nat} {raw:Zu} {g:Qt} {r:Qt×Zh}
theorem Ys.xc (h:Ys w0 w lab P s) (j:Nat) {u:Value} (hu:(Gg P s)[j]? =I u):w.cell? ⟨P.x,j,O⟩=I u/\w.frozen? ⟨P.x,j,O⟩=false:=⟨Za h.hx hu,Zb h.hx⟩
theorem Ys.kc (h:Ys w0 w lab P s) (ht:t < s.qi.length) (j:Nat) {u:Value} (hu:(Qp (P.vc t) (s.th t).begun (P.gv t) (P.ai t))[j]? =I u):w.cell? ⟨P.kt t,j,O⟩=I u/\w.frozen? ⟨P.kt t,j,O⟩=false:=⟨Za (h.jn t ht) hu,Zb (h.jn t ht)⟩
theorem Ys.uh (h:Ys w0 w lab P s):P.x < w.heap.size:=B9 h.hx
theorem Ys.klt (h:Ys w0 w lab P s) (ht:t < s.qi.length):P.kt t < w.heap.size:=B9 (h.jn t ht)
theorem first_on (s:Zn) (t:Nat) (m:Zh) (v:Nat):((s.xb t).step m v).1.qf=false:=by
 unfold Zn.xb;split
 ·rfl
 ·show (((Ug _ _ _ _ _ _ _ _).step m v).1.part==4)=false;unfold Z8.step;rw [if_pos (by rfl)];simp only;split <;> rfl
theorem Lz (ht:t < s.qi.length) (hc:(s.th t).cur=O) {ix:Nat} (h1:((s.ready t).th t).cur=I ix) (h2:(s.ready t).qe[ix]? =I ⟨raw,I g⟩):g=({s with steps:=s.steps+1}:Zn).xb t:=by
 have e:s.ready t=({s with steps:=s.steps+1}:Zn).begin t:=by unfold Zn.ready;rw [hc];rfl
 rw [e] at h1 h2;have e1:((({s with steps:=s.steps+1}:Zn).begin t).th t).cur=I s.qe.length:=by
  show ((s.qi.set t _).getD t Bj).cur=_;rw [Hm _ _ _ _ ht,if_pos rfl]
 rw [e1] at h1;obtain rfl:=Zo_ h1;have e2:(({s with steps:=s.steps+1}:Zn).begin t).qe[s.qe.length]? =I ⟨Xj t (s.th t).begun (s.call t).1 ((s.steps+1:Nat):Int),I (({s with steps:=s.steps+1}:Zn).xb t)⟩:=by
  show (s.qe++[_])[s.qe.length]? =_;simp;rfl
 rw [e2] at h2;simp at h2;exact h2.2.symm
def Kf (D:List Nat) (p i:Nat):W->W->Prop:=if i=p then Ze D else Ze []
theorem Zx {D:List Nat} {p i:Nat} {a b:W} (hi:i≠p) (m:Ze [] a b):Kf D p i a b:=by
 unfold Kf;rw [Q9 hi];exact m
theorem Ht {D:List Nat} {p:Nat} {a b:W} (m:Ze D a b):Kf D p p a b:=by
 unfold Kf;rw [if_pos rfl];exact m
theorem Xr {D:List Nat} {p i:Nat} {a b:W} (hi:i≠p) (m:Kf D p i a b):Ze [] a b:=by
 unfold Kf at m;rw [Q9 hi] at m;exact m
theorem Xn {D:List Nat} {p i:Nat} {a b:W} (m:Kf D p i a b):Ze D a b:=by
 unfold Kf at m;split at m
 ·exact m
 ·exact m.qj _
theorem Yb.jo {n0 z n:Nat} {t:TypeId} {xs:List Value} {v:Value} {S:List Nat} {w w':W} (h:Yb n0 t z n xs v w) (m:Ze S w w') (hS:∀ k∈S,k < n0):Yb n0 t z n xs v w':=
 ⟨Zt h.1 m (λ k hk hm=>by have:=h.2 k hk;have:=hS k hm;omega),h.2⟩
def Uu (n0:Nat) (d:Zu) (y:DX) (w:W):Prop:=Xq n0 d.args y.va w/\Ql n0 d.reads y.vr w/\Ql n0 d.writes y.vw w/\Xq n0 d.out y.vo w
theorem Uu.mod {n0:Nat} {d:Zu} {y:DX} {w w':W} (h:Uu n0 d y w) (m:Ze [] w w'):Uu n0 d y w':=⟨h.1.mod m,h.2.1.mod m,h.2.2.1.mod m,h.2.2.2.mod m⟩
def Mg (n0:Nat) (d:Zu) (v:Value) (w:W):Prop:=∃ y:DX,v=.agg (Z9 d y).toArray/\Uu n0 d y w
theorem Mg.mod {n0:Nat} {d:Zu} {v:Value} {w w':W} (h:Mg n0 d v w) (m:Ze [] w w'):Mg n0 d v w':=by
 obtain ⟨y,h1,h2⟩:=h;exact ⟨y,h1,h2.mod m⟩
def Mi (n0:Nat) (raw:Zu) (dx:DX) (d:Zu) (v:Value) (w:W):Prop:=∃ y:DX,v=.agg (Z9 (raw.join d) (dx.join y)).toArray/\Uu n0 d y w
theorem Mi.mod {n0:Nat} {raw d:Zu} {dx:DX} {v:Value} {w w':W} (h:Mi n0 raw dx d v w) (m:Ze [] w w'):Mi n0 raw dx d v w':=by
 obtain ⟨y,h1,h2⟩:=h;exact ⟨y,h1,h2.mod m⟩
theorem Yp {w:W} {b e z n:Nat} {xs:List Value} {v:Value} (h:w.ownsRow b e z v n xs):v.oneCell'=true:=by
 obtain ⟨a,c,rfl⟩:=Zo h;rfl
theorem V8 (d:Zu) (y:DX) (h1:y.va.oneCell'=true) (h2:y.vr.oneCell'=true) (h3:y.vw.oneCell'=true) (h4:y.vo.oneCell'=true):∀ u∈Z9 d y,u.oneCell'=true:=by
 intro u hu;unfold Z9 at hu;simp only [List.mem_cons,List.not_mem_nil,or_false] at hu;rcases hu with rfl|rfl|rfl|rfl|rfl|rfl|rfl|rfl|rfl|rfl|rfl|rfl|rfl|rfl|rfl|rfl|rfl|rfl|rfl
 all_goals first|rfl|assumption
def De (px pk dg nd dc ix n0 qk:Nat) (ti:TypeId) (raw told:Zu) (dx:DX):Nat->Value->W->Prop
 |0,v,_=>v=E (I ⟨px,0,O⟩)
 |1,v,_=>v=E (I ⟨px,0,O⟩)
 |2,v,_=>v=E (I ⟨px,14,O⟩)
 |3,v,_=>v=L (I ⟨dg,0,O⟩) nd dc
 |4,v,_=>v=E (I ⟨pk,0,O⟩)
 |5,v,_=>v=E (I ⟨pk,0,O⟩)
 |6,v,_=>v=E (I ⟨pk,3,O⟩)
 |7,v,_=>v=U Y ix
 |8,v,_=>v=E (I ⟨dg,ix * 19,O⟩)
 |9,v,_=>v=.agg (Z9 raw dx).toArray
 |10,v,_=>v=E (I ⟨pk,0,O⟩)
 |11,v,_=>v=E (I ⟨pk,0,O⟩)
 |12,v,_=>v=E (I ⟨pk,2,O⟩)
 |13,v,_=>v=.iface ti (E (I ⟨qk,0,O⟩))
 |14,v,w=>Mg n0 told v w
 |15,v,w=>Mi n0 raw dx told v w
 |16,v,w=>Vq n0 v w
 |_,_,_=>True
theorem R8 (px pk dg nd dc ix n0 qk:Nat) (ti:TypeId) (raw told:Zu) (dx:DX) (i:Nat) (v:Value) (w w':W) (h:De px pk dg nd dc ix n0 qk ti raw told dx i v w) (m:Ze [] w w'):De px pk dg nd dc ix n0 qk ti raw told dx i v w':=by
 match i,h with
 |0,h=>exact h
 |1,h=>exact h
 |2,h=>exact h
 |3,h=>exact h
 |4,h=>exact h
 |5,h=>exact h
 |6,h=>exact h
 |7,h=>exact h
 |8,h=>exact h
 |9,h=>exact h
 |10,h=>exact h
 |11,h=>exact h
 |12,h=>exact h
 |13,h=>exact h
 |14,h=>exact h.mod m
 |15,h=>exact h.mod m
 |16,h=>exact Vq.mod h m
 |i+17,h=>trivial
theorem Cz (px pk dg nd dc ix n0 qk:Nat) (ti:TypeId) (raw told:Zu) (dx:DX) (i:Nat) (h:17<=i) (v:Value) (w:W):De px pk dg nd dc ix n0 qk ti raw told dx i v w:=by
 match i,h with
 |j+17,_=>trivial
def Dd (px pk dg nd dc ix:Nat) (cs:Array Value):Nat->Value->W->Prop
 |0,v,_=>v=E (I ⟨px,0,O⟩)
 |1,v,_=>v=E (I ⟨px,0,O⟩)
 |2,v,_=>v=E (I ⟨px,14,O⟩)
 |3,v,_=>v=L (I ⟨dg,0,O⟩) nd dc
 |4,v,_=>v=E (I ⟨pk,0,O⟩)
 |5,v,_=>v=E (I ⟨pk,0,O⟩)
 |6,v,_=>v=E (I ⟨pk,3,O⟩)
 |7,v,_=>v=U Y ix
 |8,v,_=>v=.agg cs
 |9,v,_=>v=E (I ⟨dg,ix * 19,O⟩)
 |_,_,_=>True
theorem R6 (px pk dg nd dc ix:Nat) (cs:Array Value) (i:Nat) (v:Value) (w w':W) (h:Dd px pk dg nd dc ix cs i v w) (_:Ze [] w w'):Dd px pk dg nd dc ix cs i v w':=by
 match i,h with
 |0,h=>exact h
 |1,h=>exact h
 |2,h=>exact h
 |3,h=>exact h
 |4,h=>exact h
 |5,h=>exact h
 |6,h=>exact h
 |7,h=>exact h
 |8,h=>exact h
 |9,h=>exact h
 |i+10,h=>trivial
theorem Cy (px pk dg nd dc ix:Nat) (cs:Array Value) (i:Nat) (h:10<=i) (v:Value) (w:W):Dd px pk dg nd dc ix cs i v w:=by
 match i,h with
 |j+10,_=>trivial
def Df (px pk ma qk:Nat) (ti:TypeId) (Post:Bool->W->Prop):Nat->Value->W->Prop
 |0,v,_=>v=E (I ⟨pk,0,O⟩)
 |1,v,_=>v=E (I ⟨pk,0,O⟩)
 |2,v,_=>v=E (I ⟨pk,2,O⟩)
 |3,v,_=>v=.iface ti (E (I ⟨qk,0,O⟩))
 |4,v,_=>v=E (I ⟨px,0,O⟩)
 |5,v,_=>v=E (I ⟨px,0,O⟩)
 |6,v,_=>v=E (I ⟨px,11,O⟩)
 |7,v,_=>v=E (I ⟨ma,0,O⟩)
 |8,v,_=>v=.iface ti (E (I ⟨qk,0,O⟩))
 |9,v,_=>v=.iface ti (E (I ⟨qk,0,O⟩))
 |10,v,w=>∃ b,v=.tuple #[.bool b,U Y 0]/\Post b w
 |11,v,w=>∃ b,v=.tuple #[.bool b,U Y 0]/\Post b w
 |12,v,w=>∃ b,v=.bool b/\Post b w
 |13,v,_=>v=U Y 0
 |14,v,w=>∃ b,v=.bool b/\Post b w
 |15,v,_=>v=U Y 0
 |_,_,_=>True
theorem R9 (px pk ma qk:Nat) (ti:TypeId) (Post:Bool->W->Prop) (hP:∀ b w w',Post b w->Ze [] w w'->Post b w') (D:List Nat) (i j:Nat) (v:Value) (w w':W) (hij:i≠j) (hd:¬ (j=10/\(i=11\/i=12\/i=14))) (h:Df px pk ma qk ti Post i v w) (m:Kf D 10 j w w'):Df px pk ma qk ti Post i v w':=by
 match i,hij,hd,h with
 |0,_,_,h=>exact h
 |1,_,_,h=>exact h
 |2,_,_,h=>exact h
 |3,_,_,h=>exact h
 |4,_,_,h=>exact h
 |5,_,_,h=>exact h
 |6,_,_,h=>exact h
 |7,_,_,h=>exact h
 |8,_,_,h=>exact h
 |9,_,_,h=>exact h
 |10,hij,hd,⟨b,h1,h2⟩=>exact ⟨b,h1,hP _ _ _ h2 (Xr (by omega) m)⟩
 |11,hij,hd,⟨b,h1,h2⟩=>exact ⟨b,h1,hP _ _ _ h2 (Xr (by omega) m)⟩
 |12,hij,hd,⟨b,h1,h2⟩=>exact ⟨b,h1,hP _ _ _ h2 (Xr (by omega) m)⟩
 |13,_,_,h=>exact h
 |14,hij,hd,⟨b,h1,h2⟩=>exact ⟨b,h1,hP _ _ _ h2 (Xr (by omega) m)⟩
 |15,_,_,h=>exact h
 |i+16,_,_,h=>trivial
theorem C3 (px pk ma qk:Nat) (ti:TypeId) (Post:Bool->W->Prop) (i:Nat) (h:16<=i) (v:Value) (w:W):Df px pk ma qk ti Post i v w:=by
 match i,h with
 |j+16,_=>trivial
theorem step24_c (h:Ys w0 w lab P s) (k:Yi s) (ht:t < s.qi.length) (hs:s.steps+1 < 1000000000):
  Calls N 24 #[Xy P.x,U Y t] w λ e w'=>e=R_ (.tuple #[.bool (!(s.th t).fin),U Y 0])/\∃ v,Jk w0 w lab P (s.step t v) w':=by
 obtain ⟨tg,tc,hvt,_,tgl,hT⟩:=h.row;have x13:=(h.xc 13 (u:=P.vt) J).1;rw [hvt] at x13;have T:=hT t ht;have h8:=h.n8;have hst:=k.st;obtain ⟨nt,hnt⟩:∃ z,z=s.qi.length:=⟨_,J⟩;have HNT:=Zh_ hnt;rw [<-hnt] at x13 ht h8;have d1:decide ((t:Int) < 0)=false:=D9 (by omega);have d2:decide ((nt:Int)<=t)=false:=D9 (by omega);have C:=fin_c h k.yz (by rw [<-hnt];exact ht);obtain ⟨px,hpx⟩:∃ z,z=P.x:=⟨_,J⟩;obtain ⟨pk,hpk⟩:∃ z,z=P.kt t:=⟨_,J⟩;rw [<-hpx] at x13;unfold Xy at T C ⊢
 rw [<-hpk] at T C;rw [<-hpx];obtain ⟨fi,hfi⟩:∃ z,z=(s.th t).fin:=⟨_,J⟩;rw [<-hfi] at C ⊢
 have HPX:=Zh_ hpx;have HPK:=Zh_ hpk;have HF:=Zh_ hfi;have HH:=Zh_ h;have HK:=Zh_ k;have HS:=Zh_ hs;have HT:=Zh_ ht;have H8:=Zh_ h8;have HST:=Zh_ hst;clear hpx hpk hfi h k hs hT hvt hnt hst;go_enter func24,ntmps24;go_wp2_with fail;refine C.mono ?_;rintro e w1 ⟨rfl,m1⟩;have h1:=Zh_ (HH.out.quiet m1 Z3);have f1:=Zh_ (Bb.quiet (lab:=lab) m1 Z3);clear m1 x13 T tgl C d1 d2;cases fi with
 |true=>
  go_wp2;go_ret2;refine ⟨J,0,lab,P,?_,P3.refl P,f1.out⟩;have e:s.step t 0=s:=by unfold Zn.step;rw [if_pos HF.out.symm]
  rw [e];exact h1.out
 |false=>
  have ht':t < s.qi.length:=by rw [<-HNT.out];exact HT.out
  have x15:=(h1.out.xc 15 (u:=U Y s.steps) J);rw [<-HPX.out] at x15;obtain ⟨x15,z15⟩:=x15;have lx:=h1.out.uh;rw [<-HPX.out] at lx;obtain ⟨sn,hsn⟩:∃ z:Nat,z=s.steps:=⟨_,J⟩;have hs:=HS.out;rw [<-hsn] at x15 hs;have HSN:=Zh_ hsn;clear hsn;go_upto_region 7 with fail;obtain ⟨h2',f2'⟩:=h1.out.oq ((sn:Int)+1) (by rw [HSN.out];simp);rw [<-HPX.out] at h2' f2';have h2:=Zh_ h2';have f2:=Zh_ (f1.out.trans f2');clear h2' f2' x15 z15 lx;generalize w1.setCell ⟨px,15,O⟩ (U Y ((sn:Int)+1))=w2 at *
  obtain ⟨fst,hfst⟩:∃ z,z=(s.th t).cur.isNone:=⟨_,J⟩;have HFS:=Zh_ hfst;clear hfst
  go_cut [7] (λ A wx=>A=.bool fst/\Ze [] w2 wx)
  case first=>
   have c2:=(h2.out.kc (t:=t) ht' 2 (u:=P.gv t) J).1;rw [<-HPK.out] at c2;have lk:=h2.out.klt (t:=t) ht';rw [<-HPK.out] at lk;have G:=h2.out.go t ht';obtain ⟨hc,hgo⟩|⟨i,x,g,hc,_,_,hgo⟩:=(HK.out.tick.yz).zi (t:=t) ht'
   ·have hg:P.gv t=.nilIface:=by rw [hgo] at G;exact G
    rw [hg] at c2;have hF:fst=true:=by rw [HFS.out];have hc:(s.th t).cur=O:=hc;rw [hc];rfl
    clear G hgo hc hg;subst hF;go_wp2_with fail;go_meet;exact ⟨J,Zr_ _ _⟩
   ·obtain ⟨ti,u,hg⟩:∃ ti u,P.gv t=.iface ti u:=by rw [hgo] at G;exact G.kj
    rw [hg] at c2;have hF:fst=false:=by rw [HFS.out];have hc:(s.th t).cur=I i:=hc;rw [hc];rfl
    clear G hgo hc hg;subst hF;go_wp2_with fail;go_meet;exact ⟨J,Zr_ _ _⟩
  case rest=>
   obtain ⟨rfl,m7⟩:=hcut;have h3:=Zh_ (h2.out.quiet m7 Z3);have f3:=Zh_ (f2.out.trans (Bb.quiet m7 Z3));clear m7;generalize wc=w3 at *
   go_upto_if 43 with fail
   go_cut [] (λ wx=>Jk w0 w3 lab P (s.ready t) wx)
   case first=>
    have hf:(s.th t).fin=false:=HF.out.symm;cases fst with
    |false=>
     have e:s.ready t={s with steps:=s.steps+1}:=by unfold Zn.ready;rw [<-HFS.out];rfl
     clear hf;go_wp2_with fail;go_meet;rw [e];exact Jk.refl h3.out
    |true=>
     have e:s.ready t=({s with steps:=s.steps+1}:Zn).begin t:=by unfold Zn.ready;rw [<-HFS.out];rfl
     have hc:(s.th t).cur=O:=by have:=HFS.out;cases hq:(s.th t).cur with|none=>rfl|some _=>rw [hq] at this;cases this
     have hb:(s.th t).begun < (s.th t).calls.length:=by
      unfold Qy.fin at hf;rw [hc] at hf;simp at hf;have:=(HK.out.begun t ht').1;omega
     have B:=begin_c h3.out HK.out.tick ht' hc hb (by have:=HST.out;have:=HS.out;show s.qe.length < _;omega);unfold Xy at B;rw [<-HPX.out,<-e] at B;clear hf e hc hb;go_wp2_with fail;refine B.mono ?_;rintro e w4 ⟨rfl,qQ⟩;go_wp2_with fail;go_meet;exact qQ
   case rest=>
    obtain ⟨lab4,P4,h4',q4',f4'⟩:=hcut;generalize wc=w4 at *
    have hf:(s.th t).fin=false:=HF.out.symm;obtain ⟨kr',hlr,ix,hcr'⟩:=HK.out.ready ht' hf;obtain ⟨sr,hsr⟩:∃ z,z=s.ready t:=⟨_,J⟩;rw [<-hsr] at h4' kr' hlr hcr';obtain ⟨raw,g,hx',_,_⟩:=kr'.cur t ix (by rw [hlr];exact ht') hcr';obtain ⟨ti,qk,f,D,egv,hme0,hcf0,hD,hSC⟩:=h4'.stepC kr' (by rw [hlr];exact ht') hcr' hx';obtain ⟨ma,hma⟩:∃ z,z=P4.a:=⟨_,J⟩;have h4x:P4.x=px:=q4'.x.trans HPX.out.symm;have h4k:P4.kt t=pk:=by rw [q4'.kt];exact HPK.out.symm
    have HC:=Zh_ (show ∀ wx,Ze D w4.drew wx->wx.cell? ⟨pk,2,O⟩=I (.iface ti (E (I ⟨qk,0,O⟩)))/\wx.cell? ⟨px,11,O⟩=I (E (I ⟨ma,0,O⟩)) from
     λ wx hR=>by
      have m:Ze D w4 wx:=((Zr_ _ w4).drew).trans hR;have K:=m.at (h4'.jn t (by rw [hlr];exact ht')) (λ hm=>by have:=hD _ hm;rw [h4'.lt t (by rw [hlr];exact ht')] at this;omega);have qW:=m.at h4'.hx (λ hm=>by have:=hD _ hm;rw [h4'.lx] at this;omega);rw [h4k,egv] at K;rw [h4x] at qW;rw [hma];exact ⟨Za K J,Za qW J⟩)
    have HSC:=Zh_ (show ∀ wx,Ze [] w4.drew wx->Calls N f #[E (I ⟨qk,0,O⟩),E (I ⟨ma,0,O⟩)] wx (λ e w'=>∃ b,e=R_ (.tuple #[.bool b,U Y 0])/\Q0 w0 w4 lab4 P4 sr ix raw g b w'/\Ze D wx w') from
     λ wx hR=>by
      rw [hma];exact hSC wx (((Zr_ _ w4).drew).trans hR))
    have h4:=Zh_ h4';have f4:=Zh_ (f3.out.trans f4');have q4:=Zh_ q4';have kr:=Zh_ kr';have HLR:=Zh_ hlr;have HCR:=Zh_ hcr';have HX:=Zh_ hx';have HSR:=Zh_ hsr;have HX4:=Zh_ h4x;have HK4:=Zh_ h4k;clear h4' f4' q4' kr' hlr hcr' hx' hsr egv hD hSC hma h4x h4k hf;go_upto_region 10 with fail
    go_cut [8] (λ A wx=>∃ b,A=.bool b/\Q0 w0 w4 lab4 P4 sr ix raw g b wx)
    case first=>
     refine Px (by kernel_rfl) 16 (Ze D) (Kf D 10) 10 (Ze [] w4.drew) (Df px pk ma qk ti (Q0 w0 w4 lab4 P4 sr ix raw g)) (by kernel_rfl) (by rfl) (λ i j v w w' hij hw=>R9 px pk ma qk ti (Q0 w0 w4 lab4 P4 sr ix raw g) (λ b w w' h m=>h.quiet m) D i j v w w' hij (by rintro ⟨rfl,rfl|rfl|rfl⟩ <;> exact Bool.false_ne_true (hw.symm.trans (by kernel_rfl)))) (λ i a b h=>Xn h) (λ j a b hj h k=>k.trans (Xr hj h)) (Zr_ _ _) (λ a=>Zr_ _ _) (λ a b c h k=>h.trans k) (λ i v w' hv o ho hd=>Vi (m:=16) (by kernel_rfl) (C3 px pk ma qk ti (Q0 w0 w4 lab4 P4 sr ix raw g)) ho hd) ?_ ?_
     ·intro i o hi ho
      match i,hi with
      |0,_=>
       obtain rfl:=Zo_ ho;intro a wx hR hB hF hO;have f6:a.eval (.tmp 6)=E (I ⟨pk,0,O⟩):=hO 6 (by kernel_rfl) (Zm (by kernel_rfl));have e6:=Tv_ f6;clear hF hO;go_simp;exact ⟨Zx (by decide) (Zr_ _ _),J⟩
      |1,_=>
       obtain rfl:=Zo_ ho;intro a wx hR hB hF hO;have e48:=Tf_ hF 48 0 (E (I ⟨pk,0,O⟩));clear hF hO;go_simp;exact ⟨Zx (by decide) (Zr_ _ _),J⟩
      |2,_=>
       obtain rfl:=Zo_ ho;intro a wx hR hB hF hO;have e49:=Tf_ hF 49 1 (E (I ⟨pk,0,O⟩));clear hF hO;go_simp;exact ⟨Zx (by decide) (Zr_ _ _),J⟩
      |3,_=>
       obtain rfl:=Zo_ ho;intro a wx hR hB hF hO;have e50:=Tf_ hF 50 2 (E (I ⟨pk,2,O⟩));clear hF hO;obtain ⟨c2,c11⟩:=HC.out wx hR;go_simp;exact ⟨Zx (by decide) (Zr_ _ _),J⟩
      |4,_=>
       obtain rfl:=Zo_ ho;intro a wx hR hB hF hO;have e0:=To_ hO 0 (E (I ⟨px,0,O⟩));clear hF hO;go_simp;exact ⟨Zx (by decide) (Zr_ _ _),J⟩
      |5,_=>
       obtain rfl:=Zo_ ho;intro a wx hR hB hF hO;have e52:=Tf_ hF 52 4 (E (I ⟨px,0,O⟩));clear hF hO;go_simp;exact ⟨Zx (by decide) (Zr_ _ _),J⟩
      |6,_=>
       obtain rfl:=Zo_ ho;intro a wx hR hB hF hO;have e53:=Tf_ hF 53 5 (E (I ⟨px,0,O⟩));clear hF hO;go_simp;exact ⟨Zx (by decide) (Zr_ _ _),J⟩
      |7,_=>
       obtain rfl:=Zo_ ho;intro a wx hR hB hF hO;have e54:=Tf_ hF 54 6 (E (I ⟨px,11,O⟩));clear hF hO;obtain ⟨c2,c11⟩:=HC.out wx hR;go_simp;exact ⟨Zx (by decide) (Zr_ _ _),J⟩
      |8,_=>
       obtain rfl:=Zo_ ho;intro a wx hR hB hF hO;have f51:a.eval (.tmp 51)=.iface ti (E (I ⟨qk,0,O⟩)):=hF 51 3 _ (by kernel_rfl) J J;have e51:=Tv_ f51;clear hF hO;go_simp;exact ⟨Zx (by decide) (Zr_ _ _),J⟩
      |9,_=>
       obtain rfl:=Zo_ ho;intro a wx hR hB hF hO;have e51:=Tf_ hF 51 3 (.iface ti (E (I ⟨qk,0,O⟩)));clear hF hO;go_simp;exact ⟨Zx (by decide) (Zr_ _ _),J⟩
      |10,_=>
       obtain rfl:=Zo_ ho;intro a wx hR hB hF hO;have e57:=Tf_ hF 57 9 (.iface ti (E (I ⟨qk,0,O⟩)));have e55:=Tf_ hF 55 7 (E (I ⟨ma,0,O⟩));clear hF hO;have hme:=hme0;have hcf:=hcf0;go_simp;refine Calls.mono (HSC.out wx (hB J)) ?_;rintro e w' ⟨b,rfl,hp,m⟩;exact ⟨_,J,Ht m,b,J,hp⟩
      |11,_=>
       obtain rfl:=Zo_ ho;intro a wx hR hB hF hO;have e58:∃ b,(a.eval (.tmp 58))=.tuple #[.bool b,U Y 0]/\(Q0 w0 w4 lab4 P4 sr ix raw g) b wx:=hF 58 10 _ (by kernel_rfl) J J;clear hF hO;obtain ⟨b,q58,hp⟩:=e58;replace q58:a.tmps[58]?.getD undef=_:=(show a.tmps[58]?.getD undef=a.eval (.tmp 58) by simp [Act.eval]).trans q58;have HP:=Zh_ hp;clear hp;go_simp;exact ⟨Zx (by decide) (Zr_ _ _),b,J,HP.out⟩
      |12,_=>
       obtain rfl:=Zo_ ho;intro a wx hR hB hF hO;have e47:∃ b,(a.eval (.tmp 47))=.tuple #[.bool b,U Y 0]/\(Q0 w0 w4 lab4 P4 sr ix raw g) b wx:=hF 47 11 _ (by kernel_rfl) J J;clear hF hO;obtain ⟨b,q47,hp⟩:=e47;replace q47:a.tmps[47]?.getD undef=_:=(show a.tmps[47]?.getD undef=a.eval (.tmp 47) by simp [Act.eval]).trans q47;have HP:=Zh_ hp;clear hp;go_simp;exact ⟨Zx (by decide) (Zr_ _ _),b,J,HP.out⟩
      |13,_=>
       obtain rfl:=Zo_ ho;intro a wx hR hB hF hO;have e47:∃ b,(a.eval (.tmp 47))=.tuple #[.bool b,U Y 0]/\(Q0 w0 w4 lab4 P4 sr ix raw g) b wx:=hF 47 11 _ (by kernel_rfl) J J;clear hF hO;obtain ⟨b,q47,_⟩:=e47;replace q47:a.tmps[47]?.getD undef=_:=(show a.tmps[47]?.getD undef=a.eval (.tmp 47) by simp [Act.eval]).trans q47;go_simp;exact ⟨Zx (by decide) (Zr_ _ _),J⟩
      |14,_=>
       obtain rfl:=Zo_ ho;intro a wx hR hB hF hO;have e59:∃ b,(a.eval (.tmp 59))=.bool b/\(Q0 w0 w4 lab4 P4 sr ix raw g) b wx:=hF 59 12 _ (by kernel_rfl) J J;clear hF hO;obtain ⟨b,q59,hp⟩:=e59;replace q59:a.tmps[59]?.getD undef=_:=(show a.tmps[59]?.getD undef=a.eval (.tmp 59) by simp [Act.eval]).trans q59;have HP:=Zh_ hp;clear hp;go_simp;exact ⟨Zx (by decide) (Zr_ _ _),b,J,HP.out⟩
      |15,_=>
       obtain rfl:=Zo_ ho;intro a wx hR hB hF hO;have e60:=Tf_ hF 60 13 (U Y 0);clear hF hO;go_simp;exact ⟨Zx (by decide) (Zr_ _ _),J⟩
      |j+16,hh=>omega
     ·intro vs w5 hR hv;obtain ⟨b,e8,hp⟩:∃ b,vs 14=.bool b/\Q0 w0 w4 lab4 P4 sr ix raw g b w5:=hv 14 (by decide);have HP:=Zh_ hp;clear hv hR hp;simp only [Yx,Act.put,e8];go_simp;go_wp2_with fail;go_meet;exact ⟨b,J,HP.out⟩
    case rest=>
     obtain ⟨b,rfl,v,hb,lab5,P5,h5',q5',f5'⟩:=hcut;generalize wc=w5 at *
     have HB:=Zh_ hb;have h5:=Zh_ h5';have f5:=Zh_ (f4.out.trans f5');have q5:=Zh_ (q4.out.trans q5');clear hb h5' q5' f5';obtain ⟨s5,hs5⟩:∃ z,z=sr.vi ix raw (g.step sr.mem.opened v):=⟨_,J⟩;have HS5:=Zh_ hs5;have h5:=Zh_ (show Ys w0 w5 lab5 P5 s5 by rw [hs5];exact h5.out);clear hs5;go_upto_if 61 with fail
     go_cut [] (λ wx=>Jk w0 w5 lab5 P5 s5 wx)
     case first=>
      cases fst with
      |false=>
       go_wp2_with fail;go_meet;exact Jk.refl h5.out
      |true=>
       have hc:(s.th t).cur=O:=by have:=HFS.out;cases hq:(s.th t).cur with|none=>rfl|some _=>rw [hq] at this;cases this
       have hover:(g.step sr.mem.opened v).1.qf=false:=by
        have e1:=HCR.out;have e2:=HX.out;have e3:=HSR.out;rw [e3] at e1 e2;rw [Lz ht' hc e1 e2];exact first_on _ _ _ _
       have hfired:s5=sr.zc t ix raw (g.step sr.mem.opened v):=by
        rw [HS5.out];unfold Zn.zc;rw [Q9 (by rw [hover];exact Bool.false_ne_true)];rfl
       have k5:Yi s5:=by rw [hfired];exact kr.out.zc (by rw [HLR.out];exact ht') HCR.out HX.out v
       have hl5:s5.qi.length=s.qi.length:=by rw [HS5.out];exact HLR.out
       have hc5:(s5.th t).cur=I ix:=by rw [HS5.out];exact HCR.out
       have B:=drew_c h5.out k5 (by rw [hl5];exact ht') hc5;unfold Xy at B;rw [q5.out.x,q5.out.kt,<-HPX.out,<-HPK.out] at B;clear hover hfired k5 hl5 hc5 hc;go_wp2_with fail;refine B.mono ?_;rintro e w6 ⟨rfl,qQ⟩;go_wp2_with fail;go_meet;exact qQ
     case rest=>
      obtain ⟨yh,P6,h6',q6',f6'⟩:=hcut;generalize wc=w6 at *
      have h6:=Zh_ h6';have f6:=Zh_ (f5.out.trans f6');have q6:=Zh_ (q5.out.trans q6');have hl5:s5.qi.length=s.qi.length:=by rw [HS5.out];exact HLR.out
      have hc1:s5.c1=nt:=by rw [h6'.nt,hl5,HNT.out]
      have x12:=(h6'.xc 12 (u:=E (I ⟨P6.r,0,O⟩)) J).1;have lx6:=h6'.uh;rw [q6.out.x,<-HPX.out] at x12 lx6;have Rs:=Ei h6'.j4 (t:Int) (by omega) (by rw [hc1];have:=HT.out;omega) (by rw [hc1];have:=H8.out;omega);obtain ⟨pr,hpr⟩:∃ z,z=P6.r:=⟨_,J⟩;rw [<-hpr] at x12 Rs;have HPR:=Zh_ hpr;have HL5:=Zh_ hl5;have HC1:=Zh_ hc1;clear h6' q6' f6' hl5 hc1 hpr;go_wp2_with fail;refine Rs.mono ?_;rintro e w7 ⟨rfl,R7,m7⟩;obtain ⟨h7',f7'⟩:=h6.out.rounds (by rw [<-HPR.out];exact R7) (by rw [<-HPR.out];exact m7);have h7:=Zh_ h7';have f7:=Zh_ (f6.out.trans f7');clear R7 m7 h7' f7' Rs x12 lx6;have HSTEP:=Zh_ (show s.step t v=sr.zc t ix raw (g.step sr.mem.opened v) by
       unfold Zn.step;rw [Q9 (by rw [<-HF.out];exact Bool.false_ne_true),<-HSR.out];exact Ux HCR.out HX.out v)
      cases b with
      |false=>
       have hfired:s.step t v=s5:=by
        rw [HSTEP.out,HS5.out];unfold Zn.zc;rw [Q9 (by rw [<-HB.out];exact Bool.false_ne_true)];rfl
       have qQ:∃ v,Jk w0 w lab P (s.step t v) w7:=⟨v,yh,P6,by rw [hfired];exact h7.out,q6.out,f7.out⟩;have HW:=Zh_ qQ;clear hfired qQ;go_wp2;go_ret2;exact ⟨J,HW.out⟩
      |true=>
       obtain ⟨g',hg'⟩:∃ z,z=(g.step sr.mem.opened v).1:=⟨_,J⟩;have HG':=Zh_ hg';have ht5:t < s5.qi.length:=by rw [HL5.out];exact ht'
       have hix:ix < sr.qe.length:=(List.getElem?_eq_some_iff.1 HX.out).1;have hx5:s5.qe[ix]? =I ⟨raw,I g'⟩:=by
        rw [HS5.out,hg'];show (sr.qe.set ix _)[ix]? =_;simp [hix]
       have hc5:(s5.th t).cur=I ix:=by rw [HS5.out];exact HCR.out
       have hgo5:s5.zi t=I g':=by unfold Zn.zi;rw [hc5];simp [hx5]
       have hT5:Ro g':=by
        obtain ⟨u,hu,_,_,hG⟩:=kr.out.tx ix raw g HX.out;rw [hg'];exact Rp.yr kr.out.cfg kr.out.len hG v
       obtain ⟨ti,qk,f,egv',hme1,hcf1,hDC⟩:=h7.out.oh ht5 hgo5 hT5;have hil:ix < s5.qe.length:=(List.getElem?_eq_some_iff.1 hx5).1;obtain ⟨dg,dc,hvd,hdl,hdo,hrow⟩:=h7.out.ks hil;have hai:=h7.out.cur t ix ht5 hc5;obtain ⟨nd,hnd⟩:∃ z,z=s5.qe.length:=⟨_,J⟩;obtain ⟨told,htold⟩:∃ z,z=g'.told:=⟨_,J⟩;obtain ⟨dx,hdx⟩:∃ z,z=P6.es.getD ix Qm:=⟨_,J⟩;obtain ⟨n0,hn0⟩:∃ z,z=w7.heap.size:=⟨_,J⟩;rw [<-hnd] at hvd hrow;have hraw:(s5.qe.map (·.raw)).getD ix Qi=raw:=by
        simp [G_,hx5]
       have hle:=h7.out.ze.len;have HC16:=Zh_ (show ∀ wx,Ze [] w7.drew wx->wx.cell? ⟨px,14,O⟩=I (L (I ⟨dg,0,O⟩) nd dc)/\wx.cell? ⟨pk,3,O⟩=I (U Y ix)/\wx.cell? ⟨pk,2,O⟩=I (.iface ti (E (I ⟨qk,0,O⟩)))/\∀ j v,(Z9 raw dx).toArray.toList[j]? =I v->wx.cell? ((⟨dg,ix * 19,O⟩:Addr).add j)=I v from
        λ wx hR=>by
         have m:Ze [] w7 wx:=((Zr_ _ w7).drew).trans hR;have hE:=h7.out.quiet m Z3;have a1:=(hE.xc 14 (u:=P6.vd) J).1;have a2:=(hE.kc ht5 3 (u:=U Y (P6.ai t)) J).1;have a3:=(hE.kc ht5 2 (u:=P6.gv t) J).1;rw [q6.out.x,<-HPX.out,hvd] at a1;rw [q6.out.kt,<-HPK.out,hai] at a2;rw [q6.out.kt,<-HPK.out,egv'] at a3;refine ⟨a1,a2,a3,λ j v hj=>?_⟩;rw [Uz];have hj19:j < 19:=by
          have:=(List.getElem?_eq_some_iff.1 hj).1;simpa [Z9] using this
         have:=(Yg hrow m).cellAt (ix * 19+j) (by rw [hnd];omega);rw [this,Hb hle (by simp;omega) hj19,hraw,<-hdx];simpa using hj)
       have HDC:=Zh_ (show ∀ wx,Ze [] w7.drew wx->Calls N f #[E (I ⟨qk,0,O⟩)] wx (Av wx told) from
        λ wx hR=>by rw [htold];exact hDC wx (((Zr_ _ w7).drew).trans hR))
       have HIX:=Zh_ (show ix < nd by rw [hnd];exact hil);have HN0:=Zh_ (show n0<=w7.drew.heap.size from Nat.le_of_eq hn0);have HNE:=Zh_ hn0;have HX5:=Zh_ hx5;have HVD:=Zh_ hvd;have HROW:=Zh_ hrow;have HTOLD:=Zh_ htold;have HDX:=Zh_ hdx;have HND:=Zh_ hnd;have HT5:=Zh_ ht5;have HDL:=Zh_ hdl;have HDO:=Zh_ hdo;have HC5:=Zh_ hc5;have HAI:=Zh_ hai;have hix:ix < nd:=HIX.out;clear hg' ht5 hx5 hc5 hgo5 hT5 hil hai hnd htold hdx hn0 hvd hrow hraw hle hDC egv' hdl hdo;go_upto_region 16 with fail
       go_cut [10] (λ A wx=>∃ xq y,A=E (I ⟨xq,0,O⟩)/\wx.heap[xq]? =I (.cells (Z9 (raw.join told) (dx.join y)).toArray 50 (0,0))/\n0<=xq/\Uu n0 told y wx/\Ze [] w7 wx)
       case first=>
        refine Yt (by kernel_rfl) 17 (by rfl) (λ x y=>Ze [] x y) (De px pk dg nd dc ix n0 qk ti raw told dx) (by kernel_rfl) (by rfl) (by kernel_rfl) (R8 px pk dg nd dc ix n0 qk ti raw told dx) (λ a=>Zr_ _ _) (λ a b c h k=>h.trans k) ?_ ?_ ?_
        ·exact λ i v w' hv o ho hd=>Vi (m:=17) (by kernel_rfl) (Cz px pk dg nd dc ix n0 qk ti raw told dx) ho hd
        ·intro i o hi ho
         match i,hi with
         |0,_=>obtain rfl:=Zo_ ho;intro a wx hR hF hO;have e0:=To_ hO 0 (E (I ⟨px,0,O⟩));clear hF hO;go_simp;exact ⟨Zr_ _ _,J⟩
         |1,_=>obtain rfl:=Zo_ ho;intro a wx hR hF hO;have e73:=Tf_ hF 73 0 (E (I ⟨px,0,O⟩));clear hF hO;go_simp;exact ⟨Zr_ _ _,J⟩
         |2,_=>obtain rfl:=Zo_ ho;intro a wx hR hF hO;have e74:=Tf_ hF 74 1 (E (I ⟨px,0,O⟩));clear hF hO;go_simp;exact ⟨Zr_ _ _,J⟩
         |3,_=>obtain rfl:=Zo_ ho;intro a wx hR hF hO;have e75:=Tf_ hF 75 2 (E (I ⟨px,14,O⟩));clear hF hO;obtain ⟨c14,c3,c2,_⟩:=HC16.out wx hR;go_simp;exact ⟨Zr_ _ _,J⟩
         |4,_=>obtain rfl:=Zo_ ho;intro a wx hR hF hO;have e6:=To_ hO 6 (E (I ⟨pk,0,O⟩));clear hF hO;go_simp;exact ⟨Zr_ _ _,J⟩
         |5,_=>obtain rfl:=Zo_ ho;intro a wx hR hF hO;have e77:=Tf_ hF 77 4 (E (I ⟨pk,0,O⟩));clear hF hO;go_simp;exact ⟨Zr_ _ _,J⟩
         |6,_=>obtain rfl:=Zo_ ho;intro a wx hR hF hO;have e78:=Tf_ hF 78 5 (E (I ⟨pk,0,O⟩));clear hF hO;go_simp;exact ⟨Zr_ _ _,J⟩
         |7,_=>obtain rfl:=Zo_ ho;intro a wx hR hF hO;have e79:=Tf_ hF 79 6 (E (I ⟨pk,3,O⟩));clear hF hO;obtain ⟨c14,c3,c2,_⟩:=HC16.out wx hR;go_simp;exact ⟨Zr_ _ _,J⟩
         |8,_=>obtain rfl:=Zo_ ho;intro a wx hR hF hO;have e76:=Tf_ hF 76 3 (L (I ⟨dg,0,O⟩) nd dc);have e80:=Tf_ hF 80 7 (U Y ix);clear hF hO;have hix:=HIX.out;go_simp;exact ⟨Zr_ _ _,J⟩
         |9,_=>obtain rfl:=Zo_ ho;intro a wx hR hF hO;have f81:a.eval (.tmp 81)=E (I ⟨dg,ix * 19,O⟩):=hF 81 8 _ (by kernel_rfl) J J;have e81:=Tv_ f81;clear hF hO;exact Mo 50 _ J ⟨dg,ix * 19,O⟩ f81 (Z9 raw dx).toArray _ (HC16.out wx hR).2.2.2 underlying50 J (by rw [show (Z9 raw dx).toArray.size=19 from J];kernel_rfl) ⟨Zr_ _ _,J⟩
         |10,_=>obtain rfl:=Zo_ ho;intro a wx hR hF hO;have e6:=To_ hO 6 (E (I ⟨pk,0,O⟩));clear hF hO;go_simp;exact ⟨Zr_ _ _,J⟩
         |11,_=>obtain rfl:=Zo_ ho;intro a wx hR hF hO;have e83:=Tf_ hF 83 10 (E (I ⟨pk,0,O⟩));clear hF hO;go_simp;exact ⟨Zr_ _ _,J⟩
         |12,_=>obtain rfl:=Zo_ ho;intro a wx hR hF hO;have e84:=Tf_ hF 84 11 (E (I ⟨pk,0,O⟩));clear hF hO;go_simp;exact ⟨Zr_ _ _,J⟩
         |13,_=>obtain rfl:=Zo_ ho;intro a wx hR hF hO;have e85:=Tf_ hF 85 12 (E (I ⟨pk,2,O⟩));clear hF hO;obtain ⟨c14,c3,c2,_⟩:=HC16.out wx hR;go_simp;exact ⟨Zr_ _ _,J⟩
         |14,_=>obtain rfl:=Zo_ ho;intro a wx hR hF hO;have e86:=Tf_ hF 86 13 (.iface ti (E (I ⟨qk,0,O⟩)));clear hF hO;have hme:=hme1;have hcf:=hcf1;go_simp;refine Calls.mono (HDC.out wx hR) ?_;rintro e w' ⟨y,rfl,a1,a2,a3,a4,m⟩;have le:=Nat.le_trans HN0.out hR.size;exact ⟨_,J,m,y,J,a1.qj le,a2.qj le,a3.qj le,a4.qj le⟩
         |15,_=>obtain rfl:=Zo_ ho;intro a wx hR hF hO;have e82:=Tf_ hF 82 9 (.agg (Z9 raw dx).toArray);have e87:Mg n0 told (a.eval (.tmp 87)) wx:=hF 87 14 _ (by kernel_rfl) J J;clear hF hO;obtain ⟨y,q87,hr⟩:=e87;replace q87:a.tmps[87]?.getD undef=_:=(show a.tmps[87]?.getD undef=a.eval (.tmp 87) by simp [Act.eval]).trans q87;have HR:=Zh_ hr;have hj:=Lt raw told dx y (Yp HR.out.1.1) (Yp HR.out.2.1.1) (Yp HR.out.2.2.1.1) (Yp HR.out.2.2.2.1) wx;clear hr;go_simp;refine Calls.mono hj ?_;rintro e w' ⟨rfl,m⟩;exact ⟨_,J,m,y,J,HR.out.mod m⟩
         |16,_=>obtain rfl:=Zo_ ho;intro a wx hR hF hO;clear hF hO;go_simp;exact ⟨(Zr_ _ _).alloc _,_,J,heap_alloc_new _ _,Nat.le_trans HN0.out hR.size⟩
         |j+17,hh=>omega
        ·intro vs w8 hR hv;obtain ⟨xq,e10,k10,hn10⟩:Vq n0 (vs 16) w8:=hv 16 (by decide);obtain ⟨y,e88,hy⟩:Mi n0 raw dx told (vs 15) w8:=hv 15 (by decide);have K10:=Zh_ k10;have H8:=Zh_ (((Zr_ _ w7).drew).trans hR);have HN10:=Zh_ hn10;have HY:=Zh_ hy;have ONE:=Zh_ (V8 (raw.join told) (dx.join y) (Yp hy.1.1) (Yp hy.2.1.1) (Yp hy.2.2.1.1) (Yp hy.2.2.2.1));have hw8:w7.heap.size<=xq:=by rw [<-HNE.out];exact hn10
         have HW8:=Zh_ hw8;clear hR hv k10 hn10 hy hw8;simp only [Yx,List.take_succ_cons,List.take_zero,Act.put,e10,e88];go_simp;refine wpList_store_row J 50 _ _ J xq (Z9 (raw.join told) (dx.join y)).toArray J J 50 Yd K10.out (by rw [show (Z9 (raw.join told) (dx.join y)).toArray.size=19 from J];kernel_rfl) J (by rw [Array.all_eq_true_iff_forall_mem];intro u hu;exact ONE.out u (by simpa using hu)) ?_;go_wp2_with fail;go_meet;have mm:Ze [xq] w8 (w8.setRow xq (Z9 (raw.join told) (dx.join y)).toArray):=(Zr_ _ _).setRow _ _ (.inl (by simp));exact ⟨xq,y,J,Y0 K10.out,HN10.out,⟨HY.out.1.zy K10.out (by decide) mm,HY.out.2.1.zy K10.out (by decide) mm,HY.out.2.2.1.zy K10.out (by decide) mm,HY.out.2.2.2.zy K10.out (by decide) mm⟩,H8.out.setRow _ _ (.inr HW8.out)⟩
       case rest=>
        obtain ⟨xq,y,rfl,k10,hn10,hy,m8⟩:=hcut;generalize wc=w8 at *
        have hw8:w7.heap.size<=xq:=by rw [<-HNE.out];exact hn10
        have h8e:=Zh_ (h7.out.quiet m8 Z3);have f8e:=Zh_ (f7.out.trans (Bb.quiet m8 Z3));have HM8:=Zh_ m8;have HK10:=Zh_ k10;have HY:=Zh_ hy;have HW8:=Zh_ hw8;have HN10:=Zh_ hn10;obtain ⟨st,hst⟩:∃ z,z=(s5.steps:Int):=⟨_,J⟩;have hnx:xq≠px:=λ e=>by have:=h7.out.uh;rw [q6.out.x,<-HPX.out] at this;omega
        have hnr:xq≠pr:=λ e=>by have:=h7.out.j4.lt;rw [<-HPR.out] at this;omega
        obtain ⟨rf,ro,hR0⟩:=h8e.out.j4;rw [<-HPR.out] at hR0;have x15:=(h8e.out.xc 15 (u:=U Y s5.steps) J).1;have x12:=(h8e.out.xc 12 (u:=E (I ⟨P6.r,0,O⟩)) J).1;rw [q6.out.x,<-HPX.out,<-hst] at x15;rw [q6.out.x,<-HPX.out,<-HPR.out] at x12;have hlx:=h8e.out.uh;rw [q6.out.x,<-HPX.out] at hlx;have hlr:=B9 hR0;have y14:=Za (i:=14) k10 J;have y18:=Za (i:=18) k10 J;have z10:∀ j,w8.frozen? ⟨xq,j,O⟩=false:=λ j=>Zb k10;have z14:=z10 14;have z18:=z10 18;have hl10:=B9 k10;have HST5:=Zh_ hst;have HRR:=Zh_ hR0;have HNX:=Zh_ hnx;have HNR:=Zh_ hnr;have HAFT:=Zh_ (show ∀ wx,Ze [xq] w8 wx->wx.cell? ⟨px,15,O⟩=I (U Y st)/\wx.cell? ⟨px,12,O⟩=I (E (I ⟨pr,0,O⟩))/\wx.cell? ⟨pr,17,O⟩=I (U Y ro) from
         λ wx m=>⟨Z5 m hlx (by simpa using Ne.symm hnx) x15,Z5 m hlx (by simpa using Ne.symm hnx) x12,Za (m.at hR0 (by simpa using Ne.symm hnr)) J⟩)
        clear hst m8 k10 hy hn10 hw8 z10 hR0;go_upto_region 17 with fail
        go_cut [] (λ wx=>∃ o,wx=((w8.setCell ⟨xq,14,O⟩ (U Y st)).setCell ⟨xq,18,O⟩ (U Y o)).drew)
        case first=>
         go_region_held3 (λ wx=>wx.cell? ⟨px,15,O⟩=I (U Y st)/\wx.cell? ⟨px,12,O⟩=I (E (I ⟨pr,0,O⟩)))
          (first|exact ⟨x15,x12⟩|exact ⟨(HAFT.out _ ((((Zr_ _ _).setCell _ _ (.inl (by simp))).setCell _ _ (.inl (by simp))).drew)).1,(HAFT.out _ ((((Zr_ _ _).setCell _ _ (.inl (by simp))).setCell _ _ (.inl (by simp))).drew)).2.1⟩|exact ⟨(HAFT.out _ ((Zr_ _ _).setCell _ _ (.inl (by simp)))).1,(HAFT.out _ ((Zr_ _ _).setCell _ _ (.inl (by simp)))).2.1⟩|exact ⟨(HAFT.out _ (((Zr_ _ _).drew).setCell _ _ (.inl (by simp)))).1,(HAFT.out _ (((Zr_ _ _).drew).setCell _ _ (.inl (by simp)))).2.1⟩)
          (first|(go_at_call 26;refine (Hq (o:=ro) (by first|exact Za HRR.out J|exact (HAFT.out _ ((Zr_ _ _).setCell _ _ (.inl (by simp)))).2.2|exact (HAFT.out _ (((Zr_ _ _).drew).setCell _ _ (.inl (by simp)))).2.2)).mono ?_;rintro e wz ⟨rfl,rfl⟩))
         all_goals
          go_wp2_with fail;go_meet;exact ⟨_,J⟩
        case rest=>
         obtain ⟨o,rfl⟩:=hcut;obtain ⟨d,hd⟩:∃ z:Zu,z={raw.join told with ended:=st}:=⟨_,J⟩;obtain ⟨x,hx⟩:∃ z:DX,z={dx.join y with til:=o}:=⟨_,J⟩;obtain ⟨cs,hcs⟩:∃ z:Array Value,z=(Z9 d x).toArray:=⟨_,J⟩;have K9:((w8.setCell ⟨xq,14,O⟩ (U Y st)).setCell ⟨xq,18,O⟩ (U Y o)).drew.heap[xq]? =I (.cells cs 50 (0,0)):=by
          rw [hcs,hx,hd];exact Zd _ (Zd _ HK10.out)
         have m9:Ze [xq] w8 ((w8.setCell ⟨xq,14,O⟩ (U Y st)).setCell ⟨xq,18,O⟩ (U Y o)).drew:=(((Zr_ _ _).setCell _ _ (.inl (by simp))).setCell _ _ (.inl (by simp))).drew;clear x12 x15 y14 y18 z14 z18 hlx hlr hl10 hnx hnr;generalize ((w8.setCell ⟨xq,14,O⟩ (U Y st)).setCell ⟨xq,18,O⟩ (U Y o)).drew=w9 at *
         have hy9:Uu n0 told y w9:=⟨HY.out.1.zy HK10.out (by decide) m9,HY.out.2.1.zy HK10.out (by decide) m9,HY.out.2.2.1.zy HK10.out (by decide) m9,HY.out.2.2.2.zy HK10.out (by decide) m9⟩;have m79:Ze [] w7 w9:=HM8.out.then m9 (λ j hj=>.inr (by simp at hj;subst hj;exact HW8.out));have hcz:cs.size=19:=by rw [hcs];rfl
         have hone:∀ u∈cs.toList,u.oneCell'=true:=by
          rw [hcs,hx];intro u hu;exact V8 d {dx.join y with til:=o} (Yp hy9.1.1) (Yp hy9.2.1.1) (Yp hy9.2.2.1.1) (Yp hy9.2.2.2.1) u (by simpa using hu)
         have HC18:=Zh_ (show ∀ wx,Ze [] w9.drew wx->wx.cell? ⟨px,14,O⟩=I (L (I ⟨dg,0,O⟩) nd dc)/\wx.cell? ⟨pk,3,O⟩=I (U Y ix)/\wx.heap[xq]? =I (.cells cs 50 (0,0)) from
          λ wx hR=>by
           have m:Ze [] w9 wx:=((Zr_ _ w9).drew).trans hR;have hE:=h7.out.quiet (m79.trans m) Z3;have a1:=(hE.xc 14 (u:=P6.vd) J).1;have a2:=(hE.kc HT5.out 3 (u:=U Y (P6.ai t)) J).1;rw [q6.out.x,<-HPX.out,HVD.out] at a1;rw [q6.out.kt,<-HPK.out,HAI.out] at a2;exact ⟨a1,a2,m.at K9 (by simp)⟩)
         have HCZ:=Zh_ hcz;have HONE:=Zh_ hone;have HCS:=Zh_ hcs;have HDD:=Zh_ hd;have HXX:=Zh_ hx;have HY9:=Zh_ hy9;have HM79:=Zh_ m79;clear hd hx hcs K9 m9 hy9 m79 hcz hone;obtain ⟨s9,hs9⟩:∃ z:Zn,z={s5 with qe:=s5.qe.set ix ⟨d,I g'⟩}:=⟨_,J⟩;have HS9:=Zh_ hs9;clear hs9;go_upto_region 18 with fail
         go_cut [] (λ wx=>Jk w0 w7 yh P6 s9 wx)
         case first=>
          refine Yt (by kernel_rfl) 10 (by rfl) (λ x y=>Ze [] x y) (Dd px pk dg nd dc ix cs) (by kernel_rfl) (by rfl) (by kernel_rfl) (R6 px pk dg nd dc ix cs) (λ a=>Zr_ _ _) (λ a b c h k=>h.trans k) ?_ ?_ ?_
          ·exact λ i v w' hv o ho hd=>Vi (m:=10) (by kernel_rfl) (Cy px pk dg nd dc ix cs) ho hd
          ·intro i o hi ho
           match i,hi with
           |0,_=>obtain rfl:=Zo_ ho;intro a wx hR hF hO;have e0:=To_ hO 0 (E (I ⟨px,0,O⟩));clear hF hO;go_simp;exact ⟨Zr_ _ _,J⟩
           |1,_=>obtain rfl:=Zo_ ho;intro a wx hR hF hO;have e100:=Tf_ hF 100 0 (E (I ⟨px,0,O⟩));clear hF hO;go_simp;exact ⟨Zr_ _ _,J⟩
           |2,_=>obtain rfl:=Zo_ ho;intro a wx hR hF hO;have e101:=Tf_ hF 101 1 (E (I ⟨px,0,O⟩));clear hF hO;go_simp;exact ⟨Zr_ _ _,J⟩
           |3,_=>obtain rfl:=Zo_ ho;intro a wx hR hF hO;have e102:=Tf_ hF 102 2 (E (I ⟨px,14,O⟩));clear hF hO;obtain ⟨c14,c3,k10⟩:=HC18.out wx hR;go_simp;exact ⟨Zr_ _ _,J⟩
           |4,_=>obtain rfl:=Zo_ ho;intro a wx hR hF hO;have e6:=To_ hO 6 (E (I ⟨pk,0,O⟩));clear hF hO;go_simp;exact ⟨Zr_ _ _,J⟩
           |5,_=>obtain rfl:=Zo_ ho;intro a wx hR hF hO;have e104:=Tf_ hF 104 4 (E (I ⟨pk,0,O⟩));clear hF hO;go_simp;exact ⟨Zr_ _ _,J⟩
           |6,_=>obtain rfl:=Zo_ ho;intro a wx hR hF hO;have e105:=Tf_ hF 105 5 (E (I ⟨pk,0,O⟩));clear hF hO;go_simp;exact ⟨Zr_ _ _,J⟩
           |7,_=>obtain rfl:=Zo_ ho;intro a wx hR hF hO;have e106:=Tf_ hF 106 6 (E (I ⟨pk,3,O⟩));clear hF hO;obtain ⟨c14,c3,k10⟩:=HC18.out wx hR;go_simp;exact ⟨Zr_ _ _,J⟩
           |8,_=>obtain rfl:=Zo_ ho;intro a wx hR hF hO;have f10:a.eval (.tmp 10)=E (I ⟨xq,0,O⟩):=hO 10 (by kernel_rfl) (Zm (by kernel_rfl));have e10:=Tv_ f10;clear hF hO;exact Jd 50 _ J xq f10 50 cs (0,0) _ (HC18.out wx hR).2.2 underlying50 J (by rw [HCZ.out];kernel_rfl) ⟨Zr_ _ _,J⟩
           |9,_=>obtain rfl:=Zo_ ho;intro a wx hR hF hO;have e103:=Tf_ hF 103 3 (L (I ⟨dg,0,O⟩) nd dc);have e107:=Tf_ hF 107 7 (U Y ix);clear hF hO;have hix:=HIX.out;go_simp;exact ⟨Zr_ _ _,J⟩
           |j+10,hh=>omega
          ·intro vs wB hR hv;have e108:vs 8=.agg cs:=hv 8 (by decide);have e109:vs 9=E (I ⟨dg,ix * 19,O⟩):=hv 9 (by decide);have mB:Ze [] w7 wB:=HM79.out.trans (((Zr_ _ w9).drew).trans hR);obtain ⟨cur,hcur,hcl,hnew⟩:=O1 (Yg HROW.out mB) cs.toList (ix * 19) (by rw [Array.length_toList,HCZ.out];have:=HIX.out;omega);rw [Array.length_toList] at hcl;have HCUR:=Zh_ hcur;have HCL:=Zh_ hcl;have HNEW:=Zh_ hnew;have HMB:=Zh_ mB;have HRR:=Zh_ (((Zr_ _ w9).drew).trans hR);clear hv hR mB hcur hcl hnew;simp only [Yx,List.take_succ_cons,List.take_zero,Act.put,e108,e109];go_simp;refine Py J 50 _ _ J dg (ix * 19) cs J J 50 cur HCUR.out (by rw [HCZ.out];kernel_rfl) HCL.out HONE.out ?_;go_wp2_with fail;go_meet;have hnew:=HNEW.out;have hle:=h7.out.ze.len;have hil:ix < (s5.qe.map (·.raw)).length:=by have:=HIX.out;rw [HND.out] at this;simpa using this
           have ee:(Va (s5.qe.map (·.raw)) P6.es).take (ix * 19)++cs.toList++(Va (s5.qe.map (·.raw)) P6.es).drop (ix * 19+cs.toList.length)=Va ((s5.qe.map (·.raw)).set ix d) (P6.es.set ix x):=by
            rw [show cs.toList=Z9 d x by rw [HCS.out],show (Z9 d x).length=19 from J];exact Il hle hil d x
           rw [ee,Array.length_toList] at hnew;have mA:Ze [dg] w7 (wB.setRow dg (cur.toList.take (ix * 19)++cs.toList++cur.toList.drop (ix * 19+cs.size)).toArray):=(HMB.out.qj [dg]).setRow _ _ (.inl (by simp));have mD:Ze [dg] w9 (wB.setRow dg (cur.toList.take (ix * 19)++cs.toList++cur.toList.drop (ix * 19+cs.size)).toArray):=(HRR.out.qj [dg]).setRow _ _ (.inl (by simp));have hS:∀ j∈[dg],j < n0:=by intro j hj;simp at hj;subst hj;rw [HNE.out];exact HDL.out
           have hy:=HY9.out;obtain ⟨labx,hE,hF⟩:=h7.out.laid HX5.out d x (dg:=dg) (n0:=n0) (by rw [HVD.out];rfl) mA (by rw [HVD.out,<-HND.out];exact hnew) (by rw [HDD.out,HXX.out];exact hy.1.jo mD hS) (by rw [HDD.out,HXX.out];exact hy.2.1.jo mD hS) (by rw [HDD.out,HXX.out];exact hy.2.2.1.jo mD hS) (by rw [HDD.out,HXX.out];exact hy.2.2.2.jo mD hS) (Nat.le_of_eq HNE.out.symm);rw [List.append_assoc] at hE hF;exact ⟨labx,{P6 with es:=P6.es.set ix x},by rw [HS9.out];exact hE,⟨J,J,J,J,J⟩,hF⟩
         case rest=>
          obtain ⟨lab9,P9,h9',q9',f9'⟩:=hcut;generalize wc=w10 at *
          have q9:=Zh_ (q6.out.trans q9');have f9:=Zh_ (f7.out.trans f9');have hl9:s9.qi.length=s.qi.length:=by rw [HS9.out];exact HL5.out
          have ht9:t < s9.qi.length:=by rw [hl9];exact ht'
          have hth9:∀ u,s9.th u=sr.th u:=λ u=>by rw [HS9.out,HS5.out];rfl
          have hx9:s9.qe[ix]? =I ⟨d,I g'⟩:=by
           rw [HS9.out];show (s5.qe.set ix _)[ix]? =_;have:=(List.getElem?_eq_some_iff.1 HX5.out).1;simp [this]
          have hne9:∀ u,u < s9.qi.length->u≠t->(s9.th u).cur≠I ix:=by
           intro u hu hut hcu;rw [hth9] at hcu;exact hut (kr.out.one (by rw [HLR.out,<-hl9];exact hu) (by rw [HLR.out];exact ht') hcu HCR.out)
          obtain ⟨h10',f10'⟩:=h9'.freed ht9 hx9 hne9;have hkt:P9.kt t=pk:=by rw [q9.out.kt];exact HPK.out.symm
          have k2:=(h9'.kc ht9 2 (u:=P9.gv t) J);rw [hkt] at k2;obtain ⟨k2,z2⟩:=k2;have hlk:=h9'.klt ht9;rw [hkt] at hlk h10' f10';have hs10:{s9 with qi:=s9.qi.set t {s9.th t with cur:=O},qe:=s9.qe.set ix ⟨d,O⟩}=s.step t v:=by
           rw [HSTEP.out];unfold Zn.zc;rw [if_pos (by rw [<-HB.out]),hth9,HS9.out,HS5.out];show _={sr with mem:=_,qi:=_,qe:=sr.qe.set ix ⟨{raw.join (g.step sr.mem.opened v).1.told with ended:=sr.steps},O⟩};rw [<-HG'.out,<-HTOLD.out];have hd:d={raw.join told with ended:=(sr.steps:Int)}:=by rw [HDD.out,HST5.out,HS5.out];rfl
           rw [<-hd];simp only [Zn.vi,List.set_set]
          rw [hs10] at h10';have hl10:(s.step t v).qi.length=s.qi.length:=(HK.out.step ht' v).2;have h10:=Zh_ h10';have f10:=Zh_ (f9.out.trans f10');have k10:=(HK.out.step ht' v).1;have FC:=fin_c h10' k10.yz (t:=t) (by rw [hl10];exact ht');have FC:Calls N 43 #[E (I ⟨pk,0,O⟩)] (w10.setCell ⟨pk,2,O⟩ .nilIface) (λ e w'=>e=R_ (.bool ((s.step t v).th t).fin)/\Ze [] (w10.setCell ⟨pk,2,O⟩ .nilIface) w'):=by rw [<-hkt] at FC ⊢;exact FC
          obtain ⟨u2,hu2⟩:∃ z,z=P9.gv t:=⟨_,J⟩;rw [<-hu2] at k2;obtain ⟨fb,hfb⟩:∃ z,z=((s.step t v).th t).fin:=⟨_,J⟩;rw [<-hfb] at FC;have HQ9:=q9;clear hfb hu2 h9' q9' f9' hl9 ht9 hth9 hx9 hne9 h10' f10' hkt hs10 k10;go_wp2_with fail;refine FC.mono ?_;rintro e w11 ⟨rfl,m11⟩;have h11':=h10.out.quiet m11 Z3;have f11:=Zh_ (f10.out.trans (Bb.quiet m11 Z3));have h11:=Zh_ h11';have qx:({P9 with gv:=λ u=>if u=t then .nilIface else P9.gv u}:EP).x=px:=HQ9.out.x.trans HPX.out.symm;cases fb with
          |false=>
           have qQ:∃ v,Jk w0 w lab P (s.step t v) w11:=⟨v,lab9,_,h11',⟨HQ9.out.x,HQ9.out.a,HQ9.out.b,HQ9.out.r,HQ9.out.kt⟩,f11.out⟩;have HW:=Zh_ qQ;clear h11' qQ m11 FC qx;go_wp2;go_ret2;exact ⟨J,HW.out⟩
          |true=>
           have x12:=(h11'.xc 12 (u:=E (I ⟨P9.r,0,O⟩)) J).1;have lx:=h11'.uh;rw [qx] at x12 lx;have hc1:(s.step t v).c1=nt:=by rw [h11'.nt,hl10,HNT.out]
           have Rs:=No h11'.j4 (t:Int) (by omega) (by rw [hc1];have:=HT.out;omega) (by rw [hc1];have:=H8.out;omega);obtain ⟨pr9,hpr9⟩:∃ z,z=P9.r:=⟨_,J⟩;have Rs:Calls N 44 #[E (I ⟨pr9,0,O⟩),U Y t] w11 (Rnd w11 pr9 (s.step t v).c1 (U Y 0)):=by rw [hpr9];exact Rs
           rw [<-hpr9] at x12;have HPR9:=Zh_ hpr9;clear h11' m11 FC qx hc1 hpr9;go_wp2_with fail;refine Rs.mono ?_;rintro e w12 ⟨rfl,R12,m12⟩;obtain ⟨h12,f12⟩:=h11.out.rounds (w':=w12) (by show Qd w12 P9.r _;rw [<-HPR9.out];exact R12) (by show Ze [P9.r] _ _;rw [<-HPR9.out];exact m12);have qQ:∃ v,Jk w0 w lab P (s.step t v) w12:=⟨v,lab9,_,h12,⟨HQ9.out.x,HQ9.out.a,HQ9.out.b,HQ9.out.r,HQ9.out.kt⟩,f11.out.trans f12⟩;have HW:=Zh_ qQ;clear h12 f12 qQ R12 m12 Rs x12 lx;go_wp2;go_ret2;exact ⟨J,HW.out⟩
end
section
variable {w0 w w' w1:W} {lab lab' lab1:Nat->Nat} {P P':EP} {s s' r:Zn} {t i:Nat} {l:List Int}
theorem Kb (s:Zn) (t v:Nat):(s.step t v).steps<=s.steps+1/\s.steps<=(s.step t v).steps:=by
 have hr:(s.ready t).steps=s.steps+1:=by
  unfold Zn.ready;split <;> rfl
 have hf:((s.ready t).j9 t v).steps=(s.ready t).steps:=by
  unfold Zn.j9;split
  ·rfl
  ·split
   ·split <;> rfl
   ·rfl
 unfold Zn.step;split
 ·omega
 ·rw [hf,hr];omega
theorem Qn.snoc {ts:List Nat} (h:Qn s ts r) (t v:Nat):Qn s (ts++[t]) (r.step t v):=by
 induction h with
 |nil s=>exact .cons v (.nil _)
 |cons u _ ih=>exact .cons u ih
theorem Qn.ok {ts:List Nat} (h:Qn s ts r) (k:Yi s) (ht:∀ t∈ts,t < s.qi.length):Yi r/\r.qi.length=s.qi.length:=by
 induction h with
 |nil s=>exact ⟨k,J⟩
 |@cons s r t l v h ih=>
  have q:=k.step (ht t (by simp)) v;have:=ih q.1 (λ u hu=>by rw [q.2];exact ht u (by simp [hu]));exact ⟨this.1,this.2.trans q.2⟩
theorem Qn.steps {ts:List Nat} (h:Qn s ts r):r.steps<=s.steps+ts.length:=by
 induction h with
 |nil s=>simp
 |@cons s r t l v h ih=>
  have:=(Kb s t v).1;simp;omega
theorem Qn.trans {ts us:List Nat} {q:Zn} (h:Qn s ts r) (k:Qn r us q):Qn s (ts++us) q:=by
 induction h with
 |nil s=>exact k
 |cons v _ ih=>exact .cons v (ih k)
def Vm (n:Nat) (l:List Int):List Nat:=l.map λ x=>(Uh n x).toNat
theorem N5 {n:Nat} (hn:1<=n) (l:List Int):∀ t∈Vm n l,t < n:=by
 intro t ht;obtain ⟨x,_,rfl⟩:=List.mem_map.1 ht;have:=N6 (n:=n) (by omega) x;omega
theorem vg {v:Value} (h:Ys w0 w lab P s) (k:Yi s) (hv:Bf w v l) (hl:l.length<=65536) (hs:s.steps+l.length < 1000000000):
  Calls N 9 #[Xy P.x,v] w λ e w'=>∃ n s',e=R_ (.tuple #[U Y n,U Y 0])/\Qn s (Vm s.qi.length l) s'/\Jk w0 w lab P s' w':=by
 obtain ⟨tg,tc,hvt,_,_,_⟩:=h.row;have x13:=(h.xc 13 (u:=P.vt) J).1;rw [hvt] at x13;have lx:=h.uh;have F:=fold_c hv hl (n:=s.qi.length) (by have:=h.n1;omega) (by have:=h.n8;omega);obtain ⟨nt,hnt⟩:∃ z,z=s.qi.length:=⟨_,J⟩;rw [<-hnt] at x13 F ⊢
 obtain ⟨px,hpx⟩:∃ z,z=P.x:=⟨_,J⟩;rw [<-hpx] at x13 lx;unfold Xy;rw [<-hpx];have hv':=hv;obtain ⟨av,cv,rfl,_⟩:=hv';have d1:decide ((65536:Int) < l.length)=false:=D9 (by omega);have H:=Zh_ h;have HK:=Zh_ k;have HS:=Zh_ hs;have HL:=Zh_ hl;have HNT:=Zh_ hnt;have HPX:=Zh_ hpx;obtain ⟨len,hlen⟩:∃ z,z=l.length:=⟨_,J⟩;rw [<-hlen] at d1 F ⊢
 have HLEN:=Zh_ hlen;clear h k hv hs hl hvt hnt hpx hlen;go_enter func9,ntmps9;go_wp2_with fail;refine F.mono ?_;rintro e w1 ⟨cap,rfl,hc,hsz,m1⟩;obtain ⟨b,hb⟩:∃ z,z=w.heap.size:=⟨_,J⟩;rw [<-hb] at hc hsz ⊢
 obtain ⟨lab1,hlab⟩:∃ z,z=Pp lab w.heap.size 0:=⟨_,J⟩;have h1:=Zh_ (H.out.quiet (lab':=lab1) m1 (by rw [hlab];exact Ui 0));have f1:=Zh_ (Bb.quiet (lab:=lab) (lab':=lab1) m1 (by rw [hlab];exact Ui 0));have hb0:lab1 b=0:=by rw [hlab];exact Jx (by omega)
 have HB0:=Zh_ hb0;clear hb0 hlab hb m1 F x13 lx;go_wp2_with fail
 go_loopw [31,8] (λ i c wr=>∃ k n:Nat,k<=len/\n<=k/\i=U Y k/\c=U Y n/\∃ s',Qn s ((Vm nt l).take k) s'/\Jk w0 w1 lab1 P s' wr) (λ i c _=>len - (intOf i).toNat)
 case atStart=>exact ⟨0,0,by omega,by omega,rfl,rfl,s,.nil s,Jk.refl h1.out⟩
 case round=>
  obtain ⟨k,n,hk,hn,rfl,rfl,s',hr,lab2,P2,h2,q2,f2⟩:=hrel;have hl65:len<=65536:=by rw [HLEN.out];exact HL.out
  have hlen:=HLEN.out
  by_cases hlt:k < len
  ·have d4:decide ((k:Int) < len)=true:=decide_eq_true (by omega);have cb:wr.cell? ⟨b,k,O⟩=I (U Y (Uh nt (l.getD k 0))):=by
    have:=f2.blk b hsz HB0.out;exact (World.cell?_of_block (w:=w1) (a:=⟨b,k,O⟩) this).trans (hc k (by omega))
   have hbr:b < wr.heap.size:=Nat.lt_of_lt_of_le hsz f2.size;have hn1:1<=nt:=by rw [HNT.out];exact H.out.n1
   have ff:=N6 (n:=nt) (by omega) (l.getD k 0);obtain ⟨t,ht⟩:∃ t:Nat,(t:Int)=Uh nt (l.getD k 0):=⟨(Uh nt (l.getD k 0)).toNat,by omega⟩;rw [<-ht] at cb ff;have hmem:∀ u∈(Vm nt l).take k,u < s.qi.length:=λ u hu=>by rw [<-HNT.out];exact N5 hn1 l u (List.mem_of_mem_take hu)
   obtain ⟨kr,hlr⟩:=hr.ok HK.out hmem;have hst:=hr.steps;have hfl:(Vm nt l).length=l.length:=by unfold Vm;simp
   have C:=step24_c h2 kr (t:=t) (by rw [hlr,<-HNT.out];omega) (by have:=HS.out;rw [List.length_take] at hst;omega);unfold Xy at C;rw [q2.x,<-HPX.out] at C;have htk:(Vm nt l).take (k+1)=(Vm nt l).take k++[t]:=by
    rw [List.take_succ_eq_append_getElem (by rw [hfl];omega)];congr 2
    unfold Vm;simp only [List.getElem_map];rw [G_,List.getElem?_eq_getElem (by omega)] at ht;simp at ht;omega
   have HTK:=Zh_ htk;have HR:=Zh_ hr;have H2:=Zh_ h2;have Q2:=Zh_ q2;have F2:=Zh_ f2;obtain ⟨did,hdid⟩:∃ z,z=!(s'.th t).fin:=⟨_,J⟩;rw [<-hdid] at C;clear hdid htk hr h2 q2 f2 hmem kr hlr hst hfl ff hn1 ht hlen;go_wp2_with fail;refine C.mono ?_;rintro e w3 ⟨rfl,v,qQ⟩;obtain ⟨lab4,P4,h4,q4,f4⟩:=qQ;have W2:=Zh_ (show Jk w0 w1 lab1 P (s'.step t v) w3 from ⟨lab4,P4,h4,Q2.out.trans q4,F2.out.trans f4⟩);have R2:=Zh_ (show Qn s ((Vm nt l).take (k+1)) (s'.step t v) by rw [HTK.out];exact HR.out.snoc t v);clear h4 q4 f4;cases did with
   |false=>
    go_wp2;go_roundw
    case rel=>exact ⟨k+1,n,by omega,by omega,by go_num,rfl,_,R2.out,W2.out⟩
    case measure=>
     simp [intOf];omega
   |true=>
    go_wp2;go_roundw
    case rel=>exact ⟨k+1,n+1,by omega,by omega,by go_num,by go_num,_,R2.out,W2.out⟩
    case measure=>
     simp [intOf];omega
  ·have d4:decide ((k:Int) < len)=false:=D9 (by omega);obtain rfl:k=len:=by omega
   have R2:=Zh_ (show Qn s (Vm nt l) s' by
    have e:(Vm nt l).take k=Vm nt l:=List.take_of_length_le (by unfold Vm;simp;omega);rw [e] at hr;exact hr)
   have W2:=Zh_ (show Jk w0 w lab P s' wr from ⟨lab2,P2,h2,q2,f1.out.trans f2⟩);clear h2 q2 f2 hr hlen;go_wp2;go_ret2;refine ⟨n,s',J,R2.out,W2.out⟩
end
section
theorem Yn {P:Program} {ops:Array Oper} {rest:List Oper} {o:Oper} {a:Act} {w:W} {Q:Exit->Act->W->Prop} (hgd:o.guard=O)
  (h:J4 P (λ v w'=>wpList P ops Q rest (a.put o.dst v) w') ((execOp a.eval o).run P w)):wpList P ops Q (o :: rest) a w:=
 wpList_plain hgd λ _ hK=>by
  unfold Oper.wp;revert h;generalize (execOp a.eval o).run P w=r;intro h;cases r with
  |halt x w'=>exact h.elim
  |ok n w'=>
   cases n with
   |value v=>exact hK _ _ h
   |skip=>exact hK _ _ h
   |enter f args=>
    refine Calls.mono h (λ e w'' ⟨v,he,hv⟩=>?_);subst he;exact hK _ _ hv
   |_=>exact h.elim
theorem Y4 {P:Program} {ops:Array Oper} {rest:List Oper} {o:Oper} {a:Act} {w:W} {Q:Exit->Act->W->Prop} (v:Value) (hgd:o.guard=O)
  (hr:(execOp a.eval o).run P w=.ok (.value v) w) (h:wpList P ops Q rest (a.put o.dst v) w):wpList P ops Q (o :: rest) a w:=
 Yn hgd (by rw [hr];exact h)
theorem Fw {w:W} {o:Oper} {a:Act} {K:Value->W->Prop} (x:Tmp) (ho:o.op=.call {callee:=.builtin .append,args:=#[.const (L O 0 0),.tmp x],argTypes:=#[24,24]})
  (v:Value) (n:Nat) (xs:List Value) (hx:a.eval (.tmp x)=v) (hrow:w.ownsRow 0 51 1 v n xs) (hone:∀ u∈xs,u.oneCell'=true) (hb:n<=4096)
  (h:∀ u w',w'.ownsRow 0 51 1 u n xs->(∀ g,u.ownBlock=I g->w.heap.size<=g)->Ze [] w w'->K u w'):J4 N K ((execOp a.eval o).run N w):=by
 rcases hrow.2 with ⟨hv,h0⟩|⟨g,cap,cur,hv,-,-⟩
 ·subst h0;have hxs:xs=[]:=List.eq_nil_of_length_eq_zero (by simpa using hrow.1);rw [hv] at hx;have e:a.tmps[x]?.getD undef=L O 0 0:=by simpa [Act.eval] using hx
  obtain ⟨dst,op,ty,pos,after,guard⟩:=o;simp only at ho;subst ho;have hK:=h (L O 0 0) w (by rw [hxs];exact World.ownsRow_nil _ _ _ _) (by simp [Value.ownBlock]) (Zr_ _ _);clear h hx;go_simp;exact hK
 ·rw [hv] at hx hrow;have hcs:=hrow.cells (g:=g) J;have hl:xs.length=n * 1:=hrow.1;obtain ⟨i0,hi0,hz0,hz1,hz2⟩:=info_parts Up;refine Y2 (.const (L O 0 0)) (.tmp x) 24 ho 0 51 i0 (Z V 0) 1 8 underlying24 hi0 hz0 hz1 hz2 J (by decide) (L O 0 0) 0 [] J (World.ownsRow_nil _ _ _ _) ⟨g,0,O⟩ n cap xs hx hl hcs hone (by unfold maxLen;omega) (by omega) (Nat.zero_le _) ?_;intro v' w' h2 h3 h5;obtain ⟨u,hu,k1,k2,k3⟩:=Vl.of (t:=51) (z:=1) (n:=n) (xs:=xs) (by simpa using h2) h3 h5;simp only [Ending.returned.injEq] at hu;subst hu;exact h _ _ k1 k2 k3
theorem Fv {w:W} {o:Oper} {a:Act} {K:Value->W->Prop} (x:Tmp) (ho:o.op=.call {callee:=.builtin .append,args:=#[.const (L O 0 0),.tmp x],argTypes:=#[46,46]})
  (v:Value) (n:Nat) (xs:List Value) (hx:a.eval (.tmp x)=v) (hrow:w.ownsRow 0 53 2 v n xs) (hone:∀ u∈xs,u.oneCell'=true) (hb:n<=4096)
  (h:∀ u w',w'.ownsRow 0 53 2 u n xs->(∀ g,u.ownBlock=I g->w.heap.size<=g)->Ze [] w w'->K u w'):J4 N K ((execOp a.eval o).run N w):=by
 rcases hrow.2 with ⟨hv,h0⟩|⟨g,cap,cur,hv,-,-⟩
 ·subst h0;have hxs:xs=[]:=List.eq_nil_of_length_eq_zero (by simpa using hrow.1);rw [hv] at hx;have e:a.tmps[x]?.getD undef=L O 0 0:=by simpa [Act.eval] using hx
  obtain ⟨dst,op,ty,pos,after,guard⟩:=o;simp only at ho;subst ho;have hK:=h (L O 0 0) w (by rw [hxs];exact World.ownsRow_nil _ _ _ _) (by simp [Value.ownBlock]) (Zr_ _ _);clear h hx;go_simp;exact hK
 ·rw [hv] at hx hrow;have hcs:=hrow.cells (g:=g) J;have hl:xs.length=n * 2:=hrow.1;obtain ⟨i0,hi0,hz0,hz1,hz2⟩:=info_parts N4;refine Y2 (.const (L O 0 0)) (.tmp x) 46 ho 0 53 i0 (A_ #[U Y 0,Z V 0]) 2 16 underlying46 hi0 hz0 hz1 hz2 J (by decide) (L O 0 0) 0 [] J (World.ownsRow_nil _ _ _ _) ⟨g,0,O⟩ n cap xs hx hl hcs hone (by unfold maxLen;omega) (by omega) (Nat.zero_le _) ?_;intro v' w' h2 h3 h5;obtain ⟨u,hu,k1,k2,k3⟩:=Vl.of (t:=53) (z:=2) (n:=n) (xs:=xs) (by simpa using h2) h3 h5;simp only [Ending.returned.injEq] at hu;subst hu;exact h _ _ k1 k2 k3
end
end Go.Proofs.YtkhonmhnchdpkaaGreat

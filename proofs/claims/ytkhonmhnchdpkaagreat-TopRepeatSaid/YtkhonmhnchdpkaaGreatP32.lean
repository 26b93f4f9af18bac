/- A part of the proof; no condition. -/
import Derived.Test.YtkhonmhnchdpkaaGreatP31
set_option maxRecDepth 100000
set_option maxHeartbeats 40000000
namespace Go.Proofs.YtkhonmhnchdpkaaGreat
open Go.RowKit _root_.Go.Proofs.Tryz
section
section
variable {P:Program} {ops:Array Oper} {n i m:Nat} {o:Oper} {a0:Act} {R:World->World->Prop} {Rj:Nat->World->World->Prop} {p:Nat} {Bp:World->Prop} {wd:World} {F:Nat->Value->World->Prop}
theorem Inv.wholeE (hreg:Uf ops a0.tmps.size=true) (hF:∀ i j v w w',i≠j->Uz ops ops.size i j=false->F i v w->Rj j w w'->F i v w') (hsub:∀ i a b,Rj i a b->R a b) (htr:∀ a b c,R a b->R b c->R a c) (hB:∀ j a b,j≠p->Rj j a b->Bp a->Bp b) {Q:Exit->Act->World->Prop} (hops:∀ i o,i < ops.size->ops[i]? =some o->OpE P ops a0 R Rj p Bp wd F i o) (hskip:∀ i v w',F i v w'->∀ o,ops[i]? =some o->o.dst=none->F i undef w')
  (hend:∀ a w' listed,Inv ops a0 R wd F listed a w'->(∀ j,j < ops.size->listed.getD j false=true)->Q .normal a w'):∀ (fuel:Nat) (listed:Array Bool) (a:Act) (wx:World),(∀ n,n=(List.range ops.size).countP (λ i=>!listed.getD i true)->n<=fuel)->(listed.getD p true=false->Bp wx)->Inv ops a0 R wd F listed a wx->wpAny P .any ops Q fuel listed a wx
 |0,listed,a,wx,hn,hb,h=>by
  have h0:=hn _ rfl;have hz:(List.range ops.size).countP (λ i=>!listed.getD i true)=0:=by omega
  rw [List.countP_eq_zero] at hz;have hall:∀ j,j < ops.size->listed.getD j false=true:=by
   intro j hj;have:=hz j (by rw [List.mem_range];exact hj);have hj':j < listed.size:=by rw [h.sz];exact hj
   simp [hj'] at this ⊢
   exact this
  exact ⟨Pj hall h.sz,hend a wx listed h hall⟩
 |fuel+1,listed,a,wx,hn,hb,h=>by
  refine ⟨λ hr=>hend a wx listed h (Jp hreg h.sz hr),λ i hi=>?_⟩;have him:i < ops.size:=(Array.getElem?_eq_some_iff.1 (mem_ready.1 hi).2.choose_spec.1).1;refine h.runE hreg hF hsub htr hB hops hb him hi (λ a' w' h' hb'=>Inv.wholeE hreg hF hsub htr hB hops hskip hend fuel _ a' w' ?_ hb' h') hskip;intro n hn';obtain ⟨hl,o,ho,_⟩:=mem_ready.1 hi;have h1:=hn _ rfl;have:(List.range ops.size).countP (λ j=>!(listed.setIfInBounds i true).getD j true)+1<=(List.range ops.size).countP (λ j=>!listed.getD j true):=by
   have key:∀ l:List Nat,l.Nodup->i∈l->l.countP (λ j=>!(listed.setIfInBounds i true).getD j true)+1<=l.countP (λ j=>!listed.getD j true):=by
    intro l
    induction l with
    |nil=>intro _ hm;cases hm
    |cons x l ih=>
     intro hnd hm;rw [List.nodup_cons] at hnd;rw [List.countP_cons,List.countP_cons];rcases List.mem_cons.1 hm with rfl|hm
     ·have e1:(!(listed.setIfInBounds i true).getD i true)=false:=by
       simp [Array.getElem?_setIfInBounds];split <;> rfl
      have e2:(!listed.getD i true)=true:=by rw [hl];rfl
      rw [e1,e2];have:l.countP (λ j=>!(listed.setIfInBounds i true).getD j true)<=l.countP (λ j=>!listed.getD j true):=by
       refine List.countP_mono_left (λ y hy=>?_);have hne:i≠y:=λ e=>hnd.1 (e ▸ hy);simp [hne]
      rw [if_neg (by decide),if_pos rfl];omega
     ·have hne:i≠x:=λ e=>hnd.1 (e ▸ hm);have e1:(!(listed.setIfInBounds i true).getD x true)=!listed.getD x true:=by simp [hne]
      rw [e1];have:=ih hnd.2 hm;omega
   exact key _ List.nodup_range (List.mem_range.2 him)
  omega
end
section
variable {P:Program} {ops:Array Oper} {n i m:Nat} {o:Oper} {a0:Act} {F:Nat->Value->World->Prop}
theorem Fz {id:Nat} {Q:Exit->Act->World->Prop} {w:World} (hm:P.follows .mixedOrders=true) (m:Nat) (R:World->World->Prop) (Rj:Nat->World->World->Prop) (p:Nat) (Bp:World->Prop) (F:Nat->Value->World->Prop)
  (hreg:Uf ops a0.tmps.size=true) (hsz:ops.size=m) (hF:∀ i j v w w',i≠j->Uz ops ops.size i j=false->F i v w->Rj j w w'->F i v w') (hsub:∀ i a b,Rj i a b->R a b) (hB:∀ j a b,j≠p->Rj j a b->Bp a->Bp b) (hB0:Bp w.drew) (hrf:∀ a,R a a) (htr:∀ a b c,R a b->R b c->R a c)
  (hskip:∀ i v w',F i v w'->∀ o,ops[i]? =some o->o.dst=none->F i undef w')
  (hops:∀ i o,i < m->ops[i]? =some o->OpE P ops a0 R Rj p Bp w.drew F i o)
  (hend:∀ (vs:Nat->Value) w',R w.drew w'->(∀ i,i < m->F i (vs i) w')->Q .normal (Xb a0 vs ops.toList 0) w'):(Code.region id ops true).wp P Q a0 w:=by
 subst hsz;refine wp_region_any hm (Inv.wholeE hreg hF hsub htr hB hops hskip ?_ ops.size _ a0 _ ?_ (λ _=>hB0) ⟨by simp,hrf _,rfl,rfl,λ _ _=>rfl,λ j oj hj hl=>?_,λ j oj hj hl=>?_⟩)
 ·intro a w' listed h hall
  let vs:Nat->Value:=λ i=>match (ops[i]?).bind (·.dst) with|none=>undef|some d=>a.tmps.getD d undef
  have e:a=Xb a0 vs ops.toList 0:=by
   have hsz':a.tmps.size=(Xb a0 vs ops.toList 0).tmps.size:=by rw [U8];exact h.tsz
   have ht:a.tmps=(Xb a0 vs ops.toList 0).tmps:=by
    refine Array.ext hsz' (λ k hk1 hk2=>?_);have g1:a.tmps.getD k undef=a.tmps[k]:=by simp [hk1]
    have g2:(Xb a0 vs ops.toList 0).tmps.getD k undef=(Xb a0 vs ops.toList 0).tmps[k]:=by simp [hk2]
    rw [<-g1,<-g2]
    by_cases hex:∃ (j:Nat) (oj:Oper),ops[j]? =some oj/\oj.dst=some k
    ·obtain ⟨j,oj,hj,hd⟩:=hex;rw [G9 vs k ops.toList 0 a0 j oj (by simpa using hj) hd (by rw [<-h.tsz];exact hk1) (λ j' o' hj' hne hd'=>by
      have hj2:ops[j']? =some o':=by simpa using hj'
      exact (Qp (Q6 hreg hj)).dist j' o' k hj2 hd' (Ne.symm hne) hd)]
     show _=(match (ops[0+j]?).bind (·.dst) with|none=>undef|some d=>a.tmps.getD d undef);rw [Nat.zero_add,hj];simp [hd]
    ·rw [U9 vs k ops.toList 0 a0 (λ o ho hd=>by
      obtain ⟨j,hj⟩:=List.getElem?_of_mem ho;exact hex ⟨j,o,by simpa using hj,hd⟩)]
     exact h.out k (λ j oj hj hd=>absurd ⟨j,oj,hj,hd⟩ hex)
   have hd:a.defers=(Xb a0 vs ops.toList 0).defers:=by rw [Vo];exact h.dfs
   cases a
   cases hp:Xb a0 vs ops.toList 0
   rw [hp] at ht hd;simp only at ht hd;rw [ht,hd]
  rw [e];refine hend vs w' h.cls (λ i hi=>?_);have hoi:ops[i]? =some ops[i]:=by simp [hi]
  have:=h.don i _ hoi (hall i hi);show F i (match (ops[i]?).bind (·.dst) with|none=>undef|some d=>a.tmps.getD d undef) w';rw [hoi];simp only [Option.bind_some];cases hd:ops[i].dst with
  |none=>rw [hd] at this;exact this
  |some d=>rw [hd] at this;exact this
 ·intro k hk;rw [hk];refine Nat.le_trans List.countP_le_length (by simp)
 ·have hlt:=(Array.getElem?_eq_some_iff.1 hj).1;simp [hlt] at hl
 ·have hlt:=(Array.getElem?_eq_some_iff.1 hj).1;simp [hlt] at hl
end
end
section
variable {w0 w w' w1:World} {lab lab' lab1:Nat->Nat} {P P':EP} {s s':Zq} {t i:Nat} {S J:List Nat} {raw:Zv} {g:Qw} {r:Qw×Zh}
theorem Yu.xc (h:Yu w0 w lab P s) (j:Nat) {u:Value} (hu:(J6 P s)[j]? =some u):w.cell? ⟨P.x,j,none⟩=some u/\w.frozen? ⟨P.x,j,none⟩=false:=⟨Za h.hx hu,Zb h.hx⟩
theorem Yu.kc (h:Yu w0 w lab P s) (ht:t < s.ths.length) (j:Nat) {u:Value} (hu:(Qg (P.vc t) (s.th t).begun (P.gv t) (P.ai t))[j]? =some u):w.cell? ⟨P.kt t,j,none⟩=some u/\w.frozen? ⟨P.kt t,j,none⟩=false:=⟨Za (h.thd t ht) hu,Zb (h.thd t ht)⟩
theorem Yu.xlt (h:Yu w0 w lab P s):P.x < w.heap.size:=lt_of_block h.hx
theorem Yu.klt (h:Yu w0 w lab P s) (ht:t < s.ths.length):P.kt t < w.heap.size:=lt_of_block (h.thd t ht)
theorem first_on (s:Zq) (t:Nat) (m:Zh) (v:Nat):((s.newG t).step m v).1.over=false:=by
 unfold Zq.newG;split
 ·rfl
 ·show (((Up _ _ _ _ _ _ _ _).step m v).1.part==4)=false;unfold Yg.step;rw [if_pos (by rfl)];simp only;split <;> rfl
theorem Tm (ht:t < s.ths.length) (hc:(s.th t).cur=none) {ix:Nat} (h1:((s.ready t).th t).cur=some ix) (h2:(s.ready t).txs[ix]? =some ⟨raw,some g⟩):g=({s with steps:=s.steps+1}:Zq).newG t:=by
 have e:s.ready t=({s with steps:=s.steps+1}:Zq).begin t:=by unfold Zq.ready;rw [hc];rfl
 rw [e] at h1 h2;have e1:((({s with steps:=s.steps+1}:Zq).begin t).th t).cur=some s.txs.length:=by
  show ((s.ths.set t _).getD t Bd).cur=_;rw [Bv _ _ _ _ ht,if_pos rfl]
 rw [e1] at h1;obtain rfl:=Zo_ h1;have e2:(({s with steps:=s.steps+1}:Zq).begin t).txs[s.txs.length]? =some ⟨Xl t (s.th t).begun (s.call t).1 ((s.steps+1:Nat):Int),some (({s with steps:=s.steps+1}:Zq).newG t)⟩:=by
  show (s.txs++[_])[s.txs.length]? =_;simp;rfl
 rw [e2] at h2;simp at h2;exact h2.2.symm
def Fa (D:List Nat) (p i:Nat):World->World->Prop:=if i=p then Ze D else Ze []
theorem Yi {D:List Nat} {p i:Nat} {a b:World} (hi:i≠p) (m:Ze [] a b):Fa D p i a b:=by
 unfold Fa;rw [if_neg hi];exact m
theorem Lc {D:List Nat} {p:Nat} {a b:World} (m:Ze D a b):Fa D p p a b:=by
 unfold Fa;rw [if_pos rfl];exact m
theorem Vs {D:List Nat} {p i:Nat} {a b:World} (hi:i≠p) (m:Fa D p i a b):Ze [] a b:=by
 unfold Fa at m;rw [if_neg hi] at m;exact m
theorem Vr {D:List Nat} {p i:Nat} {a b:World} (m:Fa D p i a b):Ze D a b:=by
 unfold Fa at m;split at m
 ·exact m
 ·exact m.weak _
theorem Z8.keep {n0 z n:Nat} {t:TypeId} {xs:List Value} {v:Value} {S:List Nat} {w w':World} (h:Z8 n0 t z n xs v w) (m:Ze S w w') (hS:∀ k∈S,k < n0):Z8 n0 t z n xs v w':=
 ⟨Zs h.1 m (λ k hk hm=>by have:=h.2 k hk;have:=hS k hm;omega),h.2⟩
def V4 (n0:Nat) (d:Zv) (y:DX) (w:World):Prop:=Xm n0 d.args y.va w/\Qf n0 d.reads y.vr w/\Qf n0 d.writes y.vw w/\Xm n0 d.out y.vo w
theorem V4.mod {n0:Nat} {d:Zv} {y:DX} {w w':World} (h:V4 n0 d y w) (m:Ze [] w w'):V4 n0 d y w':=⟨h.1.mod m,h.2.1.mod m,h.2.2.1.mod m,h.2.2.2.mod m⟩
def Pz (n0:Nat) (d:Zv) (v:Value) (w:World):Prop:=∃ y:DX,v=.agg (Z5 d y).toArray/\V4 n0 d y w
theorem Pz.mod {n0:Nat} {d:Zv} {v:Value} {w w':World} (h:Pz n0 d v w) (m:Ze [] w w'):Pz n0 d v w':=by
 obtain ⟨y,h1,h2⟩:=h;exact ⟨y,h1,h2.mod m⟩
def P8 (n0:Nat) (raw:Zv) (dx:DX) (d:Zv) (v:Value) (w:World):Prop:=∃ y:DX,v=.agg (Z5 (raw.join d) (dx.join y)).toArray/\V4 n0 d y w
theorem P8.mod {n0:Nat} {raw d:Zv} {dx:DX} {v:Value} {w w':World} (h:P8 n0 raw dx d v w) (m:Ze [] w w'):P8 n0 raw dx d v w':=by
 obtain ⟨y,h1,h2⟩:=h;exact ⟨y,h1,h2.mod m⟩
theorem Yo {w:World} {b e z n:Nat} {xs:List Value} {v:Value} (h:w.ownsRow b e z v n xs):v.oneCell'=true:=by
 obtain ⟨a,c,rfl⟩:=Zo h;rfl
theorem Vk (d:Zv) (y:DX) (h1:y.va.oneCell'=true) (h2:y.vr.oneCell'=true) (h3:y.vw.oneCell'=true) (h4:y.vo.oneCell'=true):∀ u∈Z5 d y,u.oneCell'=true:=by
 intro u hu;unfold Z5 at hu;simp only [List.mem_cons,List.not_mem_nil,or_false] at hu;rcases hu with rfl|rfl|rfl|rfl|rfl|rfl|rfl|rfl|rfl|rfl|rfl|rfl|rfl|rfl|rfl|rfl|rfl|rfl|rfl
 all_goals first|rfl|assumption
def Hg (px pk dg nd dc ix n0 qk:Nat) (ti:TypeId) (raw told:Zv) (dx:DX):Nat->Value->World->Prop
 |0,v,_=>v=.pointer (some ⟨px,0,none⟩)
 |1,v,_=>v=.pointer (some ⟨px,0,none⟩)
 |2,v,_=>v=.pointer (some ⟨px,14,none⟩)
 |3,v,_=>v=.slice (some ⟨dg,0,none⟩) nd dc
 |4,v,_=>v=.pointer (some ⟨pk,0,none⟩)
 |5,v,_=>v=.pointer (some ⟨pk,0,none⟩)
 |6,v,_=>v=.pointer (some ⟨pk,3,none⟩)
 |7,v,_=>v=.int .i64 ix
 |8,v,_=>v=.pointer (some ⟨dg,ix * 19,none⟩)
 |9,v,_=>v=.agg (Z5 raw dx).toArray
 |10,v,_=>v=.pointer (some ⟨pk,0,none⟩)
 |11,v,_=>v=.pointer (some ⟨pk,0,none⟩)
 |12,v,_=>v=.pointer (some ⟨pk,2,none⟩)
 |13,v,_=>v=.iface ti (.pointer (some ⟨qk,0,none⟩))
 |14,v,w=>Pz n0 told v w
 |15,v,w=>P8 n0 raw dx told v w
 |16,v,w=>Q3 n0 v w
 |_,_,_=>True
theorem Cj (px pk dg nd dc ix n0 qk:Nat) (ti:TypeId) (raw told:Zv) (dx:DX) (i:Nat) (v:Value) (w w':World) (h:Hg px pk dg nd dc ix n0 qk ti raw told dx i v w) (m:Ze [] w w'):Hg px pk dg nd dc ix n0 qk ti raw told dx i v w':=by
 match i,h with
 |0,h=>exact h
 |1,h=>exact h
 |2,h=>exact h
 |3,h=>exact h
 |4,h=>exact h
 |5,h=>exact h
 |6,h=>exact h
 |7,h=>exact h
 |8,h=>exact h
 |9,h=>exact h
 |10,h=>exact h
 |11,h=>exact h
 |12,h=>exact h
 |13,h=>exact h
 |14,h=>exact h.mod m
 |15,h=>exact h.mod m
 |16,h=>exact Q3.mod h m
 |i+17,h=>trivial
theorem Mj (px pk dg nd dc ix n0 qk:Nat) (ti:TypeId) (raw told:Zv) (dx:DX) (i:Nat) (h:17<=i) (v:Value) (w:World):Hg px pk dg nd dc ix n0 qk ti raw told dx i v w:=by
 match i,h with
 |j+17,_=>trivial
def Hf (px pk dg nd dc ix:Nat) (cs:Array Value):Nat->Value->World->Prop
 |0,v,_=>v=.pointer (some ⟨px,0,none⟩)
 |1,v,_=>v=.pointer (some ⟨px,0,none⟩)
 |2,v,_=>v=.pointer (some ⟨px,14,none⟩)
 |3,v,_=>v=.slice (some ⟨dg,0,none⟩) nd dc
 |4,v,_=>v=.pointer (some ⟨pk,0,none⟩)
 |5,v,_=>v=.pointer (some ⟨pk,0,none⟩)
 |6,v,_=>v=.pointer (some ⟨pk,3,none⟩)
 |7,v,_=>v=.int .i64 ix
 |8,v,_=>v=.agg cs
 |9,v,_=>v=.pointer (some ⟨dg,ix * 19,none⟩)
 |_,_,_=>True
theorem Ci (px pk dg nd dc ix:Nat) (cs:Array Value) (i:Nat) (v:Value) (w w':World) (h:Hf px pk dg nd dc ix cs i v w) (_:Ze [] w w'):Hf px pk dg nd dc ix cs i v w':=by
 match i,h with
 |0,h=>exact h
 |1,h=>exact h
 |2,h=>exact h
 |3,h=>exact h
 |4,h=>exact h
 |5,h=>exact h
 |6,h=>exact h
 |7,h=>exact h
 |8,h=>exact h
 |9,h=>exact h
 |i+10,h=>trivial
theorem Mi (px pk dg nd dc ix:Nat) (cs:Array Value) (i:Nat) (h:10<=i) (v:Value) (w:World):Hf px pk dg nd dc ix cs i v w:=by
 match i,h with
 |j+10,_=>trivial
def Hh (px pk ma qk:Nat) (ti:TypeId) (Post:Bool->World->Prop):Nat->Value->World->Prop
 |0,v,_=>v=.pointer (some ⟨pk,0,none⟩)
 |1,v,_=>v=.pointer (some ⟨pk,0,none⟩)
 |2,v,_=>v=.pointer (some ⟨pk,2,none⟩)
 |3,v,_=>v=.iface ti (.pointer (some ⟨qk,0,none⟩))
 |4,v,_=>v=.pointer (some ⟨px,0,none⟩)
 |5,v,_=>v=.pointer (some ⟨px,0,none⟩)
 |6,v,_=>v=.pointer (some ⟨px,11,none⟩)
 |7,v,_=>v=.pointer (some ⟨ma,0,none⟩)
 |8,v,_=>v=.iface ti (.pointer (some ⟨qk,0,none⟩))
 |9,v,_=>v=.iface ti (.pointer (some ⟨qk,0,none⟩))
 |10,v,w=>∃ b,v=.tuple #[.bool b,.int .i64 0]/\Post b w
 |11,v,w=>∃ b,v=.tuple #[.bool b,.int .i64 0]/\Post b w
 |12,v,w=>∃ b,v=.bool b/\Post b w
 |13,v,_=>v=.int .i64 0
 |14,v,w=>∃ b,v=.bool b/\Post b w
 |15,v,_=>v=.int .i64 0
 |_,_,_=>True
theorem Ck (px pk ma qk:Nat) (ti:TypeId) (Post:Bool->World->Prop) (hP:∀ b w w',Post b w->Ze [] w w'->Post b w') (D:List Nat) (i j:Nat) (v:Value) (w w':World) (hij:i≠j) (hd:¬ (j=10/\(i=11\/i=12\/i=14))) (h:Hh px pk ma qk ti Post i v w) (m:Fa D 10 j w w'):Hh px pk ma qk ti Post i v w':=by
 match i,hij,hd,h with
 |0,_,_,h=>exact h
 |1,_,_,h=>exact h
 |2,_,_,h=>exact h
 |3,_,_,h=>exact h
 |4,_,_,h=>exact h
 |5,_,_,h=>exact h
 |6,_,_,h=>exact h
 |7,_,_,h=>exact h
 |8,_,_,h=>exact h
 |9,_,_,h=>exact h
 |10,hij,hd,⟨b,h1,h2⟩=>exact ⟨b,h1,hP _ _ _ h2 (Vs (by omega) m)⟩
 |11,hij,hd,⟨b,h1,h2⟩=>exact ⟨b,h1,hP _ _ _ h2 (Vs (by omega) m)⟩
 |12,hij,hd,⟨b,h1,h2⟩=>exact ⟨b,h1,hP _ _ _ h2 (Vs (by omega) m)⟩
 |13,_,_,h=>exact h
 |14,hij,hd,⟨b,h1,h2⟩=>exact ⟨b,h1,hP _ _ _ h2 (Vs (by omega) m)⟩
 |15,_,_,h=>exact h
 |i+16,_,_,h=>trivial
theorem Mk (px pk ma qk:Nat) (ti:TypeId) (Post:Bool->World->Prop) (i:Nat) (h:16<=i) (v:Value) (w:World):Hh px pk ma qk ti Post i v w:=by
 match i,h with
 |j+16,_=>trivial
theorem step24_c (h:Yu w0 w lab P s) (k:Ym s) (ht:t < s.ths.length) (hs:s.steps+1 < 1000000000):
  Calls Tryz.prog 24 #[Xs P.x,.int .i64 t] w λ e w'=>e=.returned (.tuple #[.bool (!(s.th t).fin),.int .i64 0])/\∃ v,Uq w0 w lab P (s.step t v) w':=by
 obtain ⟨tg,tc,hvt,_,tgl,hT⟩:=h.row;have x13:=(h.xc 13 (u:=P.vt) rfl).1;rw [hvt] at x13;have T:=hT t ht;have h8:=h.n8;have hst:=k.st;obtain ⟨nt,hnt⟩:∃ z,z=s.ths.length:=⟨_,rfl⟩;have HNT:=Zh_ hnt;rw [<-hnt] at x13 ht h8;have d1:decide ((t:Int) < 0)=false:=decide_eq_false (by omega);have d2:decide ((nt:Int)<=t)=false:=decide_eq_false (by omega);have C:=fin_c h k.goes (by rw [<-hnt];exact ht);obtain ⟨px,hpx⟩:∃ z,z=P.x:=⟨_,rfl⟩;obtain ⟨pk,hpk⟩:∃ z,z=P.kt t:=⟨_,rfl⟩;rw [<-hpx] at x13;unfold Xs at T C ⊢
 rw [<-hpk] at T C;rw [<-hpx];obtain ⟨fi,hfi⟩:∃ z,z=(s.th t).fin:=⟨_,rfl⟩;rw [<-hfi] at C ⊢
 have HPX:=Zh_ hpx;have HPK:=Zh_ hpk;have HF:=Zh_ hfi;have HH:=Zh_ h;have HK:=Zh_ k;have HS:=Zh_ hs;have HT:=Zh_ ht;have H8:=Zh_ h8;have HST:=Zh_ hst;clear hpx hpk hfi h k hs hT hvt hnt hst;go_enter func24,ntmps24;go_wp2_with fail;refine C.mono ?_;rintro e w1 ⟨rfl,m1⟩;have h1:=Zh_ (HH.out.quiet m1 Z1);have f1:=Zh_ (Kp.quiet (lab:=lab) m1 Z1);clear m1 x13 T tgl C d1 d2;cases fi with
 |true=>
  go_wp2;go_ret2;refine ⟨rfl,0,lab,P,?_,Ha.refl P,f1.out⟩;have e:s.step t 0=s:=by unfold Zq.step;rw [if_pos HF.out.symm]
  rw [e];exact h1.out
 |false=>
  have ht':t < s.ths.length:=by rw [<-HNT.out];exact HT.out
  have x15:=(h1.out.xc 15 (u:=.int .i64 s.steps) rfl);rw [<-HPX.out] at x15;obtain ⟨x15,z15⟩:=x15;have lx:=h1.out.xlt;rw [<-HPX.out] at lx;obtain ⟨sn,hsn⟩:∃ z:Nat,z=s.steps:=⟨_,rfl⟩;have hs:=HS.out;rw [<-hsn] at x15 hs;have HSN:=Zh_ hsn;clear hsn;go_upto_region 7 with fail;obtain ⟨h2',f2'⟩:=h1.out.ticked ((sn:Int)+1) (by rw [HSN.out];simp);rw [<-HPX.out] at h2' f2';have h2:=Zh_ h2';have f2:=Zh_ (f1.out.trans f2');clear h2' f2' x15 z15 lx;generalize w1.setCell ⟨px,15,none⟩ (.int .i64 ((sn:Int)+1))=w2 at *
  obtain ⟨fst,hfst⟩:∃ z,z=(s.th t).cur.isNone:=⟨_,rfl⟩;have HFS:=Zh_ hfst;clear hfst
  go_cut [7] (λ A wx=>A=.bool fst/\Ze [] w2 wx)
  case first=>
   have c2:=(h2.out.kc (t:=t) ht' 2 (u:=P.gv t) rfl).1;rw [<-HPK.out] at c2;have lk:=h2.out.klt (t:=t) ht';rw [<-HPK.out] at lk;have G:=h2.out.go t ht';obtain ⟨hc,hgo⟩|⟨i,x,g,hc,_,_,hgo⟩:=(HK.out.tick.goes).goer (t:=t) ht'
   ·have hg:P.gv t=.nilIface:=by rw [hgo] at G;exact G
    rw [hg] at c2;have hF:fst=true:=by rw [HFS.out];have hc:(s.th t).cur=none:=hc;rw [hc];rfl
    clear G hgo hc hg;subst hF;go_wp2_with fail;go_meet;exact ⟨rfl,Zr_ _ _⟩
   ·obtain ⟨ti,u,hg⟩:∃ ti u,P.gv t=.iface ti u:=by rw [hgo] at G;exact G.some_iface
    rw [hg] at c2;have hF:fst=false:=by rw [HFS.out];have hc:(s.th t).cur=some i:=hc;rw [hc];rfl
    clear G hgo hc hg;subst hF;go_wp2_with fail;go_meet;exact ⟨rfl,Zr_ _ _⟩
  case rest=>
   obtain ⟨rfl,m7⟩:=hcut;have h3:=Zh_ (h2.out.quiet m7 Z1);have f3:=Zh_ (f2.out.trans (Kp.quiet m7 Z1));clear m7;generalize wc=w3 at *
   go_upto_if 43 with fail
   go_cut [] (λ wx=>Uq w0 w3 lab P (s.ready t) wx)
   case first=>
    have hf:(s.th t).fin=false:=HF.out.symm;cases fst with
    |false=>
     have e:s.ready t={s with steps:=s.steps+1}:=by unfold Zq.ready;rw [<-HFS.out];rfl
     clear hf;go_wp2_with fail;go_meet;rw [e];exact Uq.refl h3.out
    |true=>
     have e:s.ready t=({s with steps:=s.steps+1}:Zq).begin t:=by unfold Zq.ready;rw [<-HFS.out];rfl
     have hc:(s.th t).cur=none:=by have:=HFS.out;cases hq:(s.th t).cur with|none=>rfl|some _=>rw [hq] at this;cases this
     have hb:(s.th t).begun < (s.th t).calls.length:=by
      unfold Gn.fin at hf;rw [hc] at hf;simp at hf;have:=(HK.out.begun t ht').1;omega
     have B:=begin_c h3.out HK.out.tick ht' hc hb (by have:=HST.out;have:=HS.out;show s.txs.length < _;omega);unfold Xs at B;rw [<-HPX.out,<-e] at B;clear hf e hc hb;go_wp2_with fail;refine B.mono ?_;rintro e w4 ⟨rfl,W⟩;go_wp2_with fail;go_meet;exact W
   case rest=>
    obtain ⟨lab4,P4,h4',q4',f4'⟩:=hcut;generalize wc=w4 at *
    have hf:(s.th t).fin=false:=HF.out.symm;obtain ⟨kr',hlr,ix,hcr'⟩:=HK.out.ready ht' hf;obtain ⟨sr,hsr⟩:∃ z,z=s.ready t:=⟨_,rfl⟩;rw [<-hsr] at h4' kr' hlr hcr';obtain ⟨raw,g,hx',_,_⟩:=kr'.cur t ix (by rw [hlr];exact ht') hcr';obtain ⟨ti,qk,f,D,egv,hme0,hcf0,hD,hSC⟩:=h4'.stepC kr' (by rw [hlr];exact ht') hcr' hx';obtain ⟨ma,hma⟩:∃ z,z=P4.a:=⟨_,rfl⟩;have h4x:P4.x=px:=q4'.x.trans HPX.out.symm;have h4k:P4.kt t=pk:=by rw [q4'.kt];exact HPK.out.symm
    have HC:=Zh_ (show ∀ wx,Ze D w4.drew wx->wx.cell? ⟨pk,2,none⟩=some (.iface ti (.pointer (some ⟨qk,0,none⟩)))/\wx.cell? ⟨px,11,none⟩=some (.pointer (some ⟨ma,0,none⟩)) from
     λ wx hR=>by
      have m:Ze D w4 wx:=((Zr_ _ w4).drew).trans hR;have K:=m.at (h4'.thd t (by rw [hlr];exact ht')) (λ hm=>by have:=hD _ hm;rw [h4'.lt t (by rw [hlr];exact ht')] at this;omega);have X:=m.at h4'.hx (λ hm=>by have:=hD _ hm;rw [h4'.lx] at this;omega);rw [h4k,egv] at K;rw [h4x] at X;rw [hma];exact ⟨Za K rfl,Za X rfl⟩)
    have HSC:=Zh_ (show ∀ wx,Ze [] w4.drew wx->Calls Tryz.prog f #[.pointer (some ⟨qk,0,none⟩),.pointer (some ⟨ma,0,none⟩)] wx (λ e w'=>∃ b,e=.returned (.tuple #[.bool b,.int .i64 0])/\Qn w0 w4 lab4 P4 sr ix raw g b w'/\Ze D wx w') from
     λ wx hR=>by
      rw [hma];exact hSC wx (((Zr_ _ w4).drew).trans hR))
    have h4:=Zh_ h4';have f4:=Zh_ (f3.out.trans f4');have q4:=Zh_ q4';have kr:=Zh_ kr';have HLR:=Zh_ hlr;have HCR:=Zh_ hcr';have HX:=Zh_ hx';have HSR:=Zh_ hsr;have HX4:=Zh_ h4x;have HK4:=Zh_ h4k;clear h4' f4' q4' kr' hlr hcr' hx' hsr egv hD hSC hma h4x h4k hf;go_upto_region 10 with fail
    go_cut [8] (λ A wx=>∃ b,A=.bool b/\Qn w0 w4 lab4 P4 sr ix raw g b wx)
    case first=>
     refine Fz (by kernel_rfl) 16 (Ze D) (Fa D 10) 10 (Ze [] w4.drew) (Hh px pk ma qk ti (Qn w0 w4 lab4 P4 sr ix raw g)) (by kernel_rfl) (by rfl) (λ i j v w w' hij hw=>Ck px pk ma qk ti (Qn w0 w4 lab4 P4 sr ix raw g) (λ b w w' h m=>h.quiet m) D i j v w w' hij (by rintro ⟨rfl,rfl|rfl|rfl⟩ <;> exact Bool.false_ne_true (hw.symm.trans (by kernel_rfl)))) (λ i a b h=>Vr h) (λ j a b hj h k=>k.trans (Vs hj h)) (Zr_ _ _) (λ a=>Zr_ _ _) (λ a b c h k=>h.trans k) (λ i v w' hv o ho hd=>Vb (m:=16) (by kernel_rfl) (Mk px pk ma qk ti (Qn w0 w4 lab4 P4 sr ix raw g)) ho hd) ?_ ?_
     ·intro i o hi ho
      match i,hi with
      |0,_=>
       obtain rfl:=Zo_ ho;intro a wx hR hB hF hO;have f6:a.eval (.tmp 6)=.pointer (some ⟨pk,0,none⟩):=hO 6 (by kernel_rfl) (Zm (by kernel_rfl));have e6:=Tv_ f6;clear hF hO;go_simp;exact ⟨Yi (by decide) (Zr_ _ _),rfl⟩
      |1,_=>
       obtain rfl:=Zo_ ho;intro a wx hR hB hF hO;have f48:a.eval (.tmp 48)=.pointer (some ⟨pk,0,none⟩):=hF 48 0 _ (by kernel_rfl) rfl rfl;have e48:=Tv_ f48;clear hF hO;go_simp;exact ⟨Yi (by decide) (Zr_ _ _),rfl⟩
      |2,_=>
       obtain rfl:=Zo_ ho;intro a wx hR hB hF hO;have f49:a.eval (.tmp 49)=.pointer (some ⟨pk,0,none⟩):=hF 49 1 _ (by kernel_rfl) rfl rfl;have e49:=Tv_ f49;clear hF hO;go_simp;exact ⟨Yi (by decide) (Zr_ _ _),rfl⟩
      |3,_=>
       obtain rfl:=Zo_ ho;intro a wx hR hB hF hO;have f50:a.eval (.tmp 50)=.pointer (some ⟨pk,2,none⟩):=hF 50 2 _ (by kernel_rfl) rfl rfl;have e50:=Tv_ f50;clear hF hO;obtain ⟨c2,c11⟩:=HC.out wx hR;go_simp;exact ⟨Yi (by decide) (Zr_ _ _),rfl⟩
      |4,_=>
       obtain rfl:=Zo_ ho;intro a wx hR hB hF hO;have f0:a.eval (.tmp 0)=.pointer (some ⟨px,0,none⟩):=hO 0 (by kernel_rfl) (Zm (by kernel_rfl));have e0:=Tv_ f0;clear hF hO;go_simp;exact ⟨Yi (by decide) (Zr_ _ _),rfl⟩
      |5,_=>
       obtain rfl:=Zo_ ho;intro a wx hR hB hF hO;have f52:a.eval (.tmp 52)=.pointer (some ⟨px,0,none⟩):=hF 52 4 _ (by kernel_rfl) rfl rfl;have e52:=Tv_ f52;clear hF hO;go_simp;exact ⟨Yi (by decide) (Zr_ _ _),rfl⟩
      |6,_=>
       obtain rfl:=Zo_ ho;intro a wx hR hB hF hO;have f53:a.eval (.tmp 53)=.pointer (some ⟨px,0,none⟩):=hF 53 5 _ (by kernel_rfl) rfl rfl;have e53:=Tv_ f53;clear hF hO;go_simp;exact ⟨Yi (by decide) (Zr_ _ _),rfl⟩
      |7,_=>
       obtain rfl:=Zo_ ho;intro a wx hR hB hF hO;have f54:a.eval (.tmp 54)=.pointer (some ⟨px,11,none⟩):=hF 54 6 _ (by kernel_rfl) rfl rfl;have e54:=Tv_ f54;clear hF hO;obtain ⟨c2,c11⟩:=HC.out wx hR;go_simp;exact ⟨Yi (by decide) (Zr_ _ _),rfl⟩
      |8,_=>
       obtain rfl:=Zo_ ho;intro a wx hR hB hF hO;have f51:a.eval (.tmp 51)=.iface ti (.pointer (some ⟨qk,0,none⟩)):=hF 51 3 _ (by kernel_rfl) rfl rfl;have e51:=Tv_ f51;clear hF hO;go_simp;exact ⟨Yi (by decide) (Zr_ _ _),rfl⟩
      |9,_=>
       obtain rfl:=Zo_ ho;intro a wx hR hB hF hO;have f51:a.eval (.tmp 51)=.iface ti (.pointer (some ⟨qk,0,none⟩)):=hF 51 3 _ (by kernel_rfl) rfl rfl;have e51:=Tv_ f51;clear hF hO;go_simp;exact ⟨Yi (by decide) (Zr_ _ _),rfl⟩
      |10,_=>
       obtain rfl:=Zo_ ho;intro a wx hR hB hF hO;have f57:a.eval (.tmp 57)=.iface ti (.pointer (some ⟨qk,0,none⟩)):=hF 57 9 _ (by kernel_rfl) rfl rfl;have e57:=Tv_ f57;have f55:a.eval (.tmp 55)=.pointer (some ⟨ma,0,none⟩):=hF 55 7 _ (by kernel_rfl) rfl rfl;have e55:=Tv_ f55;clear hF hO;have hme:=hme0;have hcf:=hcf0;go_simp;refine Calls.mono (HSC.out wx (hB rfl)) ?_;rintro e w' ⟨b,rfl,hp,m⟩;exact ⟨_,rfl,Lc m,b,rfl,hp⟩
      |11,_=>
       obtain rfl:=Zo_ ho;intro a wx hR hB hF hO;have e58:∃ b,(a.eval (.tmp 58))=.tuple #[.bool b,.int .i64 0]/\(Qn w0 w4 lab4 P4 sr ix raw g) b wx:=hF 58 10 _ (by kernel_rfl) rfl rfl;clear hF hO;obtain ⟨b,q58,hp⟩:=e58;replace q58:a.tmps[58]?.getD undef=_:=(show a.tmps[58]?.getD undef=a.eval (.tmp 58) by simp [Act.eval]).trans q58;have HP:=Zh_ hp;clear hp;go_simp;exact ⟨Yi (by decide) (Zr_ _ _),b,rfl,HP.out⟩
      |12,_=>
       obtain rfl:=Zo_ ho;intro a wx hR hB hF hO;have e47:∃ b,(a.eval (.tmp 47))=.tuple #[.bool b,.int .i64 0]/\(Qn w0 w4 lab4 P4 sr ix raw g) b wx:=hF 47 11 _ (by kernel_rfl) rfl rfl;clear hF hO;obtain ⟨b,q47,hp⟩:=e47;replace q47:a.tmps[47]?.getD undef=_:=(show a.tmps[47]?.getD undef=a.eval (.tmp 47) by simp [Act.eval]).trans q47;have HP:=Zh_ hp;clear hp;go_simp;exact ⟨Yi (by decide) (Zr_ _ _),b,rfl,HP.out⟩
      |13,_=>
       obtain rfl:=Zo_ ho;intro a wx hR hB hF hO;have e47:∃ b,(a.eval (.tmp 47))=.tuple #[.bool b,.int .i64 0]/\(Qn w0 w4 lab4 P4 sr ix raw g) b wx:=hF 47 11 _ (by kernel_rfl) rfl rfl;clear hF hO;obtain ⟨b,q47,_⟩:=e47;replace q47:a.tmps[47]?.getD undef=_:=(show a.tmps[47]?.getD undef=a.eval (.tmp 47) by simp [Act.eval]).trans q47;go_simp;exact ⟨Yi (by decide) (Zr_ _ _),rfl⟩
      |14,_=>
       obtain rfl:=Zo_ ho;intro a wx hR hB hF hO;have e59:∃ b,(a.eval (.tmp 59))=.bool b/\(Qn w0 w4 lab4 P4 sr ix raw g) b wx:=hF 59 12 _ (by kernel_rfl) rfl rfl;clear hF hO;obtain ⟨b,q59,hp⟩:=e59;replace q59:a.tmps[59]?.getD undef=_:=(show a.tmps[59]?.getD undef=a.eval (.tmp 59) by simp [Act.eval]).trans q59;have HP:=Zh_ hp;clear hp;go_simp;exact ⟨Yi (by decide) (Zr_ _ _),b,rfl,HP.out⟩
      |15,_=>
       obtain rfl:=Zo_ ho;intro a wx hR hB hF hO;have f60:a.eval (.tmp 60)=.int .i64 0:=hF 60 13 _ (by kernel_rfl) rfl rfl;have e60:=Tv_ f60;clear hF hO;go_simp;exact ⟨Yi (by decide) (Zr_ _ _),rfl⟩
      |j+16,hh=>omega
     ·intro vs w5 hR hv;obtain ⟨b,e8,hp⟩:∃ b,vs 14=.bool b/\Qn w0 w4 lab4 P4 sr ix raw g b w5:=hv 14 (by decide);have HP:=Zh_ hp;clear hv hR hp;simp only [Xb,Act.put,e8];go_simp;go_wp2_with fail;go_meet;exact ⟨b,rfl,HP.out⟩
    case rest=>
     obtain ⟨b,rfl,v,hb,lab5,P5,h5',q5',f5'⟩:=hcut;generalize wc=w5 at *
     have HB:=Zh_ hb;have h5:=Zh_ h5';have f5:=Zh_ (f4.out.trans f5');have q5:=Zh_ (q4.out.trans q5');clear hb h5' q5' f5';obtain ⟨s5,hs5⟩:∃ z,z=sr.moved ix raw (g.step sr.mem.opened v):=⟨_,rfl⟩;have HS5:=Zh_ hs5;have h5:=Zh_ (show Yu w0 w5 lab5 P5 s5 by rw [hs5];exact h5.out);clear hs5;go_upto_if 61 with fail
     go_cut [] (λ wx=>Uq w0 w5 lab5 P5 s5 wx)
     case first=>
      cases fst with
      |false=>
       go_wp2_with fail;go_meet;exact Uq.refl h5.out
      |true=>
       have hc:(s.th t).cur=none:=by have:=HFS.out;cases hq:(s.th t).cur with|none=>rfl|some _=>rw [hq] at this;cases this
       have hover:(g.step sr.mem.opened v).1.over=false:=by
        have e1:=HCR.out;have e2:=HX.out;have e3:=HSR.out;rw [e3] at e1 e2;rw [Tm ht' hc e1 e2];exact first_on _ _ _ _
       have hfired:s5=sr.fired t ix raw (g.step sr.mem.opened v):=by
        rw [HS5.out];unfold Zq.fired;rw [if_neg (by rw [hover];exact Bool.false_ne_true)];rfl
       have k5:Ym s5:=by rw [hfired];exact kr.out.fired (by rw [HLR.out];exact ht') HCR.out HX.out v
       have hl5:s5.ths.length=s.ths.length:=by rw [HS5.out];exact HLR.out
       have hc5:(s5.th t).cur=some ix:=by rw [HS5.out];exact HCR.out
       have B:=drew_c h5.out k5 (by rw [hl5];exact ht') hc5;unfold Xs at B;rw [q5.out.x,q5.out.kt,<-HPX.out,<-HPK.out] at B;clear hover hfired k5 hl5 hc5 hc;go_wp2_with fail;refine B.mono ?_;rintro e w6 ⟨rfl,W⟩;go_wp2_with fail;go_meet;exact W
     case rest=>
      obtain ⟨lab6,P6,h6',q6',f6'⟩:=hcut;generalize wc=w6 at *
      have h6:=Zh_ h6';have f6:=Zh_ (f5.out.trans f6');have q6:=Zh_ (q5.out.trans q6');have hl5:s5.ths.length=s.ths.length:=by rw [HS5.out];exact HLR.out
      have hc1:s5.c1=nt:=by rw [h6'.nt,hl5,HNT.out]
      have x12:=(h6'.xc 12 (u:=.pointer (some ⟨P6.r,0,none⟩)) rfl).1;have lx6:=h6'.xlt;rw [q6.out.x,<-HPX.out] at x12 lx6;have Rs:=Aj h6'.rnd (t:Int) (by omega) (by rw [hc1];have:=HT.out;omega) (by rw [hc1];have:=H8.out;omega);obtain ⟨pr,hpr⟩:∃ z,z=P6.r:=⟨_,rfl⟩;rw [<-hpr] at x12 Rs;have HPR:=Zh_ hpr;have HL5:=Zh_ hl5;have HC1:=Zh_ hc1;clear h6' q6' f6' hl5 hc1 hpr;go_wp2_with fail;refine Rs.mono ?_;rintro e w7 ⟨rfl,R7,m7⟩;obtain ⟨h7',f7'⟩:=h6.out.rounds (by rw [<-HPR.out];exact R7) (by rw [<-HPR.out];exact m7);have h7:=Zh_ h7';have f7:=Zh_ (f6.out.trans f7');clear R7 m7 h7' f7' Rs x12 lx6;have HSTEP:=Zh_ (show s.step t v=sr.fired t ix raw (g.step sr.mem.opened v) by
       unfold Zq.step;rw [if_neg (by rw [<-HF.out];exact Bool.false_ne_true),<-HSR.out];exact Bh HCR.out HX.out v)
      cases b with
      |false=>
       have hfired:s.step t v=s5:=by
        rw [HSTEP.out,HS5.out];unfold Zq.fired;rw [if_neg (by rw [<-HB.out];exact Bool.false_ne_true)];rfl
       have W:∃ v,Uq w0 w lab P (s.step t v) w7:=⟨v,lab6,P6,by rw [hfired];exact h7.out,q6.out,f7.out⟩;have HW:=Zh_ W;clear hfired W;go_wp2;go_ret2;exact ⟨rfl,HW.out⟩
      |true=>
       obtain ⟨g',hg'⟩:∃ z,z=(g.step sr.mem.opened v).1:=⟨_,rfl⟩;have HG':=Zh_ hg';have ht5:t < s5.ths.length:=by rw [HL5.out];exact ht'
       have hix:ix < sr.txs.length:=(List.getElem?_eq_some_iff.1 HX.out).1;have hx5:s5.txs[ix]? =some ⟨raw,some g'⟩:=by
        rw [HS5.out,hg'];show (sr.txs.set ix _)[ix]? =_;simp [hix]
       have hc5:(s5.th t).cur=some ix:=by rw [HS5.out];exact HCR.out
       have hgo5:s5.goer t=some g':=by unfold Zq.goer;rw [hc5];simp [hx5]
       have hT5:T6 g':=by
        obtain ⟨u,hu,_,_,hG⟩:=kr.out.tx ix raw g HX.out;rw [hg'];exact T8.stepTell kr.out.cfg kr.out.len hG v
       obtain ⟨ti,qk,f,egv',hme1,hcf1,hDC⟩:=h7.out.deedC ht5 hgo5 hT5;have hil:ix < s5.txs.length:=(List.getElem?_eq_some_iff.1 hx5).1;obtain ⟨dg,dc,hvd,hdl,hdo,hrow⟩:=h7.out.deedCell hil;have hai:=h7.out.cur t ix ht5 hc5;obtain ⟨nd,hnd⟩:∃ z,z=s5.txs.length:=⟨_,rfl⟩;obtain ⟨told,htold⟩:∃ z,z=g'.told:=⟨_,rfl⟩;obtain ⟨dx,hdx⟩:∃ z,z=P6.es.getD ix X0:=⟨_,rfl⟩;obtain ⟨n0,hn0⟩:∃ z,z=w7.heap.size:=⟨_,rfl⟩;rw [<-hnd] at hvd hrow;have hraw:(s5.txs.map (·.raw)).getD ix Qc=raw:=by
        simp [List.getD_eq_getElem?_getD,hx5]
       have hle:=h7.out.deeds.len;have HC16:=Zh_ (show ∀ wx,Ze [] w7.drew wx->wx.cell? ⟨px,14,none⟩=some (.slice (some ⟨dg,0,none⟩) nd dc)/\wx.cell? ⟨pk,3,none⟩=some (.int .i64 ix)/\wx.cell? ⟨pk,2,none⟩=some (.iface ti (.pointer (some ⟨qk,0,none⟩)))/\∀ j v,(Z5 raw dx).toArray.toList[j]? =some v->wx.cell? ((⟨dg,ix * 19,none⟩:Addr).add j)=some v from
        λ wx hR=>by
         have m:Ze [] w7 wx:=((Zr_ _ w7).drew).trans hR;have hE:=h7.out.quiet m Z1;have a1:=(hE.xc 14 (u:=P6.vd) rfl).1;have a2:=(hE.kc ht5 3 (u:=.int .i64 (P6.ai t)) rfl).1;have a3:=(hE.kc ht5 2 (u:=P6.gv t) rfl).1;rw [q6.out.x,<-HPX.out,hvd] at a1;rw [q6.out.kt,<-HPK.out,hai] at a2;rw [q6.out.kt,<-HPK.out,egv'] at a3;refine ⟨a1,a2,a3,λ j v hj=>?_⟩;rw [Br];have hj19:j < 19:=by
          have:=(List.getElem?_eq_some_iff.1 hj).1;simpa [Z5] using this
         have:=(Ye hrow m).cellAt (ix * 19+j) (by rw [hnd];omega);rw [this,Bl hle (by simp;omega) hj19,hraw,<-hdx];simpa using hj)
       have HDC:=Zh_ (show ∀ wx,Ze [] w7.drew wx->Calls Tryz.prog f #[.pointer (some ⟨qk,0,none⟩)] wx (L9 wx told) from
        λ wx hR=>by rw [htold];exact hDC wx (((Zr_ _ w7).drew).trans hR))
       have HIX:=Zh_ (show ix < nd by rw [hnd];exact hil);have HN0:=Zh_ (show n0<=w7.drew.heap.size from Nat.le_of_eq hn0);have HNE:=Zh_ hn0;have HX5:=Zh_ hx5;have HVD:=Zh_ hvd;have HROW:=Zh_ hrow;have HTOLD:=Zh_ htold;have HDX:=Zh_ hdx;have HND:=Zh_ hnd;have HT5:=Zh_ ht5;have HDL:=Zh_ hdl;have HDO:=Zh_ hdo;have HC5:=Zh_ hc5;have HAI:=Zh_ hai;have hix:ix < nd:=HIX.out;clear hg' ht5 hx5 hc5 hgo5 hT5 hil hai hnd htold hdx hn0 hvd hrow hraw hle hDC egv' hdl hdo;go_upto_region 16 with fail
       go_cut [10] (λ A wx=>∃ n10 y,A=.pointer (some ⟨n10,0,none⟩)/\wx.heap[n10]? =some (.cells (Z5 (raw.join told) (dx.join y)).toArray 50 (0,0))/\n0<=n10/\V4 n0 told y wx/\Ze [] w7 wx)
       case first=>
        refine Yt (by kernel_rfl) 17 (by rfl) (λ x y=>Ze [] x y) (Hg px pk dg nd dc ix n0 qk ti raw told dx) (by kernel_rfl) (by rfl) (by kernel_rfl) (Cj px pk dg nd dc ix n0 qk ti raw told dx) (λ a=>Zr_ _ _) (λ a b c h k=>h.trans k) ?_ ?_ ?_
        ·exact λ i v w' hv o ho hd=>Vb (m:=17) (by kernel_rfl) (Mj px pk dg nd dc ix n0 qk ti raw told dx) ho hd
        ·intro i o hi ho
         match i,hi with
         |0,_=>
          obtain rfl:=Zo_ ho;intro a wx hR hF hO;have f0:a.eval (.tmp 0)=.pointer (some ⟨px,0,none⟩):=hO 0 (by kernel_rfl) (Zm (by kernel_rfl));have e0:=Tv_ f0;clear hF hO;go_simp;exact ⟨Zr_ _ _,rfl⟩
         |1,_=>
          obtain rfl:=Zo_ ho;intro a wx hR hF hO;have f73:a.eval (.tmp 73)=.pointer (some ⟨px,0,none⟩):=hF 73 0 _ (by kernel_rfl) rfl rfl;have e73:=Tv_ f73;clear hF hO;go_simp;exact ⟨Zr_ _ _,rfl⟩
         |2,_=>
          obtain rfl:=Zo_ ho;intro a wx hR hF hO;have f74:a.eval (.tmp 74)=.pointer (some ⟨px,0,none⟩):=hF 74 1 _ (by kernel_rfl) rfl rfl;have e74:=Tv_ f74;clear hF hO;go_simp;exact ⟨Zr_ _ _,rfl⟩
         |3,_=>
          obtain rfl:=Zo_ ho;intro a wx hR hF hO;have f75:a.eval (.tmp 75)=.pointer (some ⟨px,14,none⟩):=hF 75 2 _ (by kernel_rfl) rfl rfl;have e75:=Tv_ f75;clear hF hO;obtain ⟨c14,c3,c2,_⟩:=HC16.out wx hR;go_simp;exact ⟨Zr_ _ _,rfl⟩
         |4,_=>
          obtain rfl:=Zo_ ho;intro a wx hR hF hO;have f6:a.eval (.tmp 6)=.pointer (some ⟨pk,0,none⟩):=hO 6 (by kernel_rfl) (Zm (by kernel_rfl));have e6:=Tv_ f6;clear hF hO;go_simp;exact ⟨Zr_ _ _,rfl⟩
         |5,_=>
          obtain rfl:=Zo_ ho;intro a wx hR hF hO;have f77:a.eval (.tmp 77)=.pointer (some ⟨pk,0,none⟩):=hF 77 4 _ (by kernel_rfl) rfl rfl;have e77:=Tv_ f77;clear hF hO;go_simp;exact ⟨Zr_ _ _,rfl⟩
         |6,_=>
          obtain rfl:=Zo_ ho;intro a wx hR hF hO;have f78:a.eval (.tmp 78)=.pointer (some ⟨pk,0,none⟩):=hF 78 5 _ (by kernel_rfl) rfl rfl;have e78:=Tv_ f78;clear hF hO;go_simp;exact ⟨Zr_ _ _,rfl⟩
         |7,_=>
          obtain rfl:=Zo_ ho;intro a wx hR hF hO;have f79:a.eval (.tmp 79)=.pointer (some ⟨pk,3,none⟩):=hF 79 6 _ (by kernel_rfl) rfl rfl;have e79:=Tv_ f79;clear hF hO;obtain ⟨c14,c3,c2,_⟩:=HC16.out wx hR;go_simp;exact ⟨Zr_ _ _,rfl⟩
         |8,_=>
          obtain rfl:=Zo_ ho;intro a wx hR hF hO;have f76:a.eval (.tmp 76)=.slice (some ⟨dg,0,none⟩) nd dc:=hF 76 3 _ (by kernel_rfl) rfl rfl;have e76:=Tv_ f76;have f80:a.eval (.tmp 80)=.int .i64 ix:=hF 80 7 _ (by kernel_rfl) rfl rfl;have e80:=Tv_ f80;clear hF hO;have hix:=HIX.out;go_simp;exact ⟨Zr_ _ _,rfl⟩
         |9,_=>
          obtain rfl:=Zo_ ho;intro a wx hR hF hO;have f81:a.eval (.tmp 81)=.pointer (some ⟨dg,ix * 19,none⟩):=hF 81 8 _ (by kernel_rfl) rfl rfl;have e81:=Tv_ f81;clear hF hO;exact De 50 _ rfl ⟨dg,ix * 19,none⟩ f81 (Z5 raw dx).toArray _ (HC16.out wx hR).2.2.2 underlying50 rfl (by rw [show (Z5 raw dx).toArray.size=19 from rfl];kernel_rfl) ⟨Zr_ _ _,rfl⟩
         |10,_=>
          obtain rfl:=Zo_ ho;intro a wx hR hF hO;have f6:a.eval (.tmp 6)=.pointer (some ⟨pk,0,none⟩):=hO 6 (by kernel_rfl) (Zm (by kernel_rfl));have e6:=Tv_ f6;clear hF hO;go_simp;exact ⟨Zr_ _ _,rfl⟩
         |11,_=>
          obtain rfl:=Zo_ ho;intro a wx hR hF hO;have f83:a.eval (.tmp 83)=.pointer (some ⟨pk,0,none⟩):=hF 83 10 _ (by kernel_rfl) rfl rfl;have e83:=Tv_ f83;clear hF hO;go_simp;exact ⟨Zr_ _ _,rfl⟩
         |12,_=>
          obtain rfl:=Zo_ ho;intro a wx hR hF hO;have f84:a.eval (.tmp 84)=.pointer (some ⟨pk,0,none⟩):=hF 84 11 _ (by kernel_rfl) rfl rfl;have e84:=Tv_ f84;clear hF hO;go_simp;exact ⟨Zr_ _ _,rfl⟩
         |13,_=>
          obtain rfl:=Zo_ ho;intro a wx hR hF hO;have f85:a.eval (.tmp 85)=.pointer (some ⟨pk,2,none⟩):=hF 85 12 _ (by kernel_rfl) rfl rfl;have e85:=Tv_ f85;clear hF hO;obtain ⟨c14,c3,c2,_⟩:=HC16.out wx hR;go_simp;exact ⟨Zr_ _ _,rfl⟩
         |14,_=>
          obtain rfl:=Zo_ ho;intro a wx hR hF hO;have f86:a.eval (.tmp 86)=.iface ti (.pointer (some ⟨qk,0,none⟩)):=hF 86 13 _ (by kernel_rfl) rfl rfl;have e86:=Tv_ f86;clear hF hO;have hme:=hme1;have hcf:=hcf1;go_simp;refine Calls.mono (HDC.out wx hR) ?_;rintro e w' ⟨y,rfl,a1,a2,a3,a4,m⟩;have le:=Nat.le_trans HN0.out hR.size;exact ⟨_,rfl,m,y,rfl,a1.weak le,a2.weak le,a3.weak le,a4.weak le⟩
         |15,_=>
          obtain rfl:=Zo_ ho;intro a wx hR hF hO;have f82:a.eval (.tmp 82)=.agg (Z5 raw dx).toArray:=hF 82 9 _ (by kernel_rfl) rfl rfl;have e82:=Tv_ f82;have e87:Pz n0 told (a.eval (.tmp 87)) wx:=hF 87 14 _ (by kernel_rfl) rfl rfl;clear hF hO;obtain ⟨y,q87,hr⟩:=e87;replace q87:a.tmps[87]?.getD undef=_:=(show a.tmps[87]?.getD undef=a.eval (.tmp 87) by simp [Act.eval]).trans q87;have HR:=Zh_ hr;have hj:=Tf raw told dx y (Yo HR.out.1.1) (Yo HR.out.2.1.1) (Yo HR.out.2.2.1.1) (Yo HR.out.2.2.2.1) wx;clear hr;go_simp;refine Calls.mono hj ?_;rintro e w' ⟨rfl,m⟩;exact ⟨_,rfl,m,y,rfl,HR.out.mod m⟩
         |16,_=>
          obtain rfl:=Zo_ ho;intro a wx hR hF hO;clear hF hO;go_simp;exact ⟨(Zr_ _ _).alloc _,_,rfl,heap_alloc_new _ _,Nat.le_trans HN0.out hR.size⟩
         |j+17,hh=>omega
        ·intro vs w8 hR hv;obtain ⟨n10,e10,k10,hn10⟩:Q3 n0 (vs 16) w8:=hv 16 (by decide);obtain ⟨y,e88,hy⟩:P8 n0 raw dx told (vs 15) w8:=hv 15 (by decide);have K10:=Zh_ k10;have H8:=Zh_ (((Zr_ _ w7).drew).trans hR);have HN10:=Zh_ hn10;have HY:=Zh_ hy;have ONE:=Zh_ (Vk (raw.join told) (dx.join y) (Yo hy.1.1) (Yo hy.2.1.1) (Yo hy.2.2.1.1) (Yo hy.2.2.2.1));have hw8:w7.heap.size<=n10:=by rw [<-HNE.out];exact hn10
         have HW8:=Zh_ hw8;clear hR hv k10 hn10 hy hw8;simp only [Xb,List.take_succ_cons,List.take_zero,Act.put,e10,e88];go_simp;refine wpList_store_row rfl 50 _ _ rfl n10 (Z5 (raw.join told) (dx.join y)).toArray rfl rfl 50 Ya K10.out (by rw [show (Z5 (raw.join told) (dx.join y)).toArray.size=19 from rfl];kernel_rfl) rfl (by rw [Array.all_eq_true_iff_forall_mem];intro u hu;exact ONE.out u (by simpa using hu)) ?_;go_wp2_with fail;go_meet;have mm:Ze [n10] w8 (w8.setRow n10 (Z5 (raw.join told) (dx.join y)).toArray):=(Zr_ _ _).setRow _ _ (.inl (by simp));exact ⟨n10,y,rfl,Y0 K10.out,HN10.out,⟨HY.out.1.far K10.out (by decide) mm,HY.out.2.1.far K10.out (by decide) mm,HY.out.2.2.1.far K10.out (by decide) mm,HY.out.2.2.2.far K10.out (by decide) mm⟩,H8.out.setRow _ _ (.inr HW8.out)⟩
       case rest=>
        obtain ⟨n10,y,rfl,k10,hn10,hy,m8⟩:=hcut;generalize wc=w8 at *
        have hw8:w7.heap.size<=n10:=by rw [<-HNE.out];exact hn10
        have h8e:=Zh_ (h7.out.quiet m8 Z1);have f8e:=Zh_ (f7.out.trans (Kp.quiet m8 Z1));have HM8:=Zh_ m8;have HK10:=Zh_ k10;have HY:=Zh_ hy;have HW8:=Zh_ hw8;have HN10:=Zh_ hn10;obtain ⟨st,hst⟩:∃ z,z=(s5.steps:Int):=⟨_,rfl⟩;have hnx:n10≠px:=λ e=>by have:=h7.out.xlt;rw [q6.out.x,<-HPX.out] at this;omega
        have hnr:n10≠pr:=λ e=>by have:=h7.out.rnd.lt;rw [<-HPR.out] at this;omega
        obtain ⟨rf,ro,hR0⟩:=h8e.out.rnd;rw [<-HPR.out] at hR0;have x15:=(h8e.out.xc 15 (u:=.int .i64 s5.steps) rfl).1;have x12:=(h8e.out.xc 12 (u:=.pointer (some ⟨P6.r,0,none⟩)) rfl).1;rw [q6.out.x,<-HPX.out,<-hst] at x15;rw [q6.out.x,<-HPX.out,<-HPR.out] at x12;have hlx:=h8e.out.xlt;rw [q6.out.x,<-HPX.out] at hlx;have hlr:=lt_of_block hR0;have y14:w8.cell? ⟨n10,14,none⟩=some (.int .i64 (raw.join told).ended):=Za k10 rfl;have y18:w8.cell? ⟨n10,18,none⟩=some (.int .i64 (dx.join y).til):=Za k10 rfl;have z10:∀ j,w8.frozen? ⟨n10,j,none⟩=false:=λ j=>Zb k10;have z14:=z10 14;have z18:=z10 18;have hl10:=lt_of_block k10;have HST5:=Zh_ hst;have HRR:=Zh_ hR0;have HNX:=Zh_ hnx;have HNR:=Zh_ hnr;have HAFT:=Zh_ (show ∀ wx,Ze [n10] w8 wx->wx.cell? ⟨px,15,none⟩=some (.int .i64 st)/\wx.cell? ⟨px,12,none⟩=some (.pointer (some ⟨pr,0,none⟩))/\wx.cell? ⟨pr,17,none⟩=some (.int .i64 ro) from
         λ wx m=>⟨Zy m hlx (by simpa using Ne.symm hnx) x15,Zy m hlx (by simpa using Ne.symm hnx) x12,Za (m.at hR0 (by simpa using Ne.symm hnr)) rfl⟩)
        clear hst m8 k10 hy hn10 hw8 z10 hR0;go_upto_region 17 with fail
        go_cut [] (λ wx=>∃ o,wx=((w8.setCell ⟨n10,14,none⟩ (.int .i64 st)).setCell ⟨n10,18,none⟩ (.int .i64 o)).drew)
        case first=>
         go_region_held3 (λ wx=>wx.cell? ⟨px,15,none⟩=some (.int .i64 st)/\wx.cell? ⟨px,12,none⟩=some (.pointer (some ⟨pr,0,none⟩)))
          (first|exact ⟨x15,x12⟩|exact ⟨(HAFT.out _ ((((Zr_ _ _).setCell _ _ (.inl (by simp))).setCell _ _ (.inl (by simp))).drew)).1,(HAFT.out _ ((((Zr_ _ _).setCell _ _ (.inl (by simp))).setCell _ _ (.inl (by simp))).drew)).2.1⟩|exact ⟨(HAFT.out _ ((Zr_ _ _).setCell _ _ (.inl (by simp)))).1,(HAFT.out _ ((Zr_ _ _).setCell _ _ (.inl (by simp)))).2.1⟩|exact ⟨(HAFT.out _ (((Zr_ _ _).drew).setCell _ _ (.inl (by simp)))).1,(HAFT.out _ (((Zr_ _ _).drew).setCell _ _ (.inl (by simp)))).2.1⟩)
          (first|(go_at_call 26;refine (Bw (o:=ro) (by first|exact Za HRR.out rfl|exact (HAFT.out _ ((Zr_ _ _).setCell _ _ (.inl (by simp)))).2.2|exact (HAFT.out _ (((Zr_ _ _).drew).setCell _ _ (.inl (by simp)))).2.2)).mono ?_;rintro e wz ⟨rfl,rfl⟩))
         all_goals
          go_wp2_with fail;go_meet;exact ⟨_,rfl⟩
        case rest=>
         obtain ⟨o,rfl⟩:=hcut;obtain ⟨d,hd⟩:∃ z:Zv,z={raw.join told with ended:=st}:=⟨_,rfl⟩;obtain ⟨x,hx⟩:∃ z:DX,z={dx.join y with til:=o}:=⟨_,rfl⟩;obtain ⟨cs,hcs⟩:∃ z:Array Value,z=(Z5 d x).toArray:=⟨_,rfl⟩;have K9:((w8.setCell ⟨n10,14,none⟩ (.int .i64 st)).setCell ⟨n10,18,none⟩ (.int .i64 o)).drew.heap[n10]? =some (.cells cs 50 (0,0)):=by
          rw [hcs,hx,hd];exact Zd _ (Zd _ HK10.out)
         have m9:Ze [n10] w8 ((w8.setCell ⟨n10,14,none⟩ (.int .i64 st)).setCell ⟨n10,18,none⟩ (.int .i64 o)).drew:=(((Zr_ _ _).setCell _ _ (.inl (by simp))).setCell _ _ (.inl (by simp))).drew;clear x12 x15 y14 y18 z14 z18 hlx hlr hl10 hnx hnr;generalize ((w8.setCell ⟨n10,14,none⟩ (.int .i64 st)).setCell ⟨n10,18,none⟩ (.int .i64 o)).drew=w9 at *
         have hy9:V4 n0 told y w9:=⟨HY.out.1.far HK10.out (by decide) m9,HY.out.2.1.far HK10.out (by decide) m9,HY.out.2.2.1.far HK10.out (by decide) m9,HY.out.2.2.2.far HK10.out (by decide) m9⟩;have m79:Ze [] w7 w9:=HM8.out.then m9 (λ j hj=>.inr (by simp at hj;subst hj;exact HW8.out));have hcz:cs.size=19:=by rw [hcs];rfl
         have hone:∀ u∈cs.toList,u.oneCell'=true:=by
          rw [hcs,hx];intro u hu;exact Vk d {dx.join y with til:=o} (Yo hy9.1.1) (Yo hy9.2.1.1) (Yo hy9.2.2.1.1) (Yo hy9.2.2.2.1) u (by simpa using hu)
         have HC18:=Zh_ (show ∀ wx,Ze [] w9.drew wx->wx.cell? ⟨px,14,none⟩=some (.slice (some ⟨dg,0,none⟩) nd dc)/\wx.cell? ⟨pk,3,none⟩=some (.int .i64 ix)/\wx.heap[n10]? =some (.cells cs 50 (0,0)) from
          λ wx hR=>by
           have m:Ze [] w9 wx:=((Zr_ _ w9).drew).trans hR;have hE:=h7.out.quiet (m79.trans m) Z1;have a1:=(hE.xc 14 (u:=P6.vd) rfl).1;have a2:=(hE.kc HT5.out 3 (u:=.int .i64 (P6.ai t)) rfl).1;rw [q6.out.x,<-HPX.out,HVD.out] at a1;rw [q6.out.kt,<-HPK.out,HAI.out] at a2;exact ⟨a1,a2,m.at K9 (by simp)⟩)
         have HCZ:=Zh_ hcz;have HONE:=Zh_ hone;have HCS:=Zh_ hcs;have HDD:=Zh_ hd;have HXX:=Zh_ hx;have HY9:=Zh_ hy9;have HM79:=Zh_ m79;clear hd hx hcs K9 m9 hy9 m79 hcz hone;obtain ⟨s9,hs9⟩:∃ z:Zq,z={s5 with txs:=s5.txs.set ix ⟨d,some g'⟩}:=⟨_,rfl⟩;have HS9:=Zh_ hs9;clear hs9;go_upto_region 18 with fail
         go_cut [] (λ wx=>Uq w0 w7 lab6 P6 s9 wx)
         case first=>
          refine Yt (by kernel_rfl) 10 (by rfl) (λ x y=>Ze [] x y) (Hf px pk dg nd dc ix cs) (by kernel_rfl) (by rfl) (by kernel_rfl) (Ci px pk dg nd dc ix cs) (λ a=>Zr_ _ _) (λ a b c h k=>h.trans k) ?_ ?_ ?_
          ·exact λ i v w' hv o ho hd=>Vb (m:=10) (by kernel_rfl) (Mi px pk dg nd dc ix cs) ho hd
          ·intro i o hi ho
           match i,hi with
           |0,_=>
            obtain rfl:=Zo_ ho;intro a wx hR hF hO;have f0:a.eval (.tmp 0)=.pointer (some ⟨px,0,none⟩):=hO 0 (by kernel_rfl) (Zm (by kernel_rfl));have e0:=Tv_ f0;clear hF hO;go_simp;exact ⟨Zr_ _ _,rfl⟩
           |1,_=>
            obtain rfl:=Zo_ ho;intro a wx hR hF hO;have f100:a.eval (.tmp 100)=.pointer (some ⟨px,0,none⟩):=hF 100 0 _ (by kernel_rfl) rfl rfl;have e100:=Tv_ f100;clear hF hO;go_simp;exact ⟨Zr_ _ _,rfl⟩
           |2,_=>
            obtain rfl:=Zo_ ho;intro a wx hR hF hO;have f101:a.eval (.tmp 101)=.pointer (some ⟨px,0,none⟩):=hF 101 1 _ (by kernel_rfl) rfl rfl;have e101:=Tv_ f101;clear hF hO;go_simp;exact ⟨Zr_ _ _,rfl⟩
           |3,_=>
            obtain rfl:=Zo_ ho;intro a wx hR hF hO;have f102:a.eval (.tmp 102)=.pointer (some ⟨px,14,none⟩):=hF 102 2 _ (by kernel_rfl) rfl rfl;have e102:=Tv_ f102;clear hF hO;obtain ⟨c14,c3,k10⟩:=HC18.out wx hR;go_simp;exact ⟨Zr_ _ _,rfl⟩
           |4,_=>
            obtain rfl:=Zo_ ho;intro a wx hR hF hO;have f6:a.eval (.tmp 6)=.pointer (some ⟨pk,0,none⟩):=hO 6 (by kernel_rfl) (Zm (by kernel_rfl));have e6:=Tv_ f6;clear hF hO;go_simp;exact ⟨Zr_ _ _,rfl⟩
           |5,_=>
            obtain rfl:=Zo_ ho;intro a wx hR hF hO;have f104:a.eval (.tmp 104)=.pointer (some ⟨pk,0,none⟩):=hF 104 4 _ (by kernel_rfl) rfl rfl;have e104:=Tv_ f104;clear hF hO;go_simp;exact ⟨Zr_ _ _,rfl⟩
           |6,_=>
            obtain rfl:=Zo_ ho;intro a wx hR hF hO;have f105:a.eval (.tmp 105)=.pointer (some ⟨pk,0,none⟩):=hF 105 5 _ (by kernel_rfl) rfl rfl;have e105:=Tv_ f105;clear hF hO;go_simp;exact ⟨Zr_ _ _,rfl⟩
           |7,_=>
            obtain rfl:=Zo_ ho;intro a wx hR hF hO;have f106:a.eval (.tmp 106)=.pointer (some ⟨pk,3,none⟩):=hF 106 6 _ (by kernel_rfl) rfl rfl;have e106:=Tv_ f106;clear hF hO;obtain ⟨c14,c3,k10⟩:=HC18.out wx hR;go_simp;exact ⟨Zr_ _ _,rfl⟩
           |8,_=>
            obtain rfl:=Zo_ ho;intro a wx hR hF hO;have f10:a.eval (.tmp 10)=.pointer (some ⟨n10,0,none⟩):=hO 10 (by kernel_rfl) (Zm (by kernel_rfl));have e10:=Tv_ f10;clear hF hO;exact Uj 50 _ rfl n10 f10 50 cs (0,0) _ (HC18.out wx hR).2.2 underlying50 rfl (by rw [HCZ.out];kernel_rfl) ⟨Zr_ _ _,rfl⟩
           |9,_=>
            obtain rfl:=Zo_ ho;intro a wx hR hF hO;have f103:a.eval (.tmp 103)=.slice (some ⟨dg,0,none⟩) nd dc:=hF 103 3 _ (by kernel_rfl) rfl rfl;have e103:=Tv_ f103;have f107:a.eval (.tmp 107)=.int .i64 ix:=hF 107 7 _ (by kernel_rfl) rfl rfl;have e107:=Tv_ f107;clear hF hO;have hix:=HIX.out;go_simp;exact ⟨Zr_ _ _,rfl⟩
           |j+10,hh=>omega
          ·intro vs wB hR hv;have e108:vs 8=.agg cs:=hv 8 (by decide);have e109:vs 9=.pointer (some ⟨dg,ix * 19,none⟩):=hv 9 (by decide);have mB:Ze [] w7 wB:=HM79.out.trans (((Zr_ _ w9).drew).trans hR);obtain ⟨cur,hcur,hcl,hnew⟩:=S5 (Ye HROW.out mB) cs.toList (ix * 19) (by rw [Array.length_toList,HCZ.out];have:=HIX.out;omega);rw [Array.length_toList] at hcl;have HCUR:=Zh_ hcur;have HCL:=Zh_ hcl;have HNEW:=Zh_ hnew;have HMB:=Zh_ mB;have HRR:=Zh_ (((Zr_ _ w9).drew).trans hR);clear hv hR mB hcur hcl hnew;simp only [Xb,List.take_succ_cons,List.take_zero,Act.put,e108,e109];go_simp;refine F8 rfl 50 _ _ rfl dg (ix * 19) cs rfl rfl 50 cur HCUR.out (by rw [HCZ.out];kernel_rfl) HCL.out HONE.out ?_;go_wp2_with fail;go_meet;have hnew:=HNEW.out;have hle:=h7.out.deeds.len;have hil:ix < (s5.txs.map (·.raw)).length:=by have:=HIX.out;rw [HND.out] at this;simpa using this
           have ee:(Qq (s5.txs.map (·.raw)) P6.es).take (ix * 19)++cs.toList++(Qq (s5.txs.map (·.raw)) P6.es).drop (ix * 19+cs.toList.length)=Qq ((s5.txs.map (·.raw)).set ix d) (P6.es.set ix x):=by
            rw [show cs.toList=Z5 d x by rw [HCS.out],show (Z5 d x).length=19 from rfl];exact Wr hle hil d x
           rw [ee,Array.length_toList] at hnew;have mA:Ze [dg] w7 (wB.setRow dg (cur.toList.take (ix * 19)++cs.toList++cur.toList.drop (ix * 19+cs.size)).toArray):=(HMB.out.weak [dg]).setRow _ _ (.inl (by simp));have mD:Ze [dg] w9 (wB.setRow dg (cur.toList.take (ix * 19)++cs.toList++cur.toList.drop (ix * 19+cs.size)).toArray):=(HRR.out.weak [dg]).setRow _ _ (.inl (by simp));have hS:∀ j∈[dg],j < n0:=by intro j hj;simp at hj;subst hj;rw [HNE.out];exact HDL.out
           have hy:=HY9.out;obtain ⟨labx,hE,hF⟩:=h7.out.laid HX5.out d x (dg:=dg) (n0:=n0) (by rw [HVD.out];rfl) mA (by rw [HVD.out,<-HND.out];exact hnew) (by rw [HDD.out,HXX.out];exact hy.1.keep mD hS) (by rw [HDD.out,HXX.out];exact hy.2.1.keep mD hS) (by rw [HDD.out,HXX.out];exact hy.2.2.1.keep mD hS) (by rw [HDD.out,HXX.out];exact hy.2.2.2.keep mD hS) (Nat.le_of_eq HNE.out.symm);rw [List.append_assoc] at hE hF;exact ⟨labx,{P6 with es:=P6.es.set ix x},by rw [HS9.out];exact hE,⟨rfl,rfl,rfl,rfl,rfl⟩,hF⟩
         case rest=>
          obtain ⟨lab9,P9,h9',q9',f9'⟩:=hcut;generalize wc=w10 at *
          have q9:=Zh_ (q6.out.trans q9');have f9:=Zh_ (f7.out.trans f9');have hl9:s9.ths.length=s.ths.length:=by rw [HS9.out];exact HL5.out
          have ht9:t < s9.ths.length:=by rw [hl9];exact ht'
          have hth9:∀ u,s9.th u=sr.th u:=λ u=>by rw [HS9.out,HS5.out];rfl
          have hx9:s9.txs[ix]? =some ⟨d,some g'⟩:=by
           rw [HS9.out];show (s5.txs.set ix _)[ix]? =_;have:=(List.getElem?_eq_some_iff.1 HX5.out).1;simp [this]
          have hne9:∀ u,u < s9.ths.length->u≠t->(s9.th u).cur≠some ix:=by
           intro u hu hut hcu;rw [hth9] at hcu;exact hut (kr.out.one (by rw [HLR.out,<-hl9];exact hu) (by rw [HLR.out];exact ht') hcu HCR.out)
          obtain ⟨h10',f10'⟩:=h9'.freed ht9 hx9 hne9;have hkt:P9.kt t=pk:=by rw [q9.out.kt];exact HPK.out.symm
          have k2:=(h9'.kc ht9 2 (u:=P9.gv t) rfl);rw [hkt] at k2;obtain ⟨k2,z2⟩:=k2;have hlk:=h9'.klt ht9;rw [hkt] at hlk h10' f10';have hs10:{s9 with ths:=s9.ths.set t {s9.th t with cur:=none},txs:=s9.txs.set ix ⟨d,none⟩}=s.step t v:=by
           rw [HSTEP.out];unfold Zq.fired;rw [if_pos (by rw [<-HB.out]),hth9,HS9.out,HS5.out];show _={sr with mem:=_,ths:=_,txs:=sr.txs.set ix ⟨{raw.join (g.step sr.mem.opened v).1.told with ended:=sr.steps},none⟩};rw [<-HG'.out,<-HTOLD.out];have hd:d={raw.join told with ended:=(sr.steps:Int)}:=by rw [HDD.out,HST5.out,HS5.out];rfl
           rw [<-hd];simp only [Zq.moved,List.set_set]
          rw [hs10] at h10';have hl10:(s.step t v).ths.length=s.ths.length:=(HK.out.step ht' v).2;have h10:=Zh_ h10';have f10:=Zh_ (f9.out.trans f10');have k10:=(HK.out.step ht' v).1;have FC:=fin_c h10' k10.goes (t:=t) (by rw [hl10];exact ht');have FC:Calls Tryz.prog 43 #[.pointer (some ⟨pk,0,none⟩)] (w10.setCell ⟨pk,2,none⟩ .nilIface) (λ e w'=>e=.returned (.bool ((s.step t v).th t).fin)/\Ze [] (w10.setCell ⟨pk,2,none⟩ .nilIface) w'):=by rw [<-hkt] at FC ⊢;exact FC
          obtain ⟨u2,hu2⟩:∃ z,z=P9.gv t:=⟨_,rfl⟩;rw [<-hu2] at k2;obtain ⟨fb,hfb⟩:∃ z,z=((s.step t v).th t).fin:=⟨_,rfl⟩;rw [<-hfb] at FC;have HQ9:=q9;clear hfb hu2 h9' q9' f9' hl9 ht9 hth9 hx9 hne9 h10' f10' hkt hs10 k10;go_wp2_with fail;refine FC.mono ?_;rintro e w11 ⟨rfl,m11⟩;have h11':=h10.out.quiet m11 Z1;have f11:=Zh_ (f10.out.trans (Kp.quiet m11 Z1));have h11:=Zh_ h11';have qx:({P9 with gv:=λ u=>if u=t then .nilIface else P9.gv u}:EP).x=px:=HQ9.out.x.trans HPX.out.symm;cases fb with
          |false=>
           have W:∃ v,Uq w0 w lab P (s.step t v) w11:=⟨v,lab9,_,h11',⟨HQ9.out.x,HQ9.out.a,HQ9.out.b,HQ9.out.r,HQ9.out.kt⟩,f11.out⟩;have HW:=Zh_ W;clear h11' W m11 FC qx;go_wp2;go_ret2;exact ⟨rfl,HW.out⟩
          |true=>
           have x12:=(h11'.xc 12 (u:=.pointer (some ⟨P9.r,0,none⟩)) rfl).1;have lx:=h11'.xlt;rw [qx] at x12 lx;have hc1:(s.step t v).c1=nt:=by rw [h11'.nt,hl10,HNT.out]
           have Rs:=Pd h11'.rnd (t:Int) (by omega) (by rw [hc1];have:=HT.out;omega) (by rw [hc1];have:=H8.out;omega);obtain ⟨pr9,hpr9⟩:∃ z,z=P9.r:=⟨_,rfl⟩;have Rs:Calls Tryz.prog 44 #[.pointer (some ⟨pr9,0,none⟩),.int .i64 t] w11 (Rnd w11 pr9 (s.step t v).c1 (.int .i64 0)):=by rw [hpr9];exact Rs
           rw [<-hpr9] at x12;have HPR9:=Zh_ hpr9;clear h11' m11 FC qx hc1 hpr9;go_wp2_with fail;refine Rs.mono ?_;rintro e w12 ⟨rfl,R12,m12⟩;obtain ⟨h12,f12⟩:=h11.out.rounds (w':=w12) (by show Xx w12 P9.r _;rw [<-HPR9.out];exact R12) (by show Ze [P9.r] _ _;rw [<-HPR9.out];exact m12);have W:∃ v,Uq w0 w lab P (s.step t v) w12:=⟨v,lab9,_,h12,⟨HQ9.out.x,HQ9.out.a,HQ9.out.b,HQ9.out.r,HQ9.out.kt⟩,f11.out.trans f12⟩;have HW:=Zh_ W;clear h12 f12 W R12 m12 Rs x12 lx;go_wp2;go_ret2;exact ⟨rfl,HW.out⟩
end
section
variable {w0 w w' w1:World} {lab lab' lab1:Nat->Nat} {P P':EP} {s s' r:Zq} {t i:Nat} {l:List Int}
theorem Ge (s:Zq) (t v:Nat):(s.step t v).steps<=s.steps+1/\s.steps<=(s.step t v).steps:=by
 have hr:(s.ready t).steps=s.steps+1:=by
  unfold Zq.ready;split <;> rfl
 have hf:((s.ready t).fire t v).steps=(s.ready t).steps:=by
  unfold Zq.fire;split
  ·rfl
  ·split
   ·split <;> rfl
   ·rfl
 unfold Zq.step;split
 ·omega
 ·rw [hf,hr];omega
theorem Vv.snoc {ts:List Nat} (h:Vv s ts r) (t v:Nat):Vv s (ts++[t]) (r.step t v):=by
 induction h with
 |nil s=>exact .cons v (.nil _)
 |cons u _ ih=>exact .cons u ih
theorem Vv.ok {ts:List Nat} (h:Vv s ts r) (k:Ym s) (ht:∀ t∈ts,t < s.ths.length):Ym r/\r.ths.length=s.ths.length:=by
 induction h with
 |nil s=>exact ⟨k,rfl⟩
 |@cons s r t l v h ih=>
  have q:=k.step (ht t (by simp)) v;have:=ih q.1 (λ u hu=>by rw [q.2];exact ht u (by simp [hu]));exact ⟨this.1,this.2.trans q.2⟩
theorem Vv.steps {ts:List Nat} (h:Vv s ts r):r.steps<=s.steps+ts.length:=by
 induction h with
 |nil s=>simp
 |@cons s r t l v h ih=>
  have:=(Ge s t v).1;simp;omega
theorem Vv.trans {ts us:List Nat} {q:Zq} (h:Vv s ts r) (k:Vv r us q):Vv s (ts++us) q:=by
 induction h with
 |nil s=>exact k
 |cons v _ ih=>exact .cons v (ih k)
def Q9 (n:Nat) (l:List Int):List Nat:=l.map λ x=>(Vt n x).toNat
theorem Tl {n:Nat} (hn:1<=n) (l:List Int):∀ t∈Q9 n l,t < n:=by
 intro t ht;obtain ⟨x,_,rfl⟩:=List.mem_map.1 ht;have:=Ps (n:=n) (by omega) x;omega
theorem run_c {v:Value} (h:Yu w0 w lab P s) (k:Ym s) (hv:Dh w v l) (hl:l.length<=65536) (hs:s.steps+l.length < 1000000000):
  Calls Tryz.prog 9 #[Xs P.x,v] w λ e w'=>∃ n s',e=.returned (.tuple #[.int .i64 n,.int .i64 0])/\Vv s (Q9 s.ths.length l) s'/\Uq w0 w lab P s' w':=by
 obtain ⟨tg,tc,hvt,_,_,_⟩:=h.row;have x13:=(h.xc 13 (u:=P.vt) rfl).1;rw [hvt] at x13;have lx:=h.xlt;have F:=fold_c hv hl (n:=s.ths.length) (by have:=h.n1;omega) (by have:=h.n8;omega);obtain ⟨nt,hnt⟩:∃ z,z=s.ths.length:=⟨_,rfl⟩;rw [<-hnt] at x13 F ⊢
 obtain ⟨px,hpx⟩:∃ z,z=P.x:=⟨_,rfl⟩;rw [<-hpx] at x13 lx;unfold Xs;rw [<-hpx];have hv':=hv;obtain ⟨av,cv,rfl,_⟩:=hv';have d1:decide ((65536:Int) < l.length)=false:=decide_eq_false (by omega);have H:=Zh_ h;have HK:=Zh_ k;have HS:=Zh_ hs;have HL:=Zh_ hl;have HNT:=Zh_ hnt;have HPX:=Zh_ hpx;obtain ⟨len,hlen⟩:∃ z,z=l.length:=⟨_,rfl⟩;rw [<-hlen] at d1 F ⊢
 have HLEN:=Zh_ hlen;clear h k hv hs hl hvt hnt hpx hlen;go_enter func9,ntmps9;go_wp2_with fail;refine F.mono ?_;rintro e w1 ⟨cap,rfl,hc,hsz,m1⟩;obtain ⟨b,hb⟩:∃ z,z=w.heap.size:=⟨_,rfl⟩;rw [<-hb] at hc hsz ⊢
 obtain ⟨lab1,hlab⟩:∃ z,z=Fu lab w.heap.size 0:=⟨_,rfl⟩;have h1:=Zh_ (H.out.quiet (lab':=lab1) m1 (by rw [hlab];exact Uw 0));have f1:=Zh_ (Kp.quiet (lab:=lab) (lab':=lab1) m1 (by rw [hlab];exact Uw 0));have hb0:lab1 b=0:=by rw [hlab];exact Ke (by omega)
 have HB0:=Zh_ hb0;clear hb0 hlab hb m1 F x13 lx;go_wp2_with fail
 go_loopw [31,8] (λ i c wr=>∃ k n:Nat,k<=len/\n<=k/\i=.int .i64 k/\c=.int .i64 n/\∃ s',Vv s ((Q9 nt l).take k) s'/\Uq w0 w1 lab1 P s' wr) (λ i c _=>len - (intOf i).toNat)
 case atStart=>exact ⟨0,0,by omega,by omega,rfl,rfl,s,.nil s,Uq.refl h1.out⟩
 case round=>
  obtain ⟨k,n,hk,hn,rfl,rfl,s',hr,lab2,P2,h2,q2,f2⟩:=hrel;have hl65:len<=65536:=by rw [HLEN.out];exact HL.out
  have hlen:=HLEN.out
  by_cases hlt:k < len
  ·have d4:decide ((k:Int) < len)=true:=decide_eq_true (by omega);have cb:wr.cell? ⟨b,k,none⟩=some (.int .i64 (Vt nt (l.getD k 0))):=by
    have:=f2.blk b hsz HB0.out;exact (World.cell?_of_block (w:=w1) (a:=⟨b,k,none⟩) this).trans (hc k (by omega))
   have hbr:b < wr.heap.size:=Nat.lt_of_lt_of_le hsz f2.size;have hn1:1<=nt:=by rw [HNT.out];exact H.out.n1
   have ff:=Ps (n:=nt) (by omega) (l.getD k 0);obtain ⟨t,ht⟩:∃ t:Nat,(t:Int)=Vt nt (l.getD k 0):=⟨(Vt nt (l.getD k 0)).toNat,by omega⟩;rw [<-ht] at cb ff;have hmem:∀ u∈(Q9 nt l).take k,u < s.ths.length:=λ u hu=>by rw [<-HNT.out];exact Tl hn1 l u (List.mem_of_mem_take hu)
   obtain ⟨kr,hlr⟩:=hr.ok HK.out hmem;have hst:=hr.steps;have hfl:(Q9 nt l).length=l.length:=by unfold Q9;simp
   have C:=step24_c h2 kr (t:=t) (by rw [hlr,<-HNT.out];omega) (by have:=HS.out;rw [List.length_take] at hst;omega);unfold Xs at C;rw [q2.x,<-HPX.out] at C;have htk:(Q9 nt l).take (k+1)=(Q9 nt l).take k++[t]:=by
    rw [List.take_succ_eq_append_getElem (by rw [hfl];omega)];congr 2
    unfold Q9;simp only [List.getElem_map];rw [List.getD_eq_getElem?_getD,List.getElem?_eq_getElem (by omega)] at ht;simp at ht;omega
   have HTK:=Zh_ htk;have HR:=Zh_ hr;have H2:=Zh_ h2;have Q2:=Zh_ q2;have F2:=Zh_ f2;obtain ⟨did,hdid⟩:∃ z,z=!(s'.th t).fin:=⟨_,rfl⟩;rw [<-hdid] at C;clear hdid htk hr h2 q2 f2 hmem kr hlr hst hfl ff hn1 ht hlen;go_wp2_with fail;refine C.mono ?_;rintro e w3 ⟨rfl,v,W⟩;obtain ⟨lab4,P4,h4,q4,f4⟩:=W;have W2:=Zh_ (show Uq w0 w1 lab1 P (s'.step t v) w3 from ⟨lab4,P4,h4,Q2.out.trans q4,F2.out.trans f4⟩);have R2:=Zh_ (show Vv s ((Q9 nt l).take (k+1)) (s'.step t v) by rw [HTK.out];exact HR.out.snoc t v);clear h4 q4 f4;cases did with
   |false=>
    go_wp2;go_roundw
    case rel=>exact ⟨k+1,n,by omega,by omega,by go_num,rfl,_,R2.out,W2.out⟩
    case measure=>
     simp [intOf];omega
   |true=>
    go_wp2;go_roundw
    case rel=>exact ⟨k+1,n+1,by omega,by omega,by go_num,by go_num,_,R2.out,W2.out⟩
    case measure=>
     simp [intOf];omega
  ·have d4:decide ((k:Int) < len)=false:=decide_eq_false (by omega);obtain rfl:k=len:=by omega
   have R2:=Zh_ (show Vv s (Q9 nt l) s' by
    have e:(Q9 nt l).take k=Q9 nt l:=List.take_of_length_le (by unfold Q9;simp;omega);rw [e] at hr;exact hr)
   have W2:=Zh_ (show Uq w0 w lab P s' wr from ⟨lab2,P2,h2,q2,f1.out.trans f2⟩);clear h2 q2 f2 hr hlen;go_wp2;go_ret2;refine ⟨n,s',rfl,R2.out,W2.out⟩
end
section
theorem Yj {P:Program} {ops:Array Oper} {rest:List Oper} {o:Oper} {a:Act} {w:World} {Q:Exit->Act->World->Prop} (hgd:o.guard=none)
  (h:Jy P (λ v w'=>wpList P ops Q rest (a.put o.dst v) w') ((execOp a.eval o).run P w)):wpList P ops Q (o :: rest) a w:=
 wpList_plain hgd λ _ hK=>by
  unfold Oper.wp;revert h;generalize (execOp a.eval o).run P w=r;intro h;cases r with
  |halt x w'=>exact h.elim
  |ok n w'=>
   cases n with
   |value v=>exact hK _ _ h
   |skip=>exact hK _ _ h
   |enter f args=>
    refine Calls.mono h (λ e w'' ⟨v,he,hv⟩=>?_);subst he;exact hK _ _ hv
   |_=>exact h.elim
theorem Y3 {P:Program} {ops:Array Oper} {rest:List Oper} {o:Oper} {a:Act} {w:World} {Q:Exit->Act->World->Prop} (v:Value) (hgd:o.guard=none)
  (hr:(execOp a.eval o).run P w=.ok (.value v) w) (h:wpList P ops Q rest (a.put o.dst v) w):wpList P ops Q (o :: rest) a w:=
 Yj hgd (by rw [hr];exact h)
theorem Bg {w:World} {o:Oper} {a:Act} {K:Value->World->Prop} (x:Tmp) (ho:o.op=.call {callee:=.builtin .append,args:=#[.const (.slice none 0 0),.tmp x],argTypes:=#[24,24]})
  (v:Value) (n:Nat) (xs:List Value) (hx:a.eval (.tmp x)=v) (hrow:w.ownsRow 0 51 1 v n xs) (hone:∀ u∈xs,u.oneCell'=true) (hb:n<=4096)
  (h:∀ u w',w'.ownsRow 0 51 1 u n xs->(∀ g,u.ownBlock=some g->w.heap.size<=g)->Ze [] w w'->K u w'):Jy Tryz.prog K ((execOp a.eval o).run Tryz.prog w):=by
 rcases hrow.2 with ⟨hv,h0⟩|⟨g,cap,cur,hv,-,-⟩
 ·subst h0;have hxs:xs=[]:=List.eq_nil_of_length_eq_zero (by simpa using hrow.1);rw [hv] at hx;have e:a.tmps[x]?.getD undef=.slice none 0 0:=by simpa [Act.eval] using hx
  obtain ⟨dst,op,ty,pos,after,guard⟩:=o;simp only at ho;subst ho;have hK:=h (.slice none 0 0) w (by rw [hxs];exact World.ownsRow_nil _ _ _ _) (by simp [Value.ownBlock]) (Zr_ _ _);clear h hx;go_simp;exact hK
 ·rw [hv] at hx hrow;have hcs:=hrow.cells (g:=g) rfl;have hl:xs.length=n * 1:=hrow.1;obtain ⟨i0,hi0,hz0,hz1,hz2⟩:=info_parts Ui;refine Xh (.const (.slice none 0 0)) (.tmp x) 24 ho 0 51 i0 (.float .f64 0) 1 8 underlying24 hi0 hz0 hz1 hz2 rfl (by decide) (.slice none 0 0) 0 [] rfl (World.ownsRow_nil _ _ _ _) ⟨g,0,none⟩ n cap xs hx hl hcs hone (by unfold maxLen;omega) (by omega) (Nat.zero_le _) ?_;intro v' w' h2 h3 h5;obtain ⟨u,hu,k1,k2,k3⟩:=Qv.of (t:=51) (z:=1) (n:=n) (xs:=xs) (by simpa using h2) h3 h5;simp only [Ending.returned.injEq] at hu;subst hu;exact h _ _ k1 k2 k3
theorem Bf {w:World} {o:Oper} {a:Act} {K:Value->World->Prop} (x:Tmp) (ho:o.op=.call {callee:=.builtin .append,args:=#[.const (.slice none 0 0),.tmp x],argTypes:=#[46,46]})
  (v:Value) (n:Nat) (xs:List Value) (hx:a.eval (.tmp x)=v) (hrow:w.ownsRow 0 53 2 v n xs) (hone:∀ u∈xs,u.oneCell'=true) (hb:n<=4096)
  (h:∀ u w',w'.ownsRow 0 53 2 u n xs->(∀ g,u.ownBlock=some g->w.heap.size<=g)->Ze [] w w'->K u w'):Jy Tryz.prog K ((execOp a.eval o).run Tryz.prog w):=by
 rcases hrow.2 with ⟨hv,h0⟩|⟨g,cap,cur,hv,-,-⟩
 ·subst h0;have hxs:xs=[]:=List.eq_nil_of_length_eq_zero (by simpa using hrow.1);rw [hv] at hx;have e:a.tmps[x]?.getD undef=.slice none 0 0:=by simpa [Act.eval] using hx
  obtain ⟨dst,op,ty,pos,after,guard⟩:=o;simp only at ho;subst ho;have hK:=h (.slice none 0 0) w (by rw [hxs];exact World.ownsRow_nil _ _ _ _) (by simp [Value.ownBlock]) (Zr_ _ _);clear h hx;go_simp;exact hK
 ·rw [hv] at hx hrow;have hcs:=hrow.cells (g:=g) rfl;have hl:xs.length=n * 2:=hrow.1;obtain ⟨i0,hi0,hz0,hz1,hz2⟩:=info_parts Pr;refine Xh (.const (.slice none 0 0)) (.tmp x) 46 ho 0 53 i0 (.agg #[.int .i64 0,.float .f64 0]) 2 16 underlying46 hi0 hz0 hz1 hz2 rfl (by decide) (.slice none 0 0) 0 [] rfl (World.ownsRow_nil _ _ _ _) ⟨g,0,none⟩ n cap xs hx hl hcs hone (by unfold maxLen;omega) (by omega) (Nat.zero_le _) ?_;intro v' w' h2 h3 h5;obtain ⟨u,hu,k1,k2,k3⟩:=Qv.of (t:=53) (z:=2) (n:=n) (xs:=xs) (by simpa using h2) h3 h5;simp only [Ending.returned.injEq] at hu;subst hu;exact h _ _ k1 k2 k3
end
end Go.Proofs.YtkhonmhnchdpkaaGreat

/- A part of the proof; no condition. -/
import Derived.Test.YtkhonmhnchdpkaaGreatP27
set_option maxRecDepth 100000
set_option maxHeartbeats 40000000
namespace Go.Proofs.YtkhonmhnchdpkaaGreat
open Go.RowKit _root_.Go.Proofs.Tryz
section
section
variable {P:Program} {ops:Array Oper} {n i m:Nat} {o:Oper} {a0:Act} {R:World->World->Prop} {wd:World} {F:Nat->Value->World->Prop}
theorem Pj {listed:Array Bool} (h:∀ j,j < ops.size->listed.getD j false=true) (hs:listed.size=ops.size):Region.ready .any ops listed=[]:=by
 rw [List.eq_nil_iff_forall_not_mem];intro j hj;obtain ⟨hl,o,ho,_⟩:=mem_ready.1 hj;have hlt:=(Array.getElem?_eq_some_iff.1 ho).1;have:=h j hlt;have hj':j < listed.size:=by omega
 simp [hj'] at hl this;rw [hl] at this;cases this
theorem Inv.whole (hreg:Uf ops a0.tmps.size=true) (hF:∀ i v w w',F i v w->R w w'->F i v w') (htr:∀ a b c,R a b->R b c->R a c) {Q:Exit->Act->World->Prop} (hops:∀ i o,i < ops.size->ops[i]? =some o->OpS P ops a0 R wd F i o) (hskip:∀ i v w',F i v w'->∀ o,ops[i]? =some o->o.dst=none->F i undef w')
  (hend:∀ a w' listed,Inv ops a0 R wd F listed a w'->(∀ j,j < ops.size->listed.getD j false=true)->Q .normal a w'):∀ (fuel:Nat) (listed:Array Bool) (a:Act) (wx:World),(∀ n,n=(List.range ops.size).countP (λ i=>!listed.getD i true)->n<=fuel)->Inv ops a0 R wd F listed a wx->wpAny P .any ops Q fuel listed a wx
 |0,listed,a,wx,hn,h=>by
  have h0:=hn _ rfl;have hz:(List.range ops.size).countP (λ i=>!listed.getD i true)=0:=by omega
  rw [List.countP_eq_zero] at hz;have hall:∀ j,j < ops.size->listed.getD j false=true:=by
   intro j hj;have:=hz j (by rw [List.mem_range];exact hj);have hj':j < listed.size:=by rw [h.sz];exact hj
   simp [hj'] at this ⊢
   exact this
  exact ⟨Pj hall h.sz,hend a wx listed h hall⟩
 |fuel+1,listed,a,wx,hn,h=>by
  refine ⟨λ hr=>hend a wx listed h (Jp hreg h.sz hr),λ i hi=>?_⟩;have him:i < ops.size:=(Array.getElem?_eq_some_iff.1 (mem_ready.1 hi).2.choose_spec.1).1;refine h.run hreg hF htr hops him hi (λ a' w' h'=>Inv.whole hreg hF htr hops hskip hend fuel _ a' w' ?_ h') hskip;intro n hn';obtain ⟨hl,o,ho,_⟩:=mem_ready.1 hi;have h1:=hn _ rfl;have:(List.range ops.size).countP (λ j=>!(listed.setIfInBounds i true).getD j true)+1<=(List.range ops.size).countP (λ j=>!listed.getD j true):=by
   have key:∀ l:List Nat,l.Nodup->i∈l->l.countP (λ j=>!(listed.setIfInBounds i true).getD j true)+1<=l.countP (λ j=>!listed.getD j true):=by
    intro l
    induction l with
    |nil=>intro _ hm;cases hm
    |cons x l ih=>
     intro hnd hm;rw [List.nodup_cons] at hnd;rw [List.countP_cons,List.countP_cons];rcases List.mem_cons.1 hm with rfl|hm
     ·have e1:(!(listed.setIfInBounds i true).getD i true)=false:=by
       simp [Array.getElem?_setIfInBounds];split <;> rfl
      have e2:(!listed.getD i true)=true:=by rw [hl];rfl
      rw [e1,e2];have:l.countP (λ j=>!(listed.setIfInBounds i true).getD j true)<=l.countP (λ j=>!listed.getD j true):=by
       refine List.countP_mono_left (λ y hy=>?_);have hne:i≠y:=λ e=>hnd.1 (e ▸ hy);simp [hne]
      rw [if_neg (by decide),if_pos rfl];omega
     ·have hne:i≠x:=λ e=>hnd.1 (e ▸ hm);have e1:(!(listed.setIfInBounds i true).getD x true)=!listed.getD x true:=by simp [hne]
      rw [e1];have:=ih hnd.2 hm;omega
   exact key _ List.nodup_range (List.mem_range.2 him)
  omega
theorem Kv {id:Nat} {Q:Exit->Act->World->Prop} {w:World} (hm:P.follows .mixedOrders=true) (m:Nat) (R:World->World->Prop) (F:Nat->Value->World->Prop)
  (hreg:Uf ops a0.tmps.size=true) (hsz:ops.size=m) (hF:∀ i v w w',F i v w->R w w'->F i v w') (hrf:∀ a,R a a) (htr:∀ a b c,R a b->R b c->R a c)
  (hskip:∀ i v w',F i v w'->∀ o,ops[i]? =some o->o.dst=none->F i undef w')
  (hops:∀ i o,i < m->ops[i]? =some o->OpS P ops a0 R w.drew F i o)
  (hend:∀ (vs:Nat->Value) w',R w.drew w'->(∀ i,i < m->F i (vs i) w')->Q .normal (Xb a0 vs ops.toList 0) w'):(Code.region id ops true).wp P Q a0 w:=by
 subst hsz;refine wp_region_any hm (Inv.whole hreg hF htr hops hskip ?_ ops.size _ a0 _ ?_ ⟨by simp,hrf _,rfl,rfl,λ _ _=>rfl,λ j oj hj hl=>?_,λ j oj hj hl=>?_⟩)
 ·intro a w' listed h hall
  let vs:Nat->Value:=λ i=>match (ops[i]?).bind (·.dst) with|none=>undef|some d=>a.tmps.getD d undef
  have e:a=Xb a0 vs ops.toList 0:=by
   have hsz':a.tmps.size=(Xb a0 vs ops.toList 0).tmps.size:=by rw [U8];exact h.tsz
   have ht:a.tmps=(Xb a0 vs ops.toList 0).tmps:=by
    refine Array.ext hsz' (λ k hk1 hk2=>?_);have g1:a.tmps.getD k undef=a.tmps[k]:=by simp [hk1]
    have g2:(Xb a0 vs ops.toList 0).tmps.getD k undef=(Xb a0 vs ops.toList 0).tmps[k]:=by simp [hk2]
    rw [<-g1,<-g2]
    by_cases hex:∃ (j:Nat) (oj:Oper),ops[j]? =some oj/\oj.dst=some k
    ·obtain ⟨j,oj,hj,hd⟩:=hex;rw [G9 vs k ops.toList 0 a0 j oj (by simpa using hj) hd (by rw [<-h.tsz];exact hk1) (λ j' o' hj' hne hd'=>by
      have hj2:ops[j']? =some o':=by simpa using hj'
      exact (Qp (Q6 hreg hj)).dist j' o' k hj2 hd' (Ne.symm hne) hd)]
     show _=(match (ops[0+j]?).bind (·.dst) with|none=>undef|some d=>a.tmps.getD d undef);rw [Nat.zero_add,hj];simp [hd]
    ·rw [U9 vs k ops.toList 0 a0 (λ o ho hd=>by
      obtain ⟨j,hj⟩:=List.getElem?_of_mem ho;exact hex ⟨j,o,by simpa using hj,hd⟩)]
     exact h.out k (λ j oj hj hd=>absurd ⟨j,oj,hj,hd⟩ hex)
   have hd:a.defers=(Xb a0 vs ops.toList 0).defers:=by rw [Vo];exact h.dfs
   cases a
   cases hp:Xb a0 vs ops.toList 0
   rw [hp] at ht hd;simp only at ht hd;rw [ht,hd]
  rw [e];refine hend vs w' h.cls (λ i hi=>?_);have hoi:ops[i]? =some ops[i]:=by simp [hi]
  have:=h.don i _ hoi (hall i hi);show F i (match (ops[i]?).bind (·.dst) with|none=>undef|some d=>a.tmps.getD d undef) w';rw [hoi];simp only [Option.bind_some];cases hd:ops[i].dst with
  |none=>rw [hd] at this;exact this
  |some d=>rw [hd] at this;exact this
 ·intro k hk;rw [hk];refine Nat.le_trans List.countP_le_length (by simp)
 ·have hlt:=(Array.getElem?_eq_some_iff.1 hj).1;simp [hlt] at hl
 ·have hlt:=(Array.getElem?_eq_some_iff.1 hj).1;simp [hlt] at hl
end
end
section
variable {w0 w w' w1:World} {lab lab' lab1:Nat->Nat} {P P':EP} {s s':Zq} {t:Nat} {S J:List Nat}
theorem Le (v:Value) (w:World):(method 393 140 v "Step").run Tryz.prog w=.ok (229,v) w:=by kernel_rfl
theorem Ld (v:Value) (w:World):(method 393 142 v "Step").run Tryz.prog w=.ok (234,v) w:=by kernel_rfl
theorem Pk (v:Value) (w:World):(method 393 140 v "Deed").run Tryz.prog w=.ok (227,v) w:=by kernel_rfl
theorem Lf (v:Value) (w:World):(method 393 142 v "Deed").run Tryz.prog w=.ok (232,v) w:=by kernel_rfl
theorem ta140 (u:Value) (w:World):(Instr.typeAssert (.iface 140 u) 85 140 true).run Tryz.prog w=.ok (.tuple #[u,.bool true]) w:=by kernel_rfl
theorem ta142 (u:Value) (w:World):(Instr.typeAssert (.iface 142 u) 85 140 true).run Tryz.prog w=.ok (.tuple #[.pointer none,.bool false]) w:=by kernel_rfl
theorem drew_rd {x k:Nat} {vc u:Value} {begun:Nat} {ai:Int} (K:w.heap[k]? =some (.cells (Qg vc begun (.iface 142 u) ai) 87 (0,0))):
  Calls Tryz.prog 46 #[.pointer (some ⟨x,0,none⟩),.pointer (some ⟨k,0,none⟩)] w λ e w'=>e=.returned (.tuple #[])/\Ze [] w w':=by
 have k2:w.cell? ⟨k,2,none⟩=some (.iface 142 u):=Za K rfl;have hta:=ta142;go_enter func46,ntmps46;go_wp2_with fail;go_end0;exact ⟨rfl,Zr_ _ _⟩
theorem ahead_q {a b:Nat} {s:Zh} {w:World} (hM:Zi 137 w a b s) (p0 p1 p2 p3 p4 p5 ticket:Int):
  Calls Tryz.prog 67 #[.pointer (some ⟨a,0,none⟩),.agg #[.int .i64 p0,.int .i64 p1,.int .i64 p2,.int .i64 p3,.int .i64 p4,.int .i64 p5],.int .u64 ticket] w λ e w'=>e=.returned (.tuple #[.int .i64 (s.ahead p1 ticket),.int .i64 (s.bad p1)])/\Ze [] w w':=by
 by_cases hbad:s.bad p1=0
 ·by_cases hle:ticket<=s.peek p1
  ·have hres:s.ahead p1 ticket=0:=by unfold Zh.ahead;rw [if_pos hbad,if_pos hle]
   have Hres:=Zh_ hres;clear hres;go_enter func67,ntmps67;go_wp2_with (first|(go_at_call 32;refine (Uu (((hM.alloc _).alloc _).alloc _) _).mono ?_;rintro e w1 ⟨rfl,rfl⟩)|go_in)
   go_ret2;exact ⟨by simp [hbad,Hres.out],(by repeat (first|with_reducible exact Zr_ _ _|with_reducible assumption|with_reducible refine Ze.alloc ?_ _))⟩
  ·obtain ⟨t,ht⟩:∃ t,t=IntKind.u64.wrap (ticket - s.peek p1):=⟨_,rfl⟩;have ht0:0<=t:=by rw [ht];exact Fy _
   have hsub:IntKind.u64.wrap (ticket - s.peek p1)=t:=ht.symm;clear ht
   by_cases hbig:t<=2147483647
   ·have hres:s.ahead p1 ticket=t:=by unfold Zh.ahead;rw [if_pos hbad,if_neg hle,hsub,if_pos hbig]
    have Hres:=Zh_ hres;clear hres;go_enter func67,ntmps67;go_wp2_with (first|(go_at_call 32;refine (Uu (((hM.alloc _).alloc _).alloc _) _).mono ?_;rintro e w1 ⟨rfl,rfl⟩)|go_in)
    go_ret2;exact ⟨by simp [hbad,Hres.out],(by repeat (first|with_reducible exact Zr_ _ _|with_reducible assumption|with_reducible refine Ze.alloc ?_ _))⟩
   ·have hres:s.ahead p1 ticket=2147483647:=by unfold Zh.ahead;rw [if_pos hbad,if_neg hle,hsub,if_neg hbig]
    have Hres:=Zh_ hres;clear hres;go_enter func67,ntmps67;go_wp2_with (first|(go_at_call 32;refine (Uu (((hM.alloc _).alloc _).alloc _) _).mono ?_;rintro e w1 ⟨rfl,rfl⟩)|go_in)
    go_ret2;exact ⟨by simp [hbad,Hres.out],(by repeat (first|with_reducible exact Zr_ _ _|with_reducible assumption|with_reducible refine Ze.alloc ?_ _))⟩
 ·have hz:(s.bad p1==0)=false:=by simp [hbad]
  have hz2:(s.bad p1 !=0)=true:=by simp [hbad]
  have hres:s.ahead p1 ticket=0:=by unfold Zh.ahead;rw [if_neg hbad]
  have Hres:=Zh_ hres;clear hres;clear hbad;go_enter func67,ntmps67;go_wp2_with (first|(go_at_call 32;refine (Uu (((hM.alloc _).alloc _).alloc _) _).mono ?_;rintro e w1 ⟨rfl,rfl⟩)|go_in)
  all_goals
   go_ret2;exact ⟨by simp [Hres.out],(by repeat (first|with_reducible exact Zr_ _ _|with_reducible assumption|with_reducible refine Ze.alloc ?_ _))⟩
def Sb (x ma k qk:Nat) (q4 q5 tag mark num how ec ee:Int):Nat->Value->World->Prop
 |0,v,_=>v=.pointer (some ⟨x,0,none⟩)
 |1,v,_=>v=.pointer (some ⟨x,0,none⟩)
 |2,v,_=>v=.pointer (some ⟨x,11,none⟩)
 |3,v,_=>v=.pointer (some ⟨ma,0,none⟩)
 |4,v,_=>v=.pointer (some ⟨x,0,none⟩)
 |5,v,_=>v=.pointer (some ⟨x,0,none⟩)
 |6,v,_=>v=.pointer (some ⟨x,5,none⟩)
 |7,v,_=>v=.agg #[.int .i64 0,.int .i64 1,.int .i64 2,.int .i64 3,.int .i64 q4,.int .i64 q5]
 |8,v,_=>v=.pointer (some ⟨k,0,none⟩)
 |9,v,_=>v=.pointer (some ⟨k,0,none⟩)
 |10,v,_=>v=.pointer (some ⟨k,2,none⟩)
 |11,v,_=>v=.iface 140 (.pointer (some ⟨qk,0,none⟩))
 |12,v,_=>∃ st va vr vw vo,v=.agg (Qe tag mark num st how ec ee va vr vw vo)
 |13,v,_=>v=.int .i64 mark
 |14,v,_=>v=.int .u64 (IntKind.u64.wrap mark)
 |15,v,_=>∃ n e,v=.tuple #[.int .i64 n,.int .i64 e]
 |16,v,_=>∃ n e,v=.tuple #[.int .i64 n,.int .i64 e]
 |17,v,_=>∃ n,v=.int .i64 n
 |18,v,_=>∃ n,v=.int .i64 n
 |19,v,_=>∃ n,v=.int .i64 n
 |20,v,_=>∃ n,v=.int .i64 n
 |_,_,_=>True
theorem drewF_on (x ma k qk:Nat) (q4 q5 tag mark num how ec ee:Int) (i:Nat) (v:Value) (w w':World) (h:Sb x ma k qk q4 q5 tag mark num how ec ee i v w) (_:Ze [] w w'):Sb x ma k qk q4 q5 tag mark num how ec ee i v w':=by
 match i,h with
 |0,h=>exact h
 |1,h=>exact h
 |2,h=>exact h
 |3,h=>exact h
 |4,h=>exact h
 |5,h=>exact h
 |6,h=>exact h
 |7,h=>exact h
 |8,h=>exact h
 |9,h=>exact h
 |10,h=>exact h
 |11,h=>exact h
 |12,h=>exact h
 |13,h=>exact h
 |14,h=>exact h
 |15,h=>exact h
 |16,h=>exact h
 |17,h=>exact h
 |18,h=>exact h
 |19,h=>exact h
 |20,h=>exact h
 |i+21,h=>trivial
theorem Wp (x ma k qk:Nat) (q4 q5 tag mark num how ec ee:Int) (i:Nat) (h:21<=i) (v:Value) (w:World):Sb x ma k qk q4 q5 tag mark num how ec ee i v w:=by
 match i,h with
 |j+21,_=>trivial
theorem drew_wr {x ma mb k r tg tc dg dc nd i:Nat} {c0 c1 c2 c3 q4 q5 st ai ah:Int} {vp vc:Value} {begun ntn:Nat} {q:WP} {y:Z2} {s:Zh}
 (X:w.heap[x]? =some (.cells #[.int .i64 c0,.int .i64 c1,.int .i64 c2,.int .i64 c3,vp,.int .i64 0,.int .i64 1,.int .i64 2,.int .i64 3,.int .i64 q4,.int .i64 q5,.pointer (some ⟨ma,0,none⟩),.pointer (some ⟨r,0,none⟩),.slice (some ⟨tg,0,none⟩) ntn tc,.slice (some ⟨dg,0,none⟩) nd dc,.int .i64 st] 79 (0,0)))
 (K:w.heap[k]? =some (.cells #[vc,.int .i64 begun,.iface 140 (.pointer (some ⟨q.k,0,none⟩)),.int .i64 ai] 87 (0,0)))
 (hq:Zx w q y) (ok:Yl y.m) (hal:y.args.length<=4096) (hM:Zi 137 w ma mb s) (hai:ai=i) (hi:i < nd) (hdl:dg < w.heap.size)
 (hc:w.cell? ⟨dg,i * 19+16,none⟩=some (.int .i64 ah)) (hf:w.frozen? ⟨dg,i * 19+16,none⟩=false):
 Calls Tryz.prog 46 #[.pointer (some ⟨x,0,none⟩),.pointer (some ⟨k,0,none⟩)] w λ e w'=>e=.returned (.tuple #[])/\∃ w1 n,Ze [] w w1/\w'=w1.setCell ⟨dg,i * 19+16,none⟩ (.int .i64 n):=by
 have hta:=ta140;have k2:w.cell? ⟨k,2,none⟩=some (.iface 140 (.pointer (some ⟨q.k,0,none⟩))):=Za K rfl;subst hai;obtain ⟨qk,hqk⟩:∃ z,z=q.k:=⟨_,rfl⟩;rw [<-hqk] at K k2;have HK:=Zh_ (show ∀ wx,Ze [] w.drew wx->wx.heap[x]? =some (.cells #[.int .i64 c0,.int .i64 c1,.int .i64 c2,.int .i64 c3,vp,.int .i64 0,.int .i64 1,.int .i64 2,.int .i64 3,.int .i64 q4,.int .i64 q5,.pointer (some ⟨ma,0,none⟩),.pointer (some ⟨r,0,none⟩),.slice (some ⟨tg,0,none⟩) ntn tc,.slice (some ⟨dg,0,none⟩) nd dc,.int .i64 st] 79 (0,0))/\wx.heap[k]? =some (.cells #[vc,.int .i64 begun,.iface 140 (.pointer (some ⟨qk,0,none⟩)),.int .i64 i] 87 (0,0)) from
  λ wx hR=>⟨(((Zr_ _ w).drew).trans hR).at X (by simp),(((Zr_ _ w).drew).trans hR).at K (by simp)⟩)
 obtain ⟨tag,htag⟩:∃ z,z=y.told.tag:=⟨_,rfl⟩;obtain ⟨mark,hmark⟩:∃ z,z=y.told.mark:=⟨_,rfl⟩;obtain ⟨num,hnum⟩:∃ z,z=y.told.number:=⟨_,rfl⟩;obtain ⟨how,hhow⟩:∃ z,z=y.told.how:=⟨_,rfl⟩;obtain ⟨ec,hec⟩:∃ z,z=y.told.ecode:=⟨_,rfl⟩;obtain ⟨ee,hee⟩:∃ z,z=y.told.eerr:=⟨_,rfl⟩;have HD:=Zh_ (show ∀ wx,Ze [] w.drew wx->Calls Tryz.prog 227 #[.pointer (some ⟨qk,0,none⟩)] wx (λ e w'=>∃ st va vr vw vo,e=.returned (.agg (Qe tag mark num st how ec ee va vr vw vo))/\Ze [] wx w') from
  λ wx hR=>by
   rw [hqk,htag,hmark,hnum,hhow,hec,hee];refine (Re (hq.mod (((Zr_ _ w).drew).trans hR) (by simp)) ok hal).mono ?_;rintro e w' ⟨st,va,vr,vw,vo,rfl,_,_,_,_,M⟩;exact ⟨st,va,vr,vw,vo,rfl,M⟩)
 have HA:=Zh_ (λ (wx:World) (hR:Ze [] w.drew wx)=>ahead_q (hM.mod (((Zr_ _ w).drew).trans hR) (by simp) (by simp)) 0 1 2 3 q4 q5 (IntKind.u64.wrap mark));have HCF:=Zh_ (show ∀ wx,Ze [] w.drew wx->wx.cell? ⟨dg,i * 19+16,none⟩=some (.int .i64 ah)/\wx.frozen? ⟨dg,i * 19+16,none⟩=false/\dg < wx.heap.size from
  λ wx hR=>by
   have m:Ze [] w wx:=((Zr_ _ w).drew).trans hR;refine ⟨Zy m hdl (by simp) hc,?_,Nat.lt_of_lt_of_le hdl m.size⟩;have hb:=m.block dg hdl (by simp);unfold World.frozen? at hf ⊢
   rw [hb];exact hf)
 have HI:=Zh_ hi;clear hqk htag hmark hnum hhow hec hee X K hq ok hal hM hc hf hdl;go_enter func46,ntmps46;go_upto_region 2 with fail;refine Kv (by kernel_rfl) 21 (λ x y=>Ze [] x y) (Sb x ma k qk q4 q5 tag mark num how ec ee) (by kernel_rfl) (by rfl) (drewF_on x ma k qk q4 q5 tag mark num how ec ee) (λ a=>Zr_ _ _) (λ a b c h k=>h.trans k) (λ i v w' hv o ho hd=>Vb (m:=21) (by kernel_rfl) (Wp x ma k qk q4 q5 tag mark num how ec ee) ho hd) ?_ ?_
 ·intro i o hi ho
  match i,hi with
  |0,_=>
   obtain rfl:=Zo_ ho;intro a wx hR hF hO;have f0:a.eval (.tmp 0)=.pointer (some ⟨x,0,none⟩):=hO 0 (by kernel_rfl) (Zm (by kernel_rfl));have e0:=Tv_ f0;clear hF hO;go_simp;exact ⟨Zr_ _ _,rfl⟩
  |1,_=>
   obtain rfl:=Zo_ ho;intro a wx hR hF hO;have f18:a.eval (.tmp 18)=.pointer (some ⟨x,0,none⟩):=hF 18 0 _ (by kernel_rfl) rfl rfl;have e18:=Tv_ f18;clear hF hO;go_simp;exact ⟨Zr_ _ _,rfl⟩
  |2,_=>
   obtain rfl:=Zo_ ho;intro a wx hR hF hO;have f19:a.eval (.tmp 19)=.pointer (some ⟨x,0,none⟩):=hF 19 1 _ (by kernel_rfl) rfl rfl;have e19:=Tv_ f19;clear hF hO;go_simp;exact ⟨Zr_ _ _,rfl⟩
  |3,_=>
   obtain rfl:=Zo_ ho;intro a wx hR hF hO;have f20:a.eval (.tmp 20)=.pointer (some ⟨x,11,none⟩):=hF 20 2 _ (by kernel_rfl) rfl rfl;have e20:=Tv_ f20;clear hF hO;obtain ⟨cx,ck⟩:=HK.out wx hR;have c11:=Za (i:=11) cx rfl;go_simp;exact ⟨Zr_ _ _,rfl⟩
  |4,_=>
   obtain rfl:=Zo_ ho;intro a wx hR hF hO;have f0:a.eval (.tmp 0)=.pointer (some ⟨x,0,none⟩):=hO 0 (by kernel_rfl) (Zm (by kernel_rfl));have e0:=Tv_ f0;clear hF hO;go_simp;exact ⟨Zr_ _ _,rfl⟩
  |5,_=>
   obtain rfl:=Zo_ ho;intro a wx hR hF hO;have f22:a.eval (.tmp 22)=.pointer (some ⟨x,0,none⟩):=hF 22 4 _ (by kernel_rfl) rfl rfl;have e22:=Tv_ f22;clear hF hO;go_simp;exact ⟨Zr_ _ _,rfl⟩
  |6,_=>
   obtain rfl:=Zo_ ho;intro a wx hR hF hO;have f23:a.eval (.tmp 23)=.pointer (some ⟨x,0,none⟩):=hF 23 5 _ (by kernel_rfl) rfl rfl;have e23:=Tv_ f23;clear hF hO;go_simp;exact ⟨Zr_ _ _,rfl⟩
  |7,_=>
   obtain rfl:=Zo_ ho;intro a wx hR hF hO;have f24:a.eval (.tmp 24)=.pointer (some ⟨x,5,none⟩):=hF 24 6 _ (by kernel_rfl) rfl rfl;have e24:=Tv_ f24;clear hF hO;obtain ⟨cx,ck⟩:=HK.out wx hR;have c5:=Za (i:=5) cx rfl;have c6:=Za (i:=6) cx rfl;have c7:=Za (i:=7) cx rfl;have c8:=Za (i:=8) cx rfl;have c9:=Za (i:=9) cx rfl;have c10:=Za (i:=10) cx rfl;go_simp;exact ⟨Zr_ _ _,rfl⟩
  |8,_=>
   obtain rfl:=Zo_ ho;intro a wx hR hF hO;have f1:a.eval (.tmp 1)=.pointer (some ⟨k,0,none⟩):=hO 1 (by kernel_rfl) (Zm (by kernel_rfl));have e1:=Tv_ f1;clear hF hO;go_simp;exact ⟨Zr_ _ _,rfl⟩
  |9,_=>
   obtain rfl:=Zo_ ho;intro a wx hR hF hO;have f26:a.eval (.tmp 26)=.pointer (some ⟨k,0,none⟩):=hF 26 8 _ (by kernel_rfl) rfl rfl;have e26:=Tv_ f26;clear hF hO;go_simp;exact ⟨Zr_ _ _,rfl⟩
  |10,_=>
   obtain rfl:=Zo_ ho;intro a wx hR hF hO;have f27:a.eval (.tmp 27)=.pointer (some ⟨k,0,none⟩):=hF 27 9 _ (by kernel_rfl) rfl rfl;have e27:=Tv_ f27;clear hF hO;go_simp;exact ⟨Zr_ _ _,rfl⟩
  |11,_=>
   obtain rfl:=Zo_ ho;intro a wx hR hF hO;have f28:a.eval (.tmp 28)=.pointer (some ⟨k,2,none⟩):=hF 28 10 _ (by kernel_rfl) rfl rfl;have e28:=Tv_ f28;clear hF hO;obtain ⟨cx,ck⟩:=HK.out wx hR;have c2:=Za (i:=2) ck rfl;go_simp;exact ⟨Zr_ _ _,rfl⟩
  |12,_=>
   obtain rfl:=Zo_ ho;intro a wx hR hF hO;have f29:a.eval (.tmp 29)=.iface 140 (.pointer (some ⟨qk,0,none⟩)):=hF 29 11 _ (by kernel_rfl) rfl rfl;have e29:=Tv_ f29;clear hF hO;have hme:=Pk;go_simp;refine Calls.mono (HD.out wx hR) ?_;rintro e w' ⟨st,va,vr,vw,vo,rfl,M⟩;exact ⟨_,rfl,M,_,_,_,_,_,rfl⟩
  |13,_=>
   obtain rfl:=Zo_ ho;intro a wx hR hF hO;have e30:∃ st va vr vw vo,(a.eval (.tmp 30))=.agg (Qe tag mark num st how ec ee va vr vw vo):=hF 30 12 _ (by kernel_rfl) rfl rfl;clear hF hO;obtain ⟨st,va,vr,vw,vo,q30⟩:=e30;replace q30:a.tmps[30]?.getD undef=_:=(show a.tmps[30]?.getD undef=a.eval (.tmp 30) by simp [Act.eval]).trans q30;have hf:∀ w:World,(Instr.field 50 (.agg (Qe tag mark num st how ec ee va vr vw vo)) 5).run Tryz.prog w=.ok (.int .i64 mark) w:=λ w=>by kernel_rfl
   go_simp;exact ⟨Zr_ _ _,rfl⟩
  |14,_=>
   obtain rfl:=Zo_ ho;intro a wx hR hF hO;have f31:a.eval (.tmp 31)=.int .i64 mark:=hF 31 13 _ (by kernel_rfl) rfl rfl;have e31:=Tv_ f31;clear hF hO;go_simp;exact ⟨Zr_ _ _,rfl⟩
  |15,_=>
   obtain rfl:=Zo_ ho;intro a wx hR hF hO;have f21:a.eval (.tmp 21)=.pointer (some ⟨ma,0,none⟩):=hF 21 3 _ (by kernel_rfl) rfl rfl;have e21:=Tv_ f21;have f25:a.eval (.tmp 25)=.agg #[.int .i64 0,.int .i64 1,.int .i64 2,.int .i64 3,.int .i64 q4,.int .i64 q5]:=hF 25 7 _ (by kernel_rfl) rfl rfl;have e25:=Tv_ f25;have f32:a.eval (.tmp 32)=.int .u64 (IntKind.u64.wrap mark):=hF 32 14 _ (by kernel_rfl) rfl rfl;have e32:=Tv_ f32;clear hF hO;go_simp;refine Calls.mono (HA.out wx hR) ?_;rintro e w' ⟨rfl,M⟩;exact ⟨_,rfl,M,_,_,rfl⟩
  |16,_=>
   obtain rfl:=Zo_ ho;intro a wx hR hF hO;have e33:∃ n e,(a.eval (.tmp 33))=.tuple #[.int .i64 n,.int .i64 e]:=hF 33 15 _ (by kernel_rfl) rfl rfl;clear hF hO;obtain ⟨n,e,q33⟩:=e33;replace q33:a.tmps[33]?.getD undef=_:=(show a.tmps[33]?.getD undef=a.eval (.tmp 33) by simp [Act.eval]).trans q33;go_simp;exact ⟨Zr_ _ _,_,_,rfl⟩
  |17,_=>
   obtain rfl:=Zo_ ho;intro a wx hR hF hO;have e17:∃ n e,(a.eval (.tmp 17))=.tuple #[.int .i64 n,.int .i64 e]:=hF 17 16 _ (by kernel_rfl) rfl rfl;clear hF hO;obtain ⟨n,e,q17⟩:=e17;replace q17:a.tmps[17]?.getD undef=_:=(show a.tmps[17]?.getD undef=a.eval (.tmp 17) by simp [Act.eval]).trans q17;go_simp;exact ⟨Zr_ _ _,_,rfl⟩
  |18,_=>
   obtain rfl:=Zo_ ho;intro a wx hR hF hO;have e17:∃ n e,(a.eval (.tmp 17))=.tuple #[.int .i64 n,.int .i64 e]:=hF 17 16 _ (by kernel_rfl) rfl rfl;clear hF hO;obtain ⟨n,e,q17⟩:=e17;replace q17:a.tmps[17]?.getD undef=_:=(show a.tmps[17]?.getD undef=a.eval (.tmp 17) by simp [Act.eval]).trans q17;go_simp;exact ⟨Zr_ _ _,_,rfl⟩
  |19,_=>
   obtain rfl:=Zo_ ho;intro a wx hR hF hO;have e34:∃ n,(a.eval (.tmp 34))=.int .i64 n:=hF 34 17 _ (by kernel_rfl) rfl rfl;clear hF hO;obtain ⟨n,q34⟩:=e34;replace q34:a.tmps[34]?.getD undef=_:=(show a.tmps[34]?.getD undef=a.eval (.tmp 34) by simp [Act.eval]).trans q34;go_simp;exact ⟨Zr_ _ _,_,rfl⟩
  |20,_=>
   obtain rfl:=Zo_ ho;intro a wx hR hF hO;have e35:∃ n,(a.eval (.tmp 35))=.int .i64 n:=hF 35 18 _ (by kernel_rfl) rfl rfl;clear hF hO;obtain ⟨n,q35⟩:=e35;replace q35:a.tmps[35]?.getD undef=_:=(show a.tmps[35]?.getD undef=a.eval (.tmp 35) by simp [Act.eval]).trans q35;go_simp;exact ⟨Zr_ _ _,_,rfl⟩
  |j+21,hh=>omega
 ·intro vs w5 hR hv;obtain ⟨n,e6⟩:∃ n,vs 19=.int .i64 n:=hv 19 (by decide);obtain ⟨X5,K5⟩:=HK.out w5 hR;obtain ⟨c5,f5,l5⟩:=HCF.out w5 hR;have x14:=Za (i:=14) X5 rfl;have k3:=Za (i:=3) K5 rfl;have hi:=HI.out;have H5:=Zh_ (((Zr_ _ w).drew).trans hR);have lx:=lt_of_block X5;have lk:=lt_of_block K5;clear hv hR X5 K5 k2 hta;simp only [Xb,Act.put,e6];go_simp;go_upto_region 3 with fail;go_region;go_wp2_with fail;go_end0;refine ⟨rfl,w5.drew,n,H5.out.drew,rfl⟩
end
end Go.Proofs.YtkhonmhnchdpkaaGreat

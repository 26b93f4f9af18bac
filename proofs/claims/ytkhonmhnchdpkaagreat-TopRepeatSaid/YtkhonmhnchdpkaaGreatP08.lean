/- A part of the proof; no condition. -/
import Derived.Test.YtkhonmhnchdpkaaGreatP07
set_option maxRecDepth 100000
set_option maxHeartbeats 40000000
namespace Go.Proofs.YtkhonmhnchdpkaaGreat
open Go.RowKit _root_.Go.Proofs.Tryz
section
attribute [local go_sem] Zj
variable {w w' w0:World} {p p':MP} {s s':Zl}
theorem step_go (h:Zg w p s) (h1:s.waits=false) (h2:s.how=0) (hb:s.bad=false) (hu:s.used≠s.c2) (hp:s.place≠s.code.length) (hp0:0<=s.place) (hp1:s.place<=s.code.length) (hub:0<=s.used/\s.used<=2048) (hcl:s.code.length<=4096) {L:Int} (hmay:∀ i∈s.code,i.may L=true) (o:Yl s):Calls Tryz.prog 108 #[.pointer (some ⟨p.mb,0,none⟩)] w λ e w'=>∃ v,e=.returned (s.step v).2.val/\Zk w p (s.step v).1 w':=by
 have D0:Zk ((w.alloc (T7 p)).alloc Yb) p s ((w.alloc (T7 p)).alloc Yb):=.same ((h.alloc _).alloc _);have hlt:=lt_of_block h.hd;have HH:=Zh_ h;have hmf:∀ (fn:Fn) (first cap:Array Value) (w:World),(Instr.makeFunc fn first cap).run Tryz.prog w=.ok (.func fn first cap) w:=λ _ _ _ _=>rfl
 have r27:=(h.cell 27 (u:=.bool s.waits) rfl).1;have r29:=(h.cell 29 (u:=.int .i64 s.how) rfl).1;have r6:=(h.cell 6 (u:=.bool s.bad) rfl).1;have r26:=(h.cell 26 (u:=.int .i64 s.used) rfl).1;have r2:=(h.cell 2 (u:=.int .i64 s.c2) rfl).1;have r25:=(h.cell 25 (u:=.int .i64 s.place) rfl).1;rw [h1] at r27;rw [h2] at r29;rw [hb] at r6;obtain ⟨av,cv,hv⟩:=Zo h.code;have r5:w.cell? ⟨p.mb,5,none⟩=some (.slice av s.code.length cv):=by rw [show Value.slice av s.code.length cv=p.vc from hv.symm];exact (h.cell 5 (u:=p.vc) rfl).1
 have hu':(s.used==s.c2)=false:=by simp [hu]
 have hp':(s.place==(s.code.length:Int))=false:=by simp [hp]
 obtain ⟨g,cap',hg,-⟩:=Yd h.code (by omega);rw [hv] at hg;simp only [Value.slice.injEq,true_and] at hg;obtain ⟨rfl,rfl⟩:=hg;obtain ⟨k,hk⟩:∃ k:Nat,s.place=k:=⟨s.place.toNat,by omega⟩;have hkl:k < s.code.length:=by omega
 obtain ⟨i,hi⟩:∃ i,s.code[k]? =some i:=⟨_,List.getElem?_eq_getElem hkl⟩;obtain ⟨y0,y1,y2⟩:=Tt hi;have hrow:=h.code;rw [hv] at hrow;have q0:w.cell? ⟨g,k * 3,none⟩=some (.int .i64 i.op):=(hrow.cellAt _ (by omega)).trans y0;have q1:w.cell? ⟨g,k * 3+1,none⟩=some (.int .i64 i.n):=(hrow.cellAt _ (by omega)).trans y1;have q2:w.cell? ⟨g,k * 3+2,none⟩=some (.float .f64 i.x):=(hrow.cellAt _ (by omega)).trans y2;have f25:=(h.cell 25 (u:=.int .i64 s.place) rfl).2;have f26:=(h.cell 26 (u:=.int .i64 s.used) rfl).2;have hgl:g < w.heap.size:=Ys hrow rfl;rw [hk] at r25 hp';have b0:(0:Int)<=(k:Int):=by omega
 have b1:(k:Int) < (s.code.length:Int):=by omega
 have w1:IntKind.i64.wrap (s.used+1)=s.used+1:=IntWalk.i64_in _ (by omega);have w2:IntKind.i64.wrap ((k:Int)+1)=(k:Int)+1:=IntWalk.i64_in _ (by omega);have HMAY:=Zh_ hmay;have HO:=Zh_ o;clear hmay o;have HE:=Zh_ (show ∀ v,s.step v=s.go v from λ v=>by unfold Zl.step;simp [h1,h2,hb,hu,hp]);have HI:=Zh_ hi;have HK:=Zh_ hk;have HV:=Zh_ hv;have HY:=Zh_ (And.intro y0 (And.intro y1 y2));clear h h1 h2 hb hu hp hv hrow y0 y1 y2 hi hk
 go_enter_defers func108,ntmps108
 go_wp2_with fail;go_quiet (fail);go_wp2_with fail;generalize hm1:nq=n1;go_quiet (fail);go_wp2_with fail;have hA:Zg ((((w.alloc (.cells #[.pointer (some ⟨p.mb,0,none⟩)] 155)).alloc (.cells #[.int .i64 0,.int .i64 0,.float .f64 0,.bool false] 152)).drewN n1).drewN nq) p s:=(((HH.out.alloc _).alloc _).drewN n1).drewN nq;have D1:Zk ((w.alloc (T7 p)).alloc Yb) p s ((((w.alloc (.cells #[.pointer (some ⟨p.mb,0,none⟩)] 155)).alloc (.cells #[.int .i64 0,.int .i64 0,.float .f64 0,.bool false] 152)).drewN n1).drewN nq):=(D0.drewN' n1).drewN' nq;have bx:((((w.alloc (.cells #[.pointer (some ⟨p.mb,0,none⟩)] 155)).alloc (.cells #[.int .i64 0,.int .i64 0,.float .f64 0,.bool false] 152)).drewN n1).drewN nq).cell? ⟨w.heap.size,0,none⟩=some (.pointer (some ⟨p.mb,0,none⟩)):=Za (Qm HH.out D1) rfl;have a5:((((w.alloc (.cells #[.pointer (some ⟨p.mb,0,none⟩)] 155)).alloc (.cells #[.int .i64 0,.int .i64 0,.float .f64 0,.bool false] 152)).drewN n1).drewN nq).cell? ⟨p.mb,5,none⟩=some (.slice (some ⟨g,0,none⟩) s.code.length cv):=by rw [<-HV.out];exact (hA.cell 5 (u:=p.vc) rfl).1
 have a25:((((w.alloc (.cells #[.pointer (some ⟨p.mb,0,none⟩)] 155)).alloc (.cells #[.int .i64 0,.int .i64 0,.float .f64 0,.bool false] 152)).drewN n1).drewN nq).cell? ⟨p.mb,25,none⟩=some (.int .i64 k):=by rw [<-HK.out];exact (hA.cell 25 (u:=.int .i64 s.place) rfl).1
 have hrowA:=hA.code;rw [HV.out] at hrowA;have a26:=(hA.cell 26 (u:=.int .i64 s.used) rfl).1;have e25:=(hA.cell 25 (u:=.int .i64 s.place) rfl).2;have e26:=(hA.cell 26 (u:=.int .i64 s.used) rfl).2;have c0:((((w.alloc (.cells #[.pointer (some ⟨p.mb,0,none⟩)] 155)).alloc (.cells #[.int .i64 0,.int .i64 0,.float .f64 0,.bool false] 152)).drewN n1).drewN nq).cell? ⟨g,k * 3,none⟩=some (.int .i64 i.op):=(hrowA.cellAt _ (by omega)).trans HY.out.1;have c1:((((w.alloc (.cells #[.pointer (some ⟨p.mb,0,none⟩)] 155)).alloc (.cells #[.int .i64 0,.int .i64 0,.float .f64 0,.bool false] 152)).drewN n1).drewN nq).cell? ⟨g,k * 3+1,none⟩=some (.int .i64 i.n):=(hrowA.cellAt _ (by omega)).trans HY.out.2.1;have c2:((((w.alloc (.cells #[.pointer (some ⟨p.mb,0,none⟩)] 155)).alloc (.cells #[.int .i64 0,.int .i64 0,.float .f64 0,.bool false] 152)).drewN n1).drewN nq).cell? ⟨g,k * 3+2,none⟩=some (.float .f64 i.x):=(hrowA.cellAt _ (by omega)).trans HY.out.2.2;have hsz:w.heap.size+2=((((w.alloc (.cells #[.pointer (some ⟨p.mb,0,none⟩)] 155)).alloc (.cells #[.int .i64 0,.int .i64 0,.float .f64 0,.bool false] 152)).drewN n1).drewN nq).heap.size:=by simp
 clear r5 r25 r26 q0 q1 q2 f25 f26 r27 r29 r6 r2 D0 hrowA;generalize (((w.alloc (.cells #[.pointer (some ⟨p.mb,0,none⟩)] 155)).alloc (.cells #[.int .i64 0,.int .i64 0,.float .f64 0,.bool false] 152)).drewN n1).drewN nq=wb at *
 have l1:p.mb < wb.heap.size:=by omega
 have l2:g < wb.heap.size:=by omega
 have l3:w.heap.size < wb.heap.size:=by omega
 have HZ:=Zh_ hsz;clear hsz;go_region;go_wp2_with fail;have D2:=(((D1.set1 26 (.int .i64 (s.used+1)) {s with used:=s.used+1} (λ _=>rfl) rfl rfl rfl rfl rfl rfl).set1 25 (.int .i64 ((k:Int)+1)) s.next (λ q=>by rw [<-HK.out];rfl) rfl rfl rfl rfl rfl rfl).alloc (.cells #[.int .i64 i.op,.int .i64 i.n,.float .f64 i.x] 106)).drew;have B2:(((wb.setCell ⟨p.mb,26,none⟩ (.int .i64 (s.used+1))).setCell ⟨p.mb,25,none⟩ (.int .i64 ((k:Int)+1))).alloc (.cells #[.int .i64 i.op,.int .i64 i.n,.float .f64 i.x] 106)).drew.heap[wb.heap.size]? =some (.cells #[.int .i64 i.op,.int .i64 i.n,.float .f64 i.x] 106 (0,0)):=by
  have:=Zc ((wb.setCell ⟨p.mb,26,none⟩ (.int .i64 (s.used+1))).setCell ⟨p.mb,25,none⟩ (.int .i64 ((k:Int)+1))) (.cells #[.int .i64 i.op,.int .i64 i.n,.float .f64 i.x] 106);rw [show ((wb.setCell ⟨p.mb,26,none⟩ (.int .i64 (s.used+1))).setCell ⟨p.mb,25,none⟩ (.int .i64 ((k:Int)+1))).heap.size=wb.heap.size by simp] at this;exact this
 have hmi:=HMAY.out i (List.mem_of_getElem? HI.out);have hat:s.at=i:=by unfold Zl.at;rw [HK.out];simp [List.getD,HI.out]
 generalize (((wb.setCell ⟨p.mb,26,none⟩ (.int .i64 (s.used+1))).setCell ⟨p.mb,25,none⟩ (.int .i64 ((k:Int)+1))).alloc (.cells #[.int .i64 i.op,.int .i64 i.n,.float .f64 i.x] 106)).drew=wc at *
 obtain ⟨ri1,ri2⟩:=Hm hmi;have h5:i.op=5->0<=i.n/\i.n<=63:=λ h=>by
  have:=may_n (k:=i.op) (n:=i.n) (x:=i.x) hmi;rw [h] at this;exact this
 have hcx:wc.cell? ⟨w.heap.size,0,none⟩=some (.pointer (some ⟨p.mb,0,none⟩)):=Za (Qm HH.out D2) rfl;have hrd:=λ q (hq:Zg wc q s.next)=>ready_c hq i.op i.n i.x ri1 ri2 h5 HO.out.nums HO.out.calls;have HD:=Zh_ D2;have HB2:=Zh_ B2;have HAT:=Zh_ hat;obtain ⟨q,hq,F⟩:=D2;have hrd2:=hrd q hq;rw [F.mb] at hrd2;clear hrd D1 hA bx a5 a25 a26 e25 e26 c0 c1 c2 l1 l2 l3 B2 hat hq F hcx h5;refine hrd2.mono ?_;rintro e w3 ⟨he,m3⟩;have D3:=HD.out.mod0 m3;cases hr:s.next.readyB ⟨i.op,i.n,i.x⟩
 ·rw [hr] at he;simp only [Bool.false_eq_true,if_false] at he;subst he;have HE2:=Zh_ (show s.step 0=s.next.fault 82 from by rw [HE.out,Zl.go,HAT.out];exact if_pos hr);go_wp2;refine leaves_cons (f:=139) (args:=#[.pointer (some ⟨w.heap.size,0,none⟩),.pointer (some ⟨(w.heap.size+1),0,none⟩)]) (by simp) (by simp [go_sem]) ?_;refine (Bo HH.out D3 82).mono ?_;rintro e u' w9 ⟨rfl,rfl,RB9,D9⟩;simp only [Leaves,settle,List.dropWhile];exact ⟨(Zz 4).val,(results_cell_row (P:=Tryz.prog) (fn:=Tryz.f108) (p:=2) (ty:=152) rfl _ _ (w.heap.size+1) 152 _ (0,0) _ rfl RB9 underlying152 rfl (by kernel_rfl)),0,by rw [HE2.out];rfl,by rw [HE2.out];exact D9⟩
 ·rw [hr] at he;simp only [if_true] at he;subst he;have B3:=m3.at HB2.out (by simp);have i0:w3.cell? ⟨wb.heap.size,0,none⟩=some (.int .i64 i.op):=Za B3 rfl;have i1:w3.cell? ⟨wb.heap.size,1,none⟩=some (.int .i64 i.n):=Za B3 rfl;have i2:w3.cell? ⟨wb.heap.size,2,none⟩=some (.float .f64 i.x):=Za B3 rfl;have hcx:w3.cell? ⟨w.heap.size,0,none⟩=some (.pointer (some ⟨p.mb,0,none⟩)):=Za (Qm HH.out D3) rfl;obtain ⟨q,hq,F⟩:=D3;have hdo:=do_c hq i hmi hr HO.out.nums HO.out.calls (by have:=HO.out.out;have:=HO.out.used1;have:=HO.out.fuel;show s.out.length<=4096;omega) (by have h1:=HO.out.reads;have h2:=HO.out.used1;have h3:=HO.out.fuel;show s.reads.length<=4096;split at h1 <;> omega) HO.out.c0;rw [F.mb] at hdo;have HF:=Zh_ F;clear B3 hq F m3 hrd2;go_wp2_with fail;refine hdo.mono ?_;rintro e w4 ⟨v,hx⟩;cases hdE:s.next.doE v i with
  |error c=>
   rw [hdE] at hx;obtain ⟨he,r,k1,k2⟩:=hx;have D4:Zk ((w.alloc (T7 p)).alloc Yb) p s.next w4:=⟨r,k1,HF.out.trans k2⟩;subst he;have HE2:=Zh_ (show s.step v=s.next.fault c from by rw [HE.out,Zl.go,HAT.out,if_neg (by rw [show s.next.readyB i=true from hr];simp),hdE]);clear k1 k2 hdE i0 i1 i2 hcx hdo;go_wp2;refine leaves_cons (f:=139) (args:=#[.pointer (some ⟨w.heap.size,0,none⟩),.pointer (some ⟨(w.heap.size+1),0,none⟩)]) (by simp) (by simp [go_sem]) ?_;refine (Bo HH.out D4 c).mono ?_;rintro e u' w9 ⟨rfl,rfl,RB9,D9⟩;simp only [Leaves,settle,List.dropWhile];exact ⟨(Zz 4).val,(results_cell_row (P:=Tryz.prog) (fn:=Tryz.f108) (p:=2) (ty:=152) rfl _ _ (w.heap.size+1) 152 _ (0,0) _ rfl RB9 underlying152 rfl (by kernel_rfl)),v,by rw [HE2.out];rfl,by rw [HE2.out];exact D9⟩
  |ok r=>
   obtain ⟨s',a⟩:=r;rw [hdE] at hx;obtain ⟨he,r,k1,k2⟩:=hx;have D4:Zk ((w.alloc (T7 p)).alloc Yb) p s' w4:=⟨r,k1,HF.out.trans k2⟩;have he2:e=.returned (.agg #[.int .i64 a.kind,.int .i64 a.cell,.float .f64 a.x,.bool a.first]):=he
   subst he2;have HE2:=Zh_ (show s.step v=(s',a) from by rw [HE.out,Zl.go,HAT.out,if_neg (by rw [show s.next.readyB i=true from hr];simp),hdE]);have RB:=Y8 HH.out D4;have HRB:=Zh_ RB;have g0:w4.cell? ⟨w.heap.size+1,0,none⟩=some (.int .i64 0):=Za RB rfl;have z0:w4.frozen? ⟨w.heap.size+1,0,none⟩=false:=Zb RB;have g1:w4.cell? ⟨w.heap.size+1,1,none⟩=some (.int .i64 0):=Za RB rfl;have z1:w4.frozen? ⟨w.heap.size+1,1,none⟩=false:=Zb RB;have g2:w4.cell? ⟨w.heap.size+1,2,none⟩=some (.float .f64 0):=Za RB rfl;have z2:w4.frozen? ⟨w.heap.size+1,2,none⟩=false:=Zb RB;have g3:w4.cell? ⟨w.heap.size+1,3,none⟩=some (.bool false):=Za RB rfl;have z3:w4.frozen? ⟨w.heap.size+1,3,none⟩=false:=Zb RB;have HD4:=Zh_ D4;clear k1 k2 hdE i0 i1 i2 hcx hdo he RB D4;go_wp2;refine leaves_cons (f:=139) (args:=#[.pointer (some ⟨w.heap.size,0,none⟩),.pointer (some ⟨(w.heap.size+1),0,none⟩)]) (by simp) (by simp [go_sem]) ?_;refine (catch_i _ _ _).mono ?_;rintro e u' w9 ⟨rfl,rfl,hw9⟩;subst hw9;simp only [Leaves,settle];exact ⟨a.val,(results_cell_row (P:=Tryz.prog) (fn:=Tryz.f108) (p:=2) (ty:=152) rfl _ _ (w.heap.size+1) 152 _ (0,0) _ rfl (Xa HRB.out a) underlying152 rfl (by kernel_rfl)),v,by rw [HE2.out],by rw [HE2.out];exact Y9 HH.out HD4.out a⟩
end
section
attribute [local go_sem] Zj
variable {w w' w0:World} {p p':MP} {s s':Zl}
theorem Pg {tag:Int} {code:List Xf} (h:Xv tag code=true):code.length<=1024/\∀ i∈code,i.may code.length=true:=by
 unfold Xv at h;simp only [Bool.and_eq_true,decide_eq_true_eq,List.all_eq_true] at h;exact ⟨h.1.2,h.2⟩
theorem step_c (h:Zg w p s) (o:Yl s):Calls Tryz.prog 108 #[.pointer (some ⟨p.mb,0,none⟩)] w λ e w'=>∃ v,e=.returned (s.step v).2.val/\Zk w p (s.step v).1 w':=by
 cases h1:s.waits
 ·by_cases h2:s.how=0
  ·cases hb:s.bad
   ·by_cases hu:s.used=s.c2
    ·exact Ac h h1 h2 hb hu
    ·by_cases hp:s.place=s.code.length
     ·exact step_end h h1 h2 hb hu hp
     ·have hok:Xv s.tag s.code=true:=by have:=o.bad;rw [hb] at this;simpa using this.symm
      obtain ⟨c1,c2⟩:=Pg hok;exact step_go h h1 h2 hb hu hp o.place0 o.place1 ⟨o.used0,by have:=o.used1;have:=o.fuel;omega⟩ (by omega) c2 o
   ·exact step_bad h h1 h2 hb
  ·exact Ch h h1 h2
 ·exact Cg h h1
end
section
attribute [local go_sem] Zj
variable {s s':Zl}
theorem Yl.ends (o:Yl s) (a b c:Int):Yl (s.ends a b c):=⟨o.used0,o.used1,o.fuel,o.place0,o.place1,o.nums,o.calls,o.call,o.out,o.reads,o.room,o.bad,o.c0,o.order⟩
theorem Yl.give (o:Yl s) (hw:s.waits=true) (x:Nat):Yl (s.give x):=by
 have hr:=o.reads;rw [hw] at hr;simp only [if_true] at hr;refine ⟨o.used0,o.used1,o.fuel,o.place0,o.place1,?_,o.calls,o.call,o.out,?_,?_,o.bad,o.c0,o.order⟩
 ·have:=o.room hw;show (s.nums++[Zt x]).length<=64;simp;omega
 ·show ((s.reads++[(s.cell,Zt x)]).length:Int)+(if false=true then 1 else 0)<=s.used;simp;omega
 ·intro h;exact absurd h (by simp [Zl.give])
structure Xq (s:Zl):Prop where
 ok:Yl s
 wait:s.waits=false
 out:(s.out.length:Int)+1<=s.used
 reads:(s.reads.length:Int)+1<=s.used
theorem Xq.next (o:Yl s) (hw:s.waits=false) (hu:s.used≠s.c2) (hp:s.place≠s.code.length):Xq s.next:=by
 have hr:=o.reads;rw [hw] at hr;simp only [Bool.false_eq_true,if_false] at hr;have e1:=o.used1;have e2:=o.used0;have e3:=o.place0;have e4:=o.place1;have e5:=o.out;refine ⟨⟨?_,?_,o.fuel,?_,?_,o.nums,o.calls,o.call,?_,?_,o.room,o.bad,o.c0,o.order⟩,hw,?_,?_⟩
 ·show 0<=s.used+1;omega
 ·show s.used+1<=s.c2;omega
 ·show 0<=s.place+1;omega
 ·show s.place+1<=s.code.length;omega
 ·show (s.out.length:Int)<=s.used+1;omega
 ·show (s.reads.length:Int)+(if s.waits=true then 1 else 0)<=s.used+1;rw [hw];simp;omega
 ·show (s.out.length:Int)+1<=s.used+1;omega
 ·show (s.reads.length:Int)+1<=s.used+1;omega
theorem Xq.nums (o:Xq s) (l:List Nat) (h:l.length<=64):Xq {s with nums:=l}:=
 ⟨⟨o.ok.used0,o.ok.used1,o.ok.fuel,o.ok.place0,o.ok.place1,h,o.ok.calls,o.ok.call,o.ok.out,o.ok.reads,λ hw=>absurd hw (by simp [o.wait]),o.ok.bad,o.ok.c0,o.ok.order⟩,o.wait,o.out,o.reads⟩
theorem Xq.place (o:Xq s) (n:Int) (h0:0<=n) (h1:n<=s.code.length):Xq {s with place:=n}:=
 ⟨⟨o.ok.used0,o.ok.used1,o.ok.fuel,h0,h1,o.ok.nums,o.ok.calls,o.ok.call,o.ok.out,o.ok.reads,o.ok.room,o.ok.bad,o.ok.c0,o.ok.order⟩,o.wait,o.out,o.reads⟩
theorem Xq.calls (o:Xq s) (l:List Int) (h:l.length<=16) (hc:∀ c∈l,0<=c/\c<=s.code.length):Xq {s with calls:=l}:=
 ⟨⟨o.ok.used0,o.ok.used1,o.ok.fuel,o.ok.place0,o.ok.place1,o.ok.nums,h,hc,o.ok.out,o.ok.reads,o.ok.room,o.ok.bad,o.ok.c0,o.ok.order⟩,o.wait,o.out,o.reads⟩
theorem Xq.locals (o:Xq s) (f:Nat->Nat):Xq {s with locals:=f}:=
 ⟨⟨o.ok.used0,o.ok.used1,o.ok.fuel,o.ok.place0,o.ok.place1,o.ok.nums,o.ok.calls,o.ok.call,o.ok.out,o.ok.reads,o.ok.room,o.ok.bad,o.ok.c0,o.ok.order⟩,o.wait,o.out,o.reads⟩
theorem Xq.set8 (o:Xq s) (l:List Nat) (h:l.length<=64) (f:Nat->Nat):Xq {s with nums:=l,locals:=f}:=(o.nums l h).locals f
theorem Xq.emit (o:Xq s) (l:List Nat) (h:l.length<=64) (x:Nat):Yl {s with nums:=l,out:=s.out++[x]}:=
 ⟨o.ok.used0,o.ok.used1,o.ok.fuel,o.ok.place0,o.ok.place1,h,o.ok.calls,o.ok.call,by have:=o.out;simp;omega,o.ok.reads,λ hw=>absurd hw (by simp [o.wait]),o.ok.bad,o.ok.c0,o.ok.order⟩
theorem Al (o:Xq s) (k n:Int) (x v:Nat) {L:Int} (hm:(⟨k,n,x⟩:Xf).may L=true) (hr:s.readyB ⟨k,n,x⟩=true):Yl (s.reckon v ⟨k,n,x⟩):=by
 obtain ⟨r1,r2⟩:=Hm hm;obtain ⟨q1,q2,q3⟩:=Ns hr;simp only at r1 r2;have h64:=o.ok.nums;rcases (show k=1\/k=2\/k=3\/k=4\/k=5\/k=6\/k=7\/k=8\/k=9\/k=10\/k=11\/k=12\/k=13\/k=14\/k=15\/k=16\/k=17\/k=18\/k=19\/k=20 by omega) with rfl|rfl|rfl|rfl|rfl|rfl|rfl|rfl|rfl|rfl|rfl|rfl|rfl|rfl|rfl|rfl|rfl|rfl|rfl|rfl
 all_goals simp only [Qs,Jm] at q1 q2
 ·exact (o.nums (s.nums++[Zt x]) (by simp;omega)).ok
 ·exact (o.nums s.nums.dropLast (by simp;omega)).ok
 ·exact (o.nums (s.nums++[s.top]) (by simp;omega)).ok
 ·exact (o.nums ((s.nums.dropLast.dropLast++[s.top])++[s.pop.top]) (by simp;omega)).ok
 ·exact (o.nums (s.nums++[s.pick n.toNat]) (by simp;omega)).ok
 ·exact (o.nums (s.nums++[s.args n.toNat]) (by simp;omega)).ok
 ·exact (o.nums (s.nums++[s.locals n.toNat]) (by simp;omega)).ok
 ·exact (o.set8 s.nums.dropLast (by simp;omega) (Db s.locals n.toNat s.top)).ok
 ·exact (o.nums (s.nums.dropLast++[Zt v]) (by simp;omega)).ok
 ·exact (o.nums (s.nums.dropLast.dropLast++[Cf n (Zt s.pop.top) (Zt s.top) v]) (by simp;omega)).ok
 all_goals first
  |exact o.ok
  |exact o.emit s.nums.dropLast (by simp;omega) s.top
theorem read_ok (o:Xq s) (h:0 < s.nums.length) {r:Zl×Xg} (he:s.readE=.ok r):Yl r.1:=by
 unfold Zl.readE at he;have h64:=o.ok.nums;have hr:=o.reads;split at he
 ·simp at he
 ·split at he
  ·simp only [Except.ok.injEq] at he;subst he;exact ⟨o.ok.used0,o.ok.used1,o.ok.fuel,o.ok.place0,o.ok.place1,by show (s.nums.dropLast++[_]).length<=64;simp;omega,o.ok.calls,o.ok.call,o.ok.out,by show ((s.reads++[_]).length:Int)+(if s.waits=true then 1 else 0)<=s.used;rw [o.wait];simp;omega,λ hw=>absurd hw (by show ¬ s.waits=true;simp [o.wait]),o.ok.bad,o.ok.c0,o.ok.order⟩
  ·simp only [Except.ok.injEq] at he;subst he;exact ⟨o.ok.used0,o.ok.used1,o.ok.fuel,o.ok.place0,o.ok.place1,by show s.nums.dropLast.length<=64;simp;omega,o.ok.calls,o.ok.call,o.ok.out,by show (s.reads.length:Int)+(if true=true then 1 else 0)<=s.used;simp;omega,λ _=>by show s.nums.dropLast.length < 64;simp;omega,o.ok.bad,o.ok.c0,o.ok.order⟩
theorem write_ok (o:Xq s) {r:Zl×Xg} (he:s.writeE=.ok r):Yl r.1:=by
 unfold Zl.writeE at he;have h64:=o.ok.nums;split at he
 ·simp at he
 ·split at he
  ·simp at he
  ·rename_i c hc;have hb:=Nw hc;have h0:=o.ok.c0;split at he
   ·simp at he
   ·simp only [Except.ok.injEq] at he;subst he;refine ⟨o.ok.used0,o.ok.used1,o.ok.fuel,o.ok.place0,o.ok.place1,by show s.nums.dropLast.dropLast.length<=64;simp;omega,o.ok.calls,o.ok.call,o.ok.out,o.ok.reads,λ hw=>absurd hw (by show ¬ s.waits=true;simp [o.wait]),o.ok.bad,o.ok.c0,?_⟩;intro k hk;have hk':k∈(if s.buf.known c=true then s.buf.order else s.buf.order++[c]):=hk;split at hk'
    ·exact o.ok.order k hk'
    ·simp at hk';rcases hk' with hk'|rfl
     ·exact o.ok.order k hk'
     ·omega
theorem do_ok (o:Xq s) (i:Xf) (hm:i.may s.code.length=true) (hr:s.readyB i=true) (v:Nat) {r:Zl×Xg} (he:s.doE v i=.ok r):Yl r.1:=by
 obtain ⟨k,n,x⟩:=i;obtain ⟨r1,r2⟩:=Hm hm;obtain ⟨q1,q2,q3⟩:=Ns hr;have hn:=may_n hm;have h64:=o.ok.nums;simp only at r1 r2
 by_cases hdef:1<=k/\k<=10\/k=18
 ·have e:s.doE v ⟨k,n,x⟩=.ok (s.reckon v ⟨k,n,x⟩,Zz 0):=by
   rcases (show k=1\/k=2\/k=3\/k=4\/k=5\/k=6\/k=7\/k=8\/k=9\/k=10\/k=18 by omega) with rfl|rfl|rfl|rfl|rfl|rfl|rfl|rfl|rfl|rfl|rfl <;> rfl
  rw [e] at he;simp only [Except.ok.injEq] at he;subst he;exact Al o k n x v hm hr
 ·rcases (show k=11\/k=12\/k=13\/k=14\/k=15\/k=16\/k=17\/k=19\/k=20 by omega) with rfl|rfl|rfl|rfl|rfl|rfl|rfl|rfl|rfl
  ·have e:s.doE v ⟨11,n,x⟩=.ok ({s with place:=n},Zz 0):=rfl;rw [e] at he;simp only [Except.ok.injEq] at he;subst he;have hn':0<=n/\n < s.code.length:=hn;exact (o.place n hn'.1 (by omega)).ok
  ·have e:s.doE v ⟨12,n,x⟩=.ok ({s.pop with place:=if Ut s.top=true then n else s.place},Zz 0):=by simp [Zl.doE,Zl.pop]
   rw [e] at he;simp only [Except.ok.injEq] at he;subst he;have hn':0<=n/\n < s.code.length:=hn;have e0:=o.ok.place0;have e1:=o.ok.place1;exact ((o.nums s.nums.dropLast (by simp;omega)).place (if Ut s.top=true then n else s.place) (by split <;> omega) (by show (if Ut s.top=true then n else s.place)<=s.code.length;split <;> omega)).ok
  ·have e:s.doE v ⟨13,n,x⟩=.ok ({s.pop with place:=if Ut s.top=false then n else s.place},Zz 0):=by simp [Zl.doE,Zl.pop]
   rw [e] at he;simp only [Except.ok.injEq] at he;subst he;have hn':0<=n/\n < s.code.length:=hn;have e0:=o.ok.place0;have e1:=o.ok.place1;exact ((o.nums s.nums.dropLast (by simp;omega)).place (if Ut s.top=false then n else s.place) (by split <;> omega) (by show (if Ut s.top=false then n else s.place)<=s.code.length;split <;> omega)).ok
  ·have e:s.doE v ⟨14,n,x⟩=.ok ({s with calls:=s.calls++[s.place],place:=n},Zz 0):=rfl;rw [e] at he;simp only [Except.ok.injEq] at he;subst he;have hn':0<=n/\n < s.code.length:=hn;have hc:=o.ok.calls;have h3:=q3 rfl;exact ((o.calls (s.calls++[s.place]) (by simp;omega) (λ c hc=>by
    simp at hc;rcases hc with hc|rfl
    ·exact o.ok.call c hc
    ·exact ⟨o.ok.place0,o.ok.place1⟩)).place n hn'.1 (by show n<=s.code.length;omega)).ok
  ·have e:s.doE v ⟨15,n,x⟩=(match s.calls.getLast? with|none=>.ok (s.ends 1 0 0,Zz 4)|some at_=>.ok ({s with calls:=s.calls.dropLast,place:=at_},Zz 0)):=rfl;rw [e] at he;split at he
   ·simp only [Except.ok.injEq] at he;subst he;exact o.ok.ends 1 0 0
   ·rename_i c hc;simp only [Except.ok.injEq] at he;subst he;have hm:=o.ok.call c (List.mem_of_getLast? hc);have hl:=o.ok.calls;exact ((o.calls s.calls.dropLast (by simp;omega) (λ c hc=>o.ok.call c (List.dropLast_subset _ hc))).place c hm.1 hm.2).ok
  ·have e1:(1:Int)<=s.nums.length:=q1;exact read_ok o (by omega) he
  ·exact write_ok o he
  ·have e:s.doE v ⟨19,n,x⟩=.ok (s.ends 2 n 0,Zz 4):=rfl;rw [e] at he;simp only [Except.ok.injEq] at he;subst he;exact o.ok.ends 2 n 0
  ·have e:s.doE v ⟨20,n,x⟩=.ok (s.ends 1 0 0,Zz 4):=rfl;rw [e] at he;simp only [Except.ok.injEq] at he;subst he;exact o.ok.ends 1 0 0
theorem Hd (o:Yl s) (v:Nat):Yl (s.step v).1:=by
 unfold Zl.step;split
 ·exact o
 ·rename_i hw;split
  ·exact o
  ·split
   ·exact o.ends 3 0 50
   ·rename_i hb;split
    ·exact o.ends 3 0 80
    ·rename_i hu;split
     ·exact o.ends 3 0 50
     ·rename_i hp;have on:=Xq.next o (by simpa using hw) hu hp;unfold Zl.go;split
      ·exact on.ok.ends 3 0 82
      ·rename_i hr;have hok:Xv s.tag s.code=true:=by have:=o.bad;simp only [Bool.not_eq_true] at hb;rw [hb] at this;simpa using this.symm
       obtain ⟨c1,c2⟩:=Pg hok;have e0:=o.place0;have e1:=o.place1;have hk:s.place.toNat < s.code.length:=by omega
       have hmem:s.at∈s.code:=by unfold Zl.at;simp [List.getD,hk]
       split
       ·rename_i r he;exact do_ok on s.at (c2 _ hmem) (by simpa using hr) v he
       ·exact on.ok.ends 3 0 _
end
end Go.Proofs.YtkhonmhnchdpkaaGreat

/- A part of the proof; no condition. -/
import Derived.Test.YtkhonmhnchdpkaaGreatB04
set_option maxRecDepth 100000
set_option maxHeartbeats 40000000
namespace Go.Proofs.YtkhonmhnchdpkaaGreat
open Go.RowKit _root_.Go.Proofs.Tryz
open Go renaming World→W
open Value renaming int→U,pointer→E,slice→L,float→Z,agg→A9
open IntKind renaming i64→Y,u64→Y9
open FloatKind renaming f64→V
open Obj renaming cells→X
open Option renaming some→I,none→O
open Ending renaming returned→R9
open _root_.Go.Proofs.Tryz renaming prog→N
section
attribute [local go_sem] Zi
variable {w w' w0:W} {p p':MP} {s s':Zk}
theorem step_bad (h:Zg w p s) (h1:s.waits=false) (h2:s.qq=0) (hb:s.bad=true):Calls N 108 #[E (I ⟨p.mb,0,O⟩)] w λ e w'=>∃ v,e=R9 (s.step v).2.val/\Zl w p (s.step v).1 w':=by
 have D0:Zl ((w.alloc (Rt p)).alloc Ye) p s ((w.alloc (Rt p)).alloc Ye):=.same ((h.alloc _).alloc _);have hlt:=B9 h.hd;have HH:=Zh_ h;have hmf:∀ (fn:Fn) (first cap:Array Value) (w:W),(Instr.makeFunc fn first cap).run N w=.ok (.func fn first cap) w:=λ _ _ _ _=>J
 have r27:=(h.cell 27 (u:=.bool s.waits) J).1;have r29:=(h.cell 29 (u:=U Y s.qq) J).1;have r6:=(h.cell 6 (u:=.bool s.bad) J).1;rw [h1] at r27;rw [h2] at r29;rw [hb] at r6;have HE:=Zh_ (show ∀ v,s.step v=s.fault 50 from λ v=>by unfold Zk.step;simp [h1,h2,hb]);clear h h1 h2 hb
 go_enter_defers func108,ntmps108
 go_wp2_with fail;refine (Ja 50 (by decide) _).mono ?_;rintro e w1 ⟨rfl,hw1⟩;have hw1':=hw1.symm;subst hw1';go_wp2;refine leaves_cons (f:=139) (args:=#[E (I ⟨w.heap.size,0,O⟩),E (I ⟨(w.heap.size+1),0,O⟩)]) (by simp) (by simp [go_sem]) ?_;refine (Hg HH.out D0 50).mono ?_;rintro e u' w9 ⟨rfl,rfl,RB9,D9⟩;simp only [Leaves,settle,List.dropWhile];exact ⟨(Z1 4).val,(results_cell_row (P:=N) (fn:=Tryz.f108) (p:=2) (ty:=152) J _ _ (w.heap.size+1) 152 _ (0,0) _ J RB9 underlying152 J (by kernel_rfl)),0,by rw [HE.out];rfl,by rw [HE.out];exact D9⟩
theorem R3 (h:Zg w p s) (h1:s.waits=true):Calls N 108 #[E (I ⟨p.mb,0,O⟩)] w λ e w'=>∃ v,e=R9 (s.step v).2.val/\Zl w p (s.step v).1 w':=by
 have D0:Zl ((w.alloc (Rt p)).alloc Ye) p s ((w.alloc (Rt p)).alloc Ye):=.same ((h.alloc _).alloc _);have hlt:=B9 h.hd;have HH:=Zh_ h;have hmf:∀ (fn:Fn) (first cap:Array Value) (w:W),(Instr.makeFunc fn first cap).run N w=.ok (.func fn first cap) w:=λ _ _ _ _=>J
 have r27:=(h.cell 27 (u:=.bool s.waits) J).1;have r28:=(h.cell 28 (u:=U Y s.cell) J).1;rw [h1] at r27;have HE:=Zh_ (show ∀ v,s.step v=(s,⟨1,s.cell,0,false⟩) from λ v=>by unfold Zk.step;simp [h1]);clear h h1
 go_enter_defers func108,ntmps108
 go_wp2;exact ⟨(⟨1,s.cell,0,false⟩:Xh).val,(results_cell_row (P:=N) (fn:=Tryz.f108) (p:=2) (ty:=152) J _ _ (w.heap.size+1) 152 _ (0,0) _ J (heap_alloc2_new _ _ _) underlying152 J (by kernel_rfl)),0,by rw [HE.out],by rw [HE.out];exact ((Zl.same HH.out).alloc _).alloc _⟩
theorem R4 (h:Zg w p s) (h1:s.waits=false) (h2:s.qq≠0):Calls N 108 #[E (I ⟨p.mb,0,O⟩)] w λ e w'=>∃ v,e=R9 (s.step v).2.val/\Zl w p (s.step v).1 w':=by
 have D0:Zl ((w.alloc (Rt p)).alloc Ye) p s ((w.alloc (Rt p)).alloc Ye):=.same ((h.alloc _).alloc _);have hlt:=B9 h.hd;have HH:=Zh_ h;have hmf:∀ (fn:Fn) (first cap:Array Value) (w:W),(Instr.makeFunc fn first cap).run N w=.ok (.func fn first cap) w:=λ _ _ _ _=>J
 have r27:=(h.cell 27 (u:=.bool s.waits) J).1;have r29:=(h.cell 29 (u:=U Y s.qq) J).1;rw [h1] at r27;have h2':(s.qq !=0)=true:=by simp [h2]
 have HE:=Zh_ (show ∀ v,s.step v=(s,Z1 4) from λ v=>by unfold Zk.step;simp [h1,h2]);clear h h1 h2
 go_enter_defers func108,ntmps108
 go_wp2;exact ⟨(Z1 4).val,(results_cell_row (P:=N) (fn:=Tryz.f108) (p:=2) (ty:=152) J _ _ (w.heap.size+1) 152 _ (0,0) _ J (heap_alloc2_new _ _ _) underlying152 J (by kernel_rfl)),0,by rw [HE.out],by rw [HE.out];exact ((Zl.same HH.out).alloc _).alloc _⟩
theorem Ea (h:Zg w p s) (h1:s.waits=false) (h2:s.qq=0) (hb:s.bad=false) (hu:s.used=s.c2):Calls N 108 #[E (I ⟨p.mb,0,O⟩)] w λ e w'=>∃ v,e=R9 (s.step v).2.val/\Zl w p (s.step v).1 w':=by
 have D0:Zl ((w.alloc (Rt p)).alloc Ye) p s ((w.alloc (Rt p)).alloc Ye):=.same ((h.alloc _).alloc _);have hlt:=B9 h.hd;have HH:=Zh_ h;have hmf:∀ (fn:Fn) (first cap:Array Value) (w:W),(Instr.makeFunc fn first cap).run N w=.ok (.func fn first cap) w:=λ _ _ _ _=>J
 have r27:=(h.cell 27 (u:=.bool s.waits) J).1;have r29:=(h.cell 29 (u:=U Y s.qq) J).1;have r6:=(h.cell 6 (u:=.bool s.bad) J).1;have r26:=(h.cell 26 (u:=U Y s.used) J).1;have r2:=(h.cell 2 (u:=U Y s.c2) J).1;have r25:=(h.cell 25 (u:=U Y s.place) J).1;rw [h1] at r27;rw [h2] at r29;rw [hb] at r6;have hu':(s.used==s.c2)=true:=by simp [hu]
 have HE:=Zh_ (show ∀ v,s.step v=s.fault 80 from λ v=>by unfold Zk.step;simp [h1,h2,hb,hu]);clear h h1 h2 hb hu
 go_enter_defers func108,ntmps108
 go_wp2_with fail;go_quiet (fail);go_wp2_with fail;refine (Ja 80 (by decide) _).mono ?_;rintro e w1 ⟨rfl,hw1⟩;have hw1':=hw1.symm;subst hw1';go_wp2;refine leaves_cons (f:=139) (args:=#[E (I ⟨w.heap.size,0,O⟩),E (I ⟨(w.heap.size+1),0,O⟩)]) (by simp) (by simp [go_sem]) ?_;refine (Hg HH.out (D0.xm nq) 80).mono ?_;rintro e u' w9 ⟨rfl,rfl,RB9,D9⟩;simp only [Leaves,settle,List.dropWhile];exact ⟨(Z1 4).val,(results_cell_row (P:=N) (fn:=Tryz.f108) (p:=2) (ty:=152) J _ _ (w.heap.size+1) 152 _ (0,0) _ J RB9 underlying152 J (by kernel_rfl)),0,by rw [HE.out];rfl,by rw [HE.out];exact D9⟩
theorem step_end (h:Zg w p s) (h1:s.waits=false) (h2:s.qq=0) (hb:s.bad=false) (hu:s.used≠s.c2) (hp:s.place=s.code.length):Calls N 108 #[E (I ⟨p.mb,0,O⟩)] w λ e w'=>∃ v,e=R9 (s.step v).2.val/\Zl w p (s.step v).1 w':=by
 have D0:Zl ((w.alloc (Rt p)).alloc Ye) p s ((w.alloc (Rt p)).alloc Ye):=.same ((h.alloc _).alloc _);have hlt:=B9 h.hd;have HH:=Zh_ h;have hmf:∀ (fn:Fn) (first cap:Array Value) (w:W),(Instr.makeFunc fn first cap).run N w=.ok (.func fn first cap) w:=λ _ _ _ _=>J
 have r27:=(h.cell 27 (u:=.bool s.waits) J).1;have r29:=(h.cell 29 (u:=U Y s.qq) J).1;have r6:=(h.cell 6 (u:=.bool s.bad) J).1;have r26:=(h.cell 26 (u:=U Y s.used) J).1;have r2:=(h.cell 2 (u:=U Y s.c2) J).1;have r25:=(h.cell 25 (u:=U Y s.place) J).1;rw [h1] at r27;rw [h2] at r29;rw [hb] at r6;obtain ⟨av,cv,hv⟩:=Zo h.code;have r5:w.cell? ⟨p.mb,5,O⟩=I (L av s.code.length cv):=by rw [show L av s.code.length cv=p.vc from hv.symm];exact (h.cell 5 (u:=p.vc) J).1
 have hu':(s.used==s.c2)=false:=by simp [hu]
 have hp':(s.place==(s.code.length:Int))=true:=by simp [hp]
 have HE:=Zh_ (show ∀ v,s.step v=s.fault 50 from λ v=>by unfold Zk.step;simp [h1,h2,hb,hu,hp]);clear h h1 h2 hb hu hp hv
 go_enter_defers func108,ntmps108
 go_wp2_with fail;go_quiet (fail);go_wp2_with fail;generalize hm1:nq=n1;go_quiet (fail);go_wp2_with fail;refine (Ja 50 (by decide) _).mono ?_;rintro e w1 ⟨rfl,hw1⟩;have hw1':=hw1.symm;subst hw1';go_wp2;refine leaves_cons (f:=139) (args:=#[E (I ⟨w.heap.size,0,O⟩),E (I ⟨(w.heap.size+1),0,O⟩)]) (by simp) (by simp [go_sem]) ?_;refine (Hg HH.out (D0.xm (n1+nq)) 50).mono ?_;rintro e u' w9 ⟨rfl,rfl,RB9,D9⟩;simp only [Leaves,settle,List.dropWhile];exact ⟨(Z1 4).val,(results_cell_row (P:=N) (fn:=Tryz.f108) (p:=2) (ty:=152) J _ _ (w.heap.size+1) 152 _ (0,0) _ J RB9 underlying152 J (by kernel_rfl)),0,by rw [HE.out];rfl,by rw [HE.out];exact D9⟩
end
section
attribute [local go_sem] Zi
variable {w w' w0:W} {p p':MP} {s s':Zk}
theorem step_go (h:Zg w p s) (h1:s.waits=false) (h2:s.qq=0) (hb:s.bad=false) (hu:s.used≠s.c2) (hp:s.place≠s.code.length) (hp0:0<=s.place) (hp1:s.place<=s.code.length) (hub:0<=s.used/\s.used<=2048) (hcl:s.code.length<=4096) {qY:Int} (hmay:∀ i∈s.code,i.may qY=true) (o:Ym s):Calls N 108 #[E (I ⟨p.mb,0,O⟩)] w λ e w'=>∃ v,e=R9 (s.step v).2.val/\Zl w p (s.step v).1 w':=by
 have D0:Zl ((w.alloc (Rt p)).alloc Ye) p s ((w.alloc (Rt p)).alloc Ye):=.same ((h.alloc _).alloc _);have hlt:=B9 h.hd;have HH:=Zh_ h;have hmf:∀ (fn:Fn) (first cap:Array Value) (w:W),(Instr.makeFunc fn first cap).run N w=.ok (.func fn first cap) w:=λ _ _ _ _=>J
 have r27:=(h.cell 27 (u:=.bool s.waits) J).1;have r29:=(h.cell 29 (u:=U Y s.qq) J).1;have r6:=(h.cell 6 (u:=.bool s.bad) J).1;have r26:=(h.cell 26 (u:=U Y s.used) J).1;have r2:=(h.cell 2 (u:=U Y s.c2) J).1;have r25:=(h.cell 25 (u:=U Y s.place) J).1;rw [h1] at r27;rw [h2] at r29;rw [hb] at r6;obtain ⟨av,cv,hv⟩:=Zo h.code;have r5:w.cell? ⟨p.mb,5,O⟩=I (L av s.code.length cv):=by rw [show L av s.code.length cv=p.vc from hv.symm];exact (h.cell 5 (u:=p.vc) J).1
 have hu':(s.used==s.c2)=false:=by simp [hu]
 have hp':(s.place==(s.code.length:Int))=false:=by simp [hp]
 obtain ⟨g,cap',hg,-⟩:=Ya h.code (by omega);rw [hv] at hg;simp only [Value.slice.injEq,true_and] at hg;obtain ⟨rfl,rfl⟩:=hg;obtain ⟨k,hk⟩:∃ k:Nat,s.place=k:=⟨s.place.toNat,by omega⟩;have hkl:k < s.code.length:=by omega
 obtain ⟨i,hi⟩:∃ i,s.code[k]? =I i:=⟨_,List.getElem?_eq_getElem hkl⟩;obtain ⟨y0,y1,y2⟩:=L9 hi;have hrow:=h.code;rw [hv] at hrow;have q0:w.cell? ⟨g,k * 3,O⟩=I (U Y i.op):=(hrow.cellAt _ (by omega)).trans y0;have q1:w.cell? ⟨g,k * 3+1,O⟩=I (U Y i.n):=(hrow.cellAt _ (by omega)).trans y1;have q2:w.cell? ⟨g,k * 3+2,O⟩=I (Z V i.x):=(hrow.cellAt _ (by omega)).trans y2;have f25:=(h.cell 25 (u:=U Y s.place) J).2;have f26:=(h.cell 26 (u:=U Y s.used) J).2;have hgl:g < w.heap.size:=Yr hrow J;rw [hk] at r25 hp';have b0:(0:Int)<=(k:Int):=by omega
 have b1:(k:Int) < (s.code.length:Int):=by omega
 have w1:IntKind.i64.wrap (s.used+1)=s.used+1:=IntWalk.i64_in _ (by omega);have w2:IntKind.i64.wrap ((k:Int)+1)=(k:Int)+1:=IntWalk.i64_in _ (by omega);have HMAY:=Zh_ hmay;have HO:=Zh_ o;clear hmay o;have HE:=Zh_ (show ∀ v,s.step v=s.go v from λ v=>by unfold Zk.step;simp [h1,h2,hb,hu,hp]);have HI:=Zh_ hi;have HK:=Zh_ hk;have HV:=Zh_ hv;have HY:=Zh_ (And.intro y0 (And.intro y1 y2));clear h h1 h2 hb hu hp hv hrow y0 y1 y2 hi hk
 go_enter_defers func108,ntmps108
 go_wp2_with fail;go_quiet (fail);go_wp2_with fail;generalize hm1:nq=n1;go_quiet (fail);go_wp2_with fail;have hA:Zg ((((w.alloc (X #[E (I ⟨p.mb,0,O⟩)] 155)).alloc (X #[U Y 0,U Y 0,Z V 0,.bool false] 152)).drewN n1).drewN nq) p s:=(((HH.out.alloc _).alloc _).drewN n1).drewN nq;have D1:Zl ((w.alloc (Rt p)).alloc Ye) p s ((((w.alloc (X #[E (I ⟨p.mb,0,O⟩)] 155)).alloc (X #[U Y 0,U Y 0,Z V 0,.bool false] 152)).drewN n1).drewN nq):=(D0.xm n1).xm nq;have bx:((((w.alloc (X #[E (I ⟨p.mb,0,O⟩)] 155)).alloc (X #[U Y 0,U Y 0,Z V 0,.bool false] 152)).drewN n1).drewN nq).cell? ⟨w.heap.size,0,O⟩=I (E (I ⟨p.mb,0,O⟩)):=Za (Qz HH.out D1) J;have a5:((((w.alloc (X #[E (I ⟨p.mb,0,O⟩)] 155)).alloc (X #[U Y 0,U Y 0,Z V 0,.bool false] 152)).drewN n1).drewN nq).cell? ⟨p.mb,5,O⟩=I (L (I ⟨g,0,O⟩) s.code.length cv):=by rw [<-HV.out];exact (hA.cell 5 (u:=p.vc) J).1
 have a25:((((w.alloc (X #[E (I ⟨p.mb,0,O⟩)] 155)).alloc (X #[U Y 0,U Y 0,Z V 0,.bool false] 152)).drewN n1).drewN nq).cell? ⟨p.mb,25,O⟩=I (U Y k):=by rw [<-HK.out];exact (hA.cell 25 (u:=U Y s.place) J).1
 have hrowA:=hA.code;rw [HV.out] at hrowA;have a26:=(hA.cell 26 (u:=U Y s.used) J).1;have e25:=(hA.cell 25 (u:=U Y s.place) J).2;have e26:=(hA.cell 26 (u:=U Y s.used) J).2;have c0:((((w.alloc (X #[E (I ⟨p.mb,0,O⟩)] 155)).alloc (X #[U Y 0,U Y 0,Z V 0,.bool false] 152)).drewN n1).drewN nq).cell? ⟨g,k * 3,O⟩=I (U Y i.op):=(hrowA.cellAt _ (by omega)).trans HY.out.1;have c1:((((w.alloc (X #[E (I ⟨p.mb,0,O⟩)] 155)).alloc (X #[U Y 0,U Y 0,Z V 0,.bool false] 152)).drewN n1).drewN nq).cell? ⟨g,k * 3+1,O⟩=I (U Y i.n):=(hrowA.cellAt _ (by omega)).trans HY.out.2.1;have c2:((((w.alloc (X #[E (I ⟨p.mb,0,O⟩)] 155)).alloc (X #[U Y 0,U Y 0,Z V 0,.bool false] 152)).drewN n1).drewN nq).cell? ⟨g,k * 3+2,O⟩=I (Z V i.x):=(hrowA.cellAt _ (by omega)).trans HY.out.2.2;have hsz:w.heap.size+2=((((w.alloc (X #[E (I ⟨p.mb,0,O⟩)] 155)).alloc (X #[U Y 0,U Y 0,Z V 0,.bool false] 152)).drewN n1).drewN nq).heap.size:=by simp
 clear r5 r25 r26 q0 q1 q2 f25 f26 r27 r29 r6 r2 D0 hrowA;generalize (((w.alloc (X #[E (I ⟨p.mb,0,O⟩)] 155)).alloc (X #[U Y 0,U Y 0,Z V 0,.bool false] 152)).drewN n1).drewN nq=wb at *
 have l1:p.mb < wb.heap.size:=by omega
 have l2:g < wb.heap.size:=by omega
 have l3:w.heap.size < wb.heap.size:=by omega
 have HZ:=Zh_ hsz;clear hsz;go_region;go_wp2_with fail;have D2:=(((D1.xz 26 (U Y (s.used+1)) {s with used:=s.used+1} (λ _=>J) J J J J J J).xz 25 (U Y ((k:Int)+1)) s.next (λ q=>by rw [<-HK.out];rfl) J J J J J J).alloc (X #[U Y i.op,U Y i.n,Z V i.x] 106)).drew;have B2:(((wb.setCell ⟨p.mb,26,O⟩ (U Y (s.used+1))).setCell ⟨p.mb,25,O⟩ (U Y ((k:Int)+1))).alloc (X #[U Y i.op,U Y i.n,Z V i.x] 106)).drew.heap[wb.heap.size]? =I (X #[U Y i.op,U Y i.n,Z V i.x] 106 (0,0)):=by
  have:=Zc ((wb.setCell ⟨p.mb,26,O⟩ (U Y (s.used+1))).setCell ⟨p.mb,25,O⟩ (U Y ((k:Int)+1))) (X #[U Y i.op,U Y i.n,Z V i.x] 106);rw [show ((wb.setCell ⟨p.mb,26,O⟩ (U Y (s.used+1))).setCell ⟨p.mb,25,O⟩ (U Y ((k:Int)+1))).heap.size=wb.heap.size by simp] at this;exact this
 have hmi:=HMAY.out i (List.mem_of_getElem? HI.out);have hat:s.at=i:=by unfold Zk.at;rw [HK.out];simp [List.getD,HI.out]
 generalize (((wb.setCell ⟨p.mb,26,O⟩ (U Y (s.used+1))).setCell ⟨p.mb,25,O⟩ (U Y ((k:Int)+1))).alloc (X #[U Y i.op,U Y i.n,Z V i.x] 106)).drew=wc at *
 obtain ⟨ri1,ri2⟩:=Dk hmi;have h5:i.op=5->0<=i.n/\i.n<=63:=λ h=>by
  have:=may_n (k:=i.op) (n:=i.n) (x:=i.x) hmi;rw [h] at this;exact this
 have hcx:wc.cell? ⟨w.heap.size,0,O⟩=I (E (I ⟨p.mb,0,O⟩)):=Za (Qz HH.out D2) J;have hrd:=λ q (hq:Zg wc q s.next)=>ready_c hq i.op i.n i.x ri1 ri2 h5 HO.out.qd HO.out.calls;have HD:=Zh_ D2;have HB2:=Zh_ B2;have HAT:=Zh_ hat;obtain ⟨q,hq,F⟩:=D2;have hrd2:=hrd q hq;rw [F.mb] at hrd2;clear hrd D1 hA bx a5 a25 a26 e25 e26 c0 c1 c2 l1 l2 l3 B2 hat hq F hcx h5;refine hrd2.mono ?_;rintro e w3 ⟨he,m3⟩;have D3:=HD.out.xi m3;cases hr:s.next.qt ⟨i.op,i.n,i.x⟩
 ·rw [hr] at he;simp only [Bool.false_eq_true,if_false] at he;subst he;have HE2:=Zh_ (show s.step 0=s.next.fault 82 from by rw [HE.out,Zk.go,HAT.out];exact P9 hr);go_wp2;refine leaves_cons (f:=139) (args:=#[E (I ⟨w.heap.size,0,O⟩),E (I ⟨(w.heap.size+1),0,O⟩)]) (by simp) (by simp [go_sem]) ?_;refine (Hg HH.out D3 82).mono ?_;rintro e u' w9 ⟨rfl,rfl,RB9,D9⟩;simp only [Leaves,settle,List.dropWhile];exact ⟨(Z1 4).val,(results_cell_row (P:=N) (fn:=Tryz.f108) (p:=2) (ty:=152) J _ _ (w.heap.size+1) 152 _ (0,0) _ J RB9 underlying152 J (by kernel_rfl)),0,by rw [HE2.out];rfl,by rw [HE2.out];exact D9⟩
 ·rw [hr] at he;simp only [if_true] at he;subst he;have B3:=m3.at HB2.out (by simp);have i0:=Za (i:=0) B3 J;have i1:=Za (i:=1) B3 J;have i2:=Za (i:=2) B3 J;have hcx:w3.cell? ⟨w.heap.size,0,O⟩=I (E (I ⟨p.mb,0,O⟩)):=Za (Qz HH.out D3) J;obtain ⟨q,hq,F⟩:=D3;have hdo:=do_c hq i hmi hr HO.out.qd HO.out.calls (by have:=HO.out.out;have:=HO.out.xk;have:=HO.out.fuel;show s.out.length<=4096;omega) (by have h1:=HO.out.reads;have h2:=HO.out.xk;have h3:=HO.out.fuel;show s.reads.length<=4096;split at h1 <;> omega) HO.out.c0;rw [F.mb] at hdo;have HF:=Zh_ F;clear B3 hq F m3 hrd2;go_wp2_with fail;refine hdo.mono ?_;rintro e w4 ⟨v,hx⟩;cases hdE:s.next.xt v i with
  |error c=>
   rw [hdE] at hx;obtain ⟨he,r,k1,k2⟩:=hx;have D4:Zl ((w.alloc (Rt p)).alloc Ye) p s.next w4:=⟨r,k1,HF.out.trans k2⟩;subst he;have HE2:=Zh_ (show s.step v=s.next.fault c from by rw [HE.out,Zk.go,HAT.out,Q9 (by rw [show s.next.qt i=true from hr];simp),hdE]);clear k1 k2 hdE i0 i1 i2 hcx hdo;go_wp2;refine leaves_cons (f:=139) (args:=#[E (I ⟨w.heap.size,0,O⟩),E (I ⟨(w.heap.size+1),0,O⟩)]) (by simp) (by simp [go_sem]) ?_;refine (Hg HH.out D4 c).mono ?_;rintro e u' w9 ⟨rfl,rfl,RB9,D9⟩;simp only [Leaves,settle,List.dropWhile];exact ⟨(Z1 4).val,(results_cell_row (P:=N) (fn:=Tryz.f108) (p:=2) (ty:=152) J _ _ (w.heap.size+1) 152 _ (0,0) _ J RB9 underlying152 J (by kernel_rfl)),v,by rw [HE2.out];rfl,by rw [HE2.out];exact D9⟩
  |ok r=>
   obtain ⟨s',a⟩:=r;rw [hdE] at hx;obtain ⟨he,r,k1,k2⟩:=hx;have D4:Zl ((w.alloc (Rt p)).alloc Ye) p s' w4:=⟨r,k1,HF.out.trans k2⟩;have he2:e=R9 (A9 #[U Y a.kind,U Y a.cell,Z V a.x,.bool a.first]):=he
   subst he2;have HE2:=Zh_ (show s.step v=(s',a) from by rw [HE.out,Zk.go,HAT.out,Q9 (by rw [show s.next.qt i=true from hr];simp),hdE]);have RB:=Y8 HH.out D4;have HRB:=Zh_ RB;have g0:=Za (i:=0) RB J;have z0:=Zb (i:=0) RB;have g1:=Za (i:=1) RB J;have z1:=Zb (i:=1) RB;have g2:=Za (i:=2) RB J;have z2:=Zb (i:=2) RB;have g3:=Za (i:=3) RB J;have z3:=Zb (i:=3) RB;have HD4:=Zh_ D4;clear k1 k2 hdE i0 i1 i2 hcx hdo he RB D4;go_wp2;refine leaves_cons (f:=139) (args:=#[E (I ⟨w.heap.size,0,O⟩),E (I ⟨(w.heap.size+1),0,O⟩)]) (by simp) (by simp [go_sem]) ?_;refine (catch_i _ _ _).mono ?_;rintro e u' w9 ⟨rfl,rfl,hw9⟩;subst hw9;simp only [Leaves,settle];exact ⟨a.val,(results_cell_row (P:=N) (fn:=Tryz.f108) (p:=2) (ty:=152) J _ _ (w.heap.size+1) 152 _ (0,0) _ J (Xa HRB.out a) underlying152 J (by kernel_rfl)),v,by rw [HE2.out],by rw [HE2.out];exact Y9 HH.out HD4.out a⟩
end
section
attribute [local go_sem] Zi
variable {w w' w0:W} {p p':MP} {s s':Zk}
theorem Ns {tag:Int} {code:List Xg} (h:Xl tag code=true):code.length<=1024/\∀ i∈code,i.may code.length=true:=by
 unfold Xl at h;simp only [Bool.and_eq_true,decide_eq_true_eq,List.all_eq_true] at h;exact ⟨h.1.2,h.2⟩
theorem step_c (h:Zg w p s) (o:Ym s):Calls N 108 #[E (I ⟨p.mb,0,O⟩)] w λ e w'=>∃ v,e=R9 (s.step v).2.val/\Zl w p (s.step v).1 w':=by
 cases h1:s.waits
 ·by_cases h2:s.qq=0
  ·cases hb:s.bad
   ·by_cases hu:s.used=s.c2
    ·exact Ea h h1 h2 hb hu
    ·by_cases hp:s.place=s.code.length
     ·exact step_end h h1 h2 hb hu hp
     ·have hok:Xl s.tag s.code=true:=by have:=o.bad;rw [hb] at this;simpa using this.symm
      obtain ⟨c1,c2⟩:=Ns hok;exact step_go h h1 h2 hb hu hp o.xg o.xf ⟨o.js,by have:=o.xk;have:=o.fuel;omega⟩ (by omega) c2 o
   ·exact step_bad h h1 h2 hb
  ·exact R4 h h1 h2
 ·exact R3 h h1
end
section
attribute [local go_sem] Zi
variable {s s':Zk}
theorem Ym.ends (o:Ym s) (a b c:Int):Ym (s.ends a b c):=⟨o.js,o.xk,o.fuel,o.xg,o.xf,o.qd,o.calls,o.call,o.out,o.reads,o.room,o.bad,o.c0,o.order⟩
theorem Ym.xl (o:Ym s) (hw:s.waits=true) (x:Nat):Ym (s.xl x):=by
 have hr:=o.reads;rw [hw] at hr;simp only [if_true] at hr;refine ⟨o.js,o.xk,o.fuel,o.xg,o.xf,?_,o.calls,o.call,o.out,?_,?_,o.bad,o.c0,o.order⟩
 ·have:=o.room hw;show (s.qd++[Zq x]).length<=64;simp;omega
 ·show ((s.reads++[(s.cell,Zq x)]).length:Int)+(if false=true then 1 else 0)<=s.used;simp;omega
 ·intro h;exact absurd h (by simp [Zk.xl])
structure Xw (s:Zk):Prop where
 ok:Ym s
 wait:s.waits=false
 out:(s.out.length:Int)+1<=s.used
 reads:(s.reads.length:Int)+1<=s.used
theorem Xw.next (o:Ym s) (hw:s.waits=false) (hu:s.used≠s.c2) (hp:s.place≠s.code.length):Xw s.next:=by
 have hr:=o.reads;rw [hw] at hr;simp only [Bool.false_eq_true,if_false] at hr;have e1:=o.xk;have e2:=o.js;have e3:=o.xg;have e4:=o.xf;have e5:=o.out;refine ⟨⟨?_,?_,o.fuel,?_,?_,o.qd,o.calls,o.call,?_,?_,o.room,o.bad,o.c0,o.order⟩,hw,?_,?_⟩
 ·show 0<=s.used+1;omega
 ·show s.used+1<=s.c2;omega
 ·show 0<=s.place+1;omega
 ·show s.place+1<=s.code.length;omega
 ·show (s.out.length:Int)<=s.used+1;omega
 ·show (s.reads.length:Int)+(if s.waits=true then 1 else 0)<=s.used+1;rw [hw];simp;omega
 ·show (s.out.length:Int)+1<=s.used+1;omega
 ·show (s.reads.length:Int)+1<=s.used+1;omega
theorem Xw.qd (o:Xw s) (l:List Nat) (h:l.length<=64):Xw {s with qd:=l}:=
 ⟨⟨o.ok.js,o.ok.xk,o.ok.fuel,o.ok.xg,o.ok.xf,h,o.ok.calls,o.ok.call,o.ok.out,o.ok.reads,λ hw=>absurd hw (by simp [o.wait]),o.ok.bad,o.ok.c0,o.ok.order⟩,o.wait,o.out,o.reads⟩
theorem Xw.place (o:Xw s) (n:Int) (h0:0<=n) (h1:n<=s.code.length):Xw {s with place:=n}:=
 ⟨⟨o.ok.js,o.ok.xk,o.ok.fuel,h0,h1,o.ok.qd,o.ok.calls,o.ok.call,o.ok.out,o.ok.reads,o.ok.room,o.ok.bad,o.ok.c0,o.ok.order⟩,o.wait,o.out,o.reads⟩
theorem Xw.calls (o:Xw s) (l:List Int) (h:l.length<=16) (hc:∀ c∈l,0<=c/\c<=s.code.length):Xw {s with calls:=l}:=
 ⟨⟨o.ok.js,o.ok.xk,o.ok.fuel,o.ok.xg,o.ok.xf,o.ok.qd,h,hc,o.ok.out,o.ok.reads,o.ok.room,o.ok.bad,o.ok.c0,o.ok.order⟩,o.wait,o.out,o.reads⟩
theorem Xw.locals (o:Xw s) (f:Nat->Nat):Xw {s with locals:=f}:=
 ⟨⟨o.ok.js,o.ok.xk,o.ok.fuel,o.ok.xg,o.ok.xf,o.ok.qd,o.ok.calls,o.ok.call,o.ok.out,o.ok.reads,o.ok.room,o.ok.bad,o.ok.c0,o.ok.order⟩,o.wait,o.out,o.reads⟩
theorem Xw.set8 (o:Xw s) (l:List Nat) (h:l.length<=64) (f:Nat->Nat):Xw {s with qd:=l,locals:=f}:=(o.qd l h).locals f
theorem Xw.emit (o:Xw s) (l:List Nat) (h:l.length<=64) (x:Nat):Ym {s with qd:=l,out:=s.out++[x]}:=
 ⟨o.ok.js,o.ok.xk,o.ok.fuel,o.ok.xg,o.ok.xf,h,o.ok.calls,o.ok.call,by have:=o.out;simp;omega,o.ok.reads,λ hw=>absurd hw (by simp [o.wait]),o.ok.bad,o.ok.c0,o.ok.order⟩
theorem Ej (o:Xw s) (k n:Int) (x v:Nat) {qY:Int} (hm:(⟨k,n,x⟩:Xg).may qY=true) (hr:s.qt ⟨k,n,x⟩=true):Ym (s.reckon v ⟨k,n,x⟩):=by
 obtain ⟨r1,r2⟩:=Dk hm;obtain ⟨q1,q2,q3⟩:=Tx hr;simp only at r1 r2;have h64:=o.ok.qd;rcases (show k=1\/k=2\/k=3\/k=4\/k=5\/k=6\/k=7\/k=8\/k=9\/k=10\/k=11\/k=12\/k=13\/k=14\/k=15\/k=16\/k=17\/k=18\/k=19\/k=20 by omega) with rfl|rfl|rfl|rfl|rfl|rfl|rfl|rfl|rfl|rfl|rfl|rfl|rfl|rfl|rfl|rfl|rfl|rfl|rfl|rfl
 all_goals simp only [Xe,Qr] at q1 q2
 ·exact (o.qd (s.qd++[Zq x]) (by simp;omega)).ok
 ·exact (o.qd s.qd.dropLast (by simp;omega)).ok
 ·exact (o.qd (s.qd++[s.top]) (by simp;omega)).ok
 ·exact (o.qd ((s.qd.dropLast.dropLast++[s.top])++[s.pop.top]) (by simp;omega)).ok
 ·exact (o.qd (s.qd++[s.pick n.toNat]) (by simp;omega)).ok
 ·exact (o.qd (s.qd++[s.args n.toNat]) (by simp;omega)).ok
 ·exact (o.qd (s.qd++[s.locals n.toNat]) (by simp;omega)).ok
 ·exact (o.set8 s.qd.dropLast (by simp;omega) (Vu s.locals n.toNat s.top)).ok
 ·exact (o.qd (s.qd.dropLast++[Zq v]) (by simp;omega)).ok
 ·exact (o.qd (s.qd.dropLast.dropLast++[J9 n (Zq s.pop.top) (Zq s.top) v]) (by simp;omega)).ok
 all_goals first
  |exact o.ok
  |exact o.emit s.qd.dropLast (by simp;omega) s.top
theorem read_ok (o:Xw s) (h:0 < s.qd.length) {r:Zk×Xh} (he:s.zx=.ok r):Ym r.1:=by
 unfold Zk.zx at he;have h64:=o.ok.qd;have hr:=o.reads;split at he
 ·simp at he
 ·split at he
  ·simp only [Except.ok.injEq] at he;subst he;exact ⟨o.ok.js,o.ok.xk,o.ok.fuel,o.ok.xg,o.ok.xf,by show (s.qd.dropLast++[_]).length<=64;simp;omega,o.ok.calls,o.ok.call,o.ok.out,by show ((s.reads++[_]).length:Int)+(if s.waits=true then 1 else 0)<=s.used;rw [o.wait];simp;omega,λ hw=>absurd hw (by show ¬ s.waits=true;simp [o.wait]),o.ok.bad,o.ok.c0,o.ok.order⟩
  ·simp only [Except.ok.injEq] at he;subst he;exact ⟨o.ok.js,o.ok.xk,o.ok.fuel,o.ok.xg,o.ok.xf,by show s.qd.dropLast.length<=64;simp;omega,o.ok.calls,o.ok.call,o.ok.out,by show (s.reads.length:Int)+(if true=true then 1 else 0)<=s.used;simp;omega,λ _=>by show s.qd.dropLast.length < 64;simp;omega,o.ok.bad,o.ok.c0,o.ok.order⟩
theorem write_ok (o:Xw s) {r:Zk×Xh} (he:s.zh=.ok r):Ym r.1:=by
 unfold Zk.zh at he;have h64:=o.ok.qd;split at he
 ·simp at he
 ·split at he
  ·simp at he
  ·rename_i c hc;have hb:=T9 hc;have h0:=o.ok.c0;split at he
   ·simp at he
   ·simp only [Except.ok.injEq] at he;subst he;refine ⟨o.ok.js,o.ok.xk,o.ok.fuel,o.ok.xg,o.ok.xf,by show s.qd.dropLast.dropLast.length<=64;simp;omega,o.ok.calls,o.ok.call,o.ok.out,o.ok.reads,λ hw=>absurd hw (by show ¬ s.waits=true;simp [o.wait]),o.ok.bad,o.ok.c0,?_⟩;intro k hk;have hk':k∈(if s.buf.known c=true then s.buf.order else s.buf.order++[c]):=hk;split at hk'
    ·exact o.ok.order k hk'
    ·simp at hk';rcases hk' with hk'|rfl
     ·exact o.ok.order k hk'
     ·omega
theorem do_ok (o:Xw s) (i:Xg) (hm:i.may s.code.length=true) (hr:s.qt i=true) (v:Nat) {r:Zk×Xh} (he:s.xt v i=.ok r):Ym r.1:=by
 obtain ⟨k,n,x⟩:=i;obtain ⟨r1,r2⟩:=Dk hm;obtain ⟨q1,q2,q3⟩:=Tx hr;have hn:=may_n hm;have h64:=o.ok.qd;simp only at r1 r2
 by_cases hdef:1<=k/\k<=10\/k=18
 ·have e:s.xt v ⟨k,n,x⟩=.ok (s.reckon v ⟨k,n,x⟩,Z1 0):=by
   rcases (show k=1\/k=2\/k=3\/k=4\/k=5\/k=6\/k=7\/k=8\/k=9\/k=10\/k=18 by omega) with rfl|rfl|rfl|rfl|rfl|rfl|rfl|rfl|rfl|rfl|rfl <;> rfl
  rw [e] at he;simp only [Except.ok.injEq] at he;subst he;exact Ej o k n x v hm hr
 ·rcases (show k=11\/k=12\/k=13\/k=14\/k=15\/k=16\/k=17\/k=19\/k=20 by omega) with rfl|rfl|rfl|rfl|rfl|rfl|rfl|rfl|rfl
  ·have e:s.xt v ⟨11,n,x⟩=.ok ({s with place:=n},Z1 0):=J;rw [e] at he;simp only [Except.ok.injEq] at he;subst he;have hn':0<=n/\n < s.code.length:=hn;exact (o.place n hn'.1 (by omega)).ok
  ·have e:s.xt v ⟨12,n,x⟩=.ok ({s.pop with place:=if Ud s.top=true then n else s.place},Z1 0):=by simp [Zk.xt,Zk.pop]
   rw [e] at he;simp only [Except.ok.injEq] at he;subst he;have hn':0<=n/\n < s.code.length:=hn;have e0:=o.ok.xg;have e1:=o.ok.xf;exact ((o.qd s.qd.dropLast (by simp;omega)).place (if Ud s.top=true then n else s.place) (by split <;> omega) (by show (if Ud s.top=true then n else s.place)<=s.code.length;split <;> omega)).ok
  ·have e:s.xt v ⟨13,n,x⟩=.ok ({s.pop with place:=if Ud s.top=false then n else s.place},Z1 0):=by simp [Zk.xt,Zk.pop]
   rw [e] at he;simp only [Except.ok.injEq] at he;subst he;have hn':0<=n/\n < s.code.length:=hn;have e0:=o.ok.xg;have e1:=o.ok.xf;exact ((o.qd s.qd.dropLast (by simp;omega)).place (if Ud s.top=false then n else s.place) (by split <;> omega) (by show (if Ud s.top=false then n else s.place)<=s.code.length;split <;> omega)).ok
  ·have e:s.xt v ⟨14,n,x⟩=.ok ({s with calls:=s.calls++[s.place],place:=n},Z1 0):=J;rw [e] at he;simp only [Except.ok.injEq] at he;subst he;have hn':0<=n/\n < s.code.length:=hn;have hc:=o.ok.calls;have h3:=q3 J;exact ((o.calls (s.calls++[s.place]) (by simp;omega) (λ c hc=>by
    simp at hc;rcases hc with hc|rfl
    ·exact o.ok.call c hc
    ·exact ⟨o.ok.xg,o.ok.xf⟩)).place n hn'.1 (by show n<=s.code.length;omega)).ok
  ·have e:s.xt v ⟨15,n,x⟩=(match s.calls.getLast? with|none=>.ok (s.ends 1 0 0,Z1 4)|some at_=>.ok ({s with calls:=s.calls.dropLast,place:=at_},Z1 0)):=J;rw [e] at he;split at he
   ·simp only [Except.ok.injEq] at he;subst he;exact o.ok.ends 1 0 0
   ·rename_i c hc;simp only [Except.ok.injEq] at he;subst he;have hm:=o.ok.call c (List.mem_of_getLast? hc);have hl:=o.ok.calls;exact ((o.calls s.calls.dropLast (by simp;omega) (λ c hc=>o.ok.call c (List.dropLast_subset _ hc))).place c hm.1 hm.2).ok
  ·have e1:(1:Int)<=s.qd.length:=q1;exact read_ok o (by omega) he
  ·exact write_ok o he
  ·have e:s.xt v ⟨19,n,x⟩=.ok (s.ends 2 n 0,Z1 4):=J;rw [e] at he;simp only [Except.ok.injEq] at he;subst he;exact o.ok.ends 2 n 0
  ·have e:s.xt v ⟨20,n,x⟩=.ok (s.ends 1 0 0,Z1 4):=J;rw [e] at he;simp only [Except.ok.injEq] at he;subst he;exact o.ok.ends 1 0 0
theorem Dc (o:Ym s) (v:Nat):Ym (s.step v).1:=by
 unfold Zk.step;split
 ·exact o
 ·rename_i hw;split
  ·exact o
  ·split
   ·exact o.ends 3 0 50
   ·rename_i hb;split
    ·exact o.ends 3 0 80
    ·rename_i hu;split
     ·exact o.ends 3 0 50
     ·rename_i hp;have on:=Xw.next o (by simpa using hw) hu hp;unfold Zk.go;split
      ·exact on.ok.ends 3 0 82
      ·rename_i hr;have hok:Xl s.tag s.code=true:=by have:=o.bad;simp only [Bool.not_eq_true] at hb;rw [hb] at this;simpa using this.symm
       obtain ⟨c1,c2⟩:=Ns hok;have e0:=o.xg;have e1:=o.xf;have hk:s.place.toNat < s.code.length:=by omega
       have hmem:s.at∈s.code:=by unfold Zk.at;simp [List.getD,hk]
       split
       ·rename_i r he;exact do_ok on s.at (c2 _ hmem) (by simpa using hr) v he
       ·exact on.ok.ends 3 0 _
end
end Go.Proofs.YtkhonmhnchdpkaaGreat

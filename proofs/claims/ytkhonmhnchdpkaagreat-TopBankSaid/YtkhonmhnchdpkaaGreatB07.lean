/- A part of the proof; no condition. -/
import Derived.Test.YtkhonmhnchdpkaaGreatB06
set_option maxRecDepth 100000
set_option maxHeartbeats 40000000
namespace Go.Proofs.YtkhonmhnchdpkaaGreat
open Go.RowKit _root_.Go.Proofs.Tryz
open Go renaming World→W
open Value renaming int→U,pointer→E,float→Z,agg→A9
open IntKind renaming i64→Y,u64→Y9
open FloatKind renaming f64→V
open Obj renaming cells→X
open Option renaming some→I,none→O
open Ending renaming returned→R9
open _root_.Go.Proofs.Tryz renaming prog→N
section
attribute [local go_sem] Zi
structure Yu where
 (p0 p1 p2 p3 p4 p5 c st pa ve:Int)
 va:Nat
 sp:Int
 tn:Bool
def Yu.arr (r:Yu):Array Value:=#[U Y r.p0,U Y r.p1,U Y r.p2,U Y r.p3,U Y r.p4,U Y r.p5,U Y r.c,U Y9 r.st,U Y r.pa,U Y9 r.ve,Z V r.va,U Y r.sp,.bool r.tn]
def Yu.qu (r:Yu):Int:=if r.pa=1 then 1 else if r.pa=3 then 2 else 0
def Yu.err (r:Yu) (s:Zh):Int:=if r.pa=4 then 3 else s.qp r.p4 r.c r.qu
def Yu.mem (r:Yu) (s:Zh):Zh:=if r.pa=4 then s else s.qv r.p4 r.c r.qu
def Yu.qz (r:Yu) (w:Int):Yu:=
 if r.pa=0 then {r with ve:=w,pa:=if r.st < w then 3 else 1,sp:=wrap64 (r.sp+1)}
 else if r.pa=1 then {r with va:=Zq w.toNat,pa:=2,sp:=wrap64 (r.sp+1)}
 else if r.pa=2 then {r with tn:=w !=r.ve,pa:=if w=r.ve then 4 else 3,sp:=wrap64 (r.sp+1)}
 else {r with va:=Zq w.toNat,pa:=4,sp:=wrap64 (r.sp+1)}
def Yu.next (r:Yu) (s:Zh):Yu:=if r.err s=0 then r.qz (s.qm r.p4 r.c r.qu) else r
def Yu.qf (r:Yu) (s:Zh):Bool:=if r.err s=0 then (r.next s).pa==4 else false
variable {a b k:Nat} {s:Zh} {w:W} {p0 p1 p2 p3 p4 p5 c st pa ve sp:Int} {va:Nat} {tn:Bool}
theorem read11 (p0 p1 p2 p3 p4 p5 c st:Int) (w:W):
  Calls N 240 #[A9 #[U Y p0,U Y p1,U Y p2,U Y p3,U Y p4,U Y p5],U Y c,U Y9 st] w λ e w'=>∃ k,e=R9 (E (I ⟨k,0,O⟩))/\w'.heap[k]? =I (.cells (Yu.mk p0 p1 p2 p3 p4 p5 c st 0 0 0 0 false).arr 287 (0,0))/\w.heap.size<=k/\Ze [] w w':=by
 go_enter func240,ntmps240;go_wp2;go_ret;exact ⟨_,J,by have h:=heap_alloc_new (w.alloc (X #[U Y p0,U Y p1,U Y p2,U Y p3,U Y p4,U Y p5] 74)) (.cells (Yu.mk p0 p1 p2 p3 p4 p5 c st 0 0 0 0 false).arr 287);rw [World.size_alloc] at h;exact h,by omega,((Zr_ _ _).alloc _).alloc _⟩
theorem next0 (hk:w.heap[k]? =I (X #[U Y p0,U Y p1,U Y p2,U Y p3,U Y p4,U Y p5,U Y c,U Y9 st,U Y 0,U Y9 ve,Z V va,U Y sp,.bool tn] 287 (0,0))):
  Calls N 243 #[E (I ⟨k,0,O⟩)] w λ e w'=>e=R9 (.tuple #[U Y 0,.func (.func 244) #[E (I ⟨k,0,O⟩)] #[]])/\w'=w:=by
 have r8:=Za (i:=8) hk J;go_enter func243,ntmps243;go_wp2;go_ret2;exact ⟨J,J⟩
theorem next1 (hk:w.heap[k]? =I (X #[U Y p0,U Y p1,U Y p2,U Y p3,U Y p4,U Y p5,U Y c,U Y9 st,U Y 1,U Y9 ve,Z V va,U Y sp,.bool tn] 287 (0,0))):
  Calls N 243 #[E (I ⟨k,0,O⟩)] w λ e w'=>e=R9 (.tuple #[U Y 1,.func (.func 245) #[E (I ⟨k,0,O⟩)] #[]])/\w'=w:=by
 have r8:=Za (i:=8) hk J;go_enter func243,ntmps243;go_wp2;go_ret2;exact ⟨J,J⟩
theorem next2 (hk:w.heap[k]? =I (X #[U Y p0,U Y p1,U Y p2,U Y p3,U Y p4,U Y p5,U Y c,U Y9 st,U Y 2,U Y9 ve,Z V va,U Y sp,.bool tn] 287 (0,0))):
  Calls N 243 #[E (I ⟨k,0,O⟩)] w λ e w'=>e=R9 (.tuple #[U Y 0,.func (.func 246) #[E (I ⟨k,0,O⟩)] #[]])/\w'=w:=by
 have r8:=Za (i:=8) hk J;go_enter func243,ntmps243;go_wp2;go_ret2;exact ⟨J,J⟩
theorem next3 (hk:w.heap[k]? =I (X #[U Y p0,U Y p1,U Y p2,U Y p3,U Y p4,U Y p5,U Y c,U Y9 st,U Y 3,U Y9 ve,Z V va,U Y sp,.bool tn] 287 (0,0))):
  Calls N 243 #[E (I ⟨k,0,O⟩)] w λ e w'=>e=R9 (.tuple #[U Y 2,.func (.func 247) #[E (I ⟨k,0,O⟩)] #[]])/\w'=w:=by
 have r8:=Za (i:=8) hk J;go_enter func243,ntmps243;go_wp2;go_ret2;exact ⟨J,J⟩
theorem begin_gt (hk:w.heap[k]? =I (X #[U Y p0,U Y p1,U Y p2,U Y p3,U Y p4,U Y p5,U Y c,U Y9 st,U Y 0,U Y9 ve,Z V va,U Y sp,.bool tn] 287 (0,0))) (v:Int) (hv:st < v):
  Calls N 244 #[E (I ⟨k,0,O⟩),U Y9 v] w λ e w'=>e=R9 (.tuple #[])/\w'.heap[k]? =I (X #[U Y p0,U Y p1,U Y p2,U Y p3,U Y p4,U Y p5,U Y c,U Y9 st,U Y 3,U Y9 v,Z V va,U Y sp,.bool tn] 287 (0,0))/\Ze [k] w w':=by
 have r7:=Za (i:=7) hk J;have r8:=Za (i:=8) hk J;have r9:=Za (i:=9) hk J;have f7:=Zb (i:=7) hk;have f8:=Zb (i:=8) hk;have f9:=Zb (i:=9) hk;have hkl:=B9 hk;go_enter func244,ntmps244;go_wp2;go_end0;refine ⟨J,?_,?_⟩
 ·have h1:=Zd (i:=9) (U Y9 v) hk;simp only [List.setIfInBounds_toArray,List.set_cons_succ,List.set_cons_zero] at h1;have h2:=Zd (i:=8) (U Y 1) h1;simp only [List.setIfInBounds_toArray,List.set_cons_succ,List.set_cons_zero] at h2;have h3:=Zd (i:=8) (U Y 3) h2;simp only [List.setIfInBounds_toArray,List.set_cons_succ,List.set_cons_zero] at h3;exact h3
 ·repeat (first|exact Zr_ _ _|refine Ze.setCell ?_ _ _ (.inl (by simp))|refine Ze.alloc ?_ _)
theorem begin_le (hk:w.heap[k]? =I (X #[U Y p0,U Y p1,U Y p2,U Y p3,U Y p4,U Y p5,U Y c,U Y9 st,U Y 0,U Y9 ve,Z V va,U Y sp,.bool tn] 287 (0,0))) (v:Int) (hv:v<=st):
  Calls N 244 #[E (I ⟨k,0,O⟩),U Y9 v] w λ e w'=>e=R9 (.tuple #[])/\w'.heap[k]? =I (X #[U Y p0,U Y p1,U Y p2,U Y p3,U Y p4,U Y p5,U Y c,U Y9 st,U Y 1,U Y9 v,Z V va,U Y sp,.bool tn] 287 (0,0))/\Ze [k] w w':=by
 have r7:=Za (i:=7) hk J;have r8:=Za (i:=8) hk J;have r9:=Za (i:=9) hk J;have f7:=Zb (i:=7) hk;have f8:=Zb (i:=8) hk;have f9:=Zb (i:=9) hk;have hkl:=B9 hk;go_enter func244,ntmps244;go_wp2;go_end0;refine ⟨J,?_,?_⟩
 ·have h1:=Zd (i:=9) (U Y9 v) hk;simp only [List.setIfInBounds_toArray,List.set_cons_succ,List.set_cons_zero] at h1;have h2:=Zd (i:=8) (U Y 1) h1;simp only [List.setIfInBounds_toArray,List.set_cons_succ,List.set_cons_zero] at h2;exact h2
 ·repeat (first|exact Zr_ _ _|refine Ze.setCell ?_ _ _ (.inl (by simp))|refine Ze.alloc ?_ _)
theorem take1 (hk:w.heap[k]? =I (X #[U Y p0,U Y p1,U Y p2,U Y p3,U Y p4,U Y p5,U Y c,U Y9 st,U Y 1,U Y9 ve,Z V va,U Y sp,.bool tn] 287 (0,0))) (v:Int):
  Calls N 245 #[E (I ⟨k,0,O⟩),U Y9 v] w λ e w'=>e=R9 (.tuple #[])/\w'.heap[k]? =I (X #[U Y p0,U Y p1,U Y p2,U Y p3,U Y p4,U Y p5,U Y c,U Y9 st,U Y 2,U Y9 ve,Z V (Zq v.toNat),U Y sp,.bool tn] 287 (0,0))/\Ze [k] w w':=by
 have r8:=Za (i:=8) hk J;have r10:=Za (i:=10) hk J;have f8:=Zb (i:=8) hk;have f10:=Zb (i:=10) hk;have hkl:=B9 hk;go_enter func245,ntmps245;go_wp2_with fail;refine (of_c v _).mono ?_;rintro e w1 ⟨rfl,hw1⟩;have hw1':=hw1.symm;subst hw1';go_wp2;go_end0;refine ⟨J,?_,?_⟩
 ·have h1:=Zd (i:=10) (Z V (Zq v.toNat)) hk;simp only [List.setIfInBounds_toArray,List.set_cons_succ,List.set_cons_zero] at h1;have h2:=Zd (i:=8) (U Y 2) h1;simp only [List.setIfInBounds_toArray,List.set_cons_succ,List.set_cons_zero] at h2;exact h2
 ·repeat (first|exact Zr_ _ _|refine Ze.setCell ?_ _ _ (.inl (by simp))|refine Ze.alloc ?_ _)
theorem again_eq (hk:w.heap[k]? =I (X #[U Y p0,U Y p1,U Y p2,U Y p3,U Y p4,U Y p5,U Y c,U Y9 st,U Y 2,U Y9 ve,Z V va,U Y sp,.bool tn] 287 (0,0))) (v:Int) (hv:(v !=ve)=false):
  Calls N 246 #[E (I ⟨k,0,O⟩),U Y9 v] w λ e w'=>e=R9 (.tuple #[])/\w'.heap[k]? =I (X #[U Y p0,U Y p1,U Y p2,U Y p3,U Y p4,U Y p5,U Y c,U Y9 st,U Y 4,U Y9 ve,Z V va,U Y sp,.bool false] 287 (0,0))/\Ze [k] w w':=by
 have r8:=Za (i:=8) hk J;have r9:=Za (i:=9) hk J;have r12:=Za (i:=12) hk J;have f8:=Zb (i:=8) hk;have f9:=Zb (i:=9) hk;have f12:=Zb (i:=12) hk;have hkl:=B9 hk;go_enter func246,ntmps246;go_wp2;go_end0;refine ⟨J,?_,?_⟩
 ·have h1:=Zd (i:=12) (.bool false) hk;simp only [List.setIfInBounds_toArray,List.set_cons_succ,List.set_cons_zero] at h1;have h2:=Zd (i:=8) (U Y 4) h1;simp only [List.setIfInBounds_toArray,List.set_cons_succ,List.set_cons_zero] at h2;exact h2
 ·repeat (first|exact Zr_ _ _|refine Ze.setCell ?_ _ _ (.inl (by simp))|refine Ze.alloc ?_ _)
theorem again_ne (hk:w.heap[k]? =I (X #[U Y p0,U Y p1,U Y p2,U Y p3,U Y p4,U Y p5,U Y c,U Y9 st,U Y 2,U Y9 ve,Z V va,U Y sp,.bool tn] 287 (0,0))) (v:Int) (hv:(v !=ve)=true):
  Calls N 246 #[E (I ⟨k,0,O⟩),U Y9 v] w λ e w'=>e=R9 (.tuple #[])/\w'.heap[k]? =I (X #[U Y p0,U Y p1,U Y p2,U Y p3,U Y p4,U Y p5,U Y c,U Y9 st,U Y 3,U Y9 ve,Z V va,U Y sp,.bool true] 287 (0,0))/\Ze [k] w w':=by
 have r8:=Za (i:=8) hk J;have r9:=Za (i:=9) hk J;have r12:=Za (i:=12) hk J;have f8:=Zb (i:=8) hk;have f9:=Zb (i:=9) hk;have f12:=Zb (i:=12) hk;have hkl:=B9 hk;go_enter func246,ntmps246;go_wp2;go_end0;refine ⟨J,?_,?_⟩
 ·have h1:=Zd (i:=12) (.bool true) hk;simp only [List.setIfInBounds_toArray,List.set_cons_succ,List.set_cons_zero] at h1;have h2:=Zd (i:=8) (U Y 4) h1;simp only [List.setIfInBounds_toArray,List.set_cons_succ,List.set_cons_zero] at h2;have h3:=Zd (i:=8) (U Y 3) h2;simp only [List.setIfInBounds_toArray,List.set_cons_succ,List.set_cons_zero] at h3;exact h3
 ·repeat (first|exact Zr_ _ _|refine Ze.setCell ?_ _ _ (.inl (by simp))|refine Ze.alloc ?_ _)
theorem end3 (hk:w.heap[k]? =I (X #[U Y p0,U Y p1,U Y p2,U Y p3,U Y p4,U Y p5,U Y c,U Y9 st,U Y 3,U Y9 ve,Z V va,U Y sp,.bool tn] 287 (0,0))) (v:Int):
  Calls N 247 #[E (I ⟨k,0,O⟩),U Y9 v] w λ e w'=>e=R9 (.tuple #[])/\w'.heap[k]? =I (X #[U Y p0,U Y p1,U Y p2,U Y p3,U Y p4,U Y p5,U Y c,U Y9 st,U Y 4,U Y9 ve,Z V (Zq v.toNat),U Y sp,.bool tn] 287 (0,0))/\Ze [k] w w':=by
 have r8:=Za (i:=8) hk J;have r10:=Za (i:=10) hk J;have f8:=Zb (i:=8) hk;have f10:=Zb (i:=10) hk;have hkl:=B9 hk;go_enter func247,ntmps247;go_wp2_with fail;refine (of_c v _).mono ?_;rintro e w1 ⟨rfl,hw1⟩;have hw1':=hw1.symm;subst hw1';go_wp2;go_end0;refine ⟨J,?_,?_⟩
 ·have h1:=Zd (i:=10) (Z V (Zq v.toNat)) hk;simp only [List.setIfInBounds_toArray,List.set_cons_succ,List.set_cons_zero] at h1;have h2:=Zd (i:=8) (U Y 4) h1;simp only [List.setIfInBounds_toArray,List.set_cons_succ,List.set_cons_zero] at h2;exact h2
 ·repeat (first|exact Zr_ _ _|refine Ze.setCell ?_ _ _ (.inl (by simp))|refine Ze.alloc ?_ _)
end
section
attribute [local go_sem] Zi
variable {a b k:Nat} {s:Zh} {w:W} {p0 p1 p2 p3 p4 p5 c st pa ve sp:Int} {va:Nat} {tn:Bool}
theorem rstep4 (hk:w.heap[k]? =I (X #[U Y p0,U Y p1,U Y p2,U Y p3,U Y p4,U Y p5,U Y c,U Y9 st,U Y 4,U Y9 ve,Z V va,U Y sp,.bool tn] 287 (0,0))):
  Calls N 241 #[E (I ⟨k,0,O⟩),E (I ⟨a,0,O⟩)] w λ e w'=>e=R9 (.tuple #[.bool false,U Y 3])/\w'=w:=by
 have r8:=Za (i:=8) hk J;go_enter func241,ntmps241;go_wp2;go_ret2;exact ⟨J,J⟩
theorem rbad0 (hM:Zj 137 w a b s) (hk:w.heap[k]? =I (X #[U Y p0,U Y p1,U Y p2,U Y p3,U Y p4,U Y p5,U Y c,U Y9 st,U Y 0,U Y9 ve,Z V va,U Y sp,.bool tn] 287 (0,0))) (he:(s.qp p4 c 0 !=0)=true):
  Calls N 241 #[E (I ⟨k,0,O⟩),E (I ⟨a,0,O⟩)] w λ e w'=>e=R9 (.tuple #[.bool false,U Y (s.qp p4 c 0)])/\Zj 137 w' a b (s.qv p4 c 0)/\w'.heap[k]? =I (X #[U Y p0,U Y p1,U Y p2,U Y p3,U Y p4,U Y p5,U Y c,U Y9 st,U Y 0,U Y9 ve,Z V va,U Y sp,.bool tn] 287 (0,0))/\Ze [a,b,k] w w':=by
 have hka:k≠a:=Zs hk hM.hd (by decide);have hkb:k≠b:=Zs hk hM.ws (by decide);obtain ⟨r0,r1,r2,r3,r4,r5,r6⟩:=Zc7g_ hk;have r8:=Za (i:=8) hk J;go_enter func241,ntmps241;go_wp2_with fail;refine (next0 hk).mono ?_;rintro e w1 ⟨rfl,hw1⟩;have hw1':=hw1.symm;subst hw1';go_upto_region 4 with fail
 go_cut [8,9] (λ A C wx=>A=U Y9 (s.qm p4 c 0)/\C=U Y (s.qp p4 c 0)/\Zj 137 wx a b (s.qv p4 c 0)/\wx.heap[k]? =I (X #[U Y p0,U Y p1,U Y p2,U Y p3,U Y p4,U Y p5,U Y c,U Y9 st,U Y 0,U Y9 ve,Z V va,U Y sp,.bool tn] 287 (0,0))/\Ze [a,b,k] w wx)
 case first=>
  go_region_held3 (λ wx=>wx.cell? ⟨k,0,O⟩=I (U Y p0)/\wx.cell? ⟨k,1,O⟩=I (U Y p1)/\wx.cell? ⟨k,2,O⟩=I (U Y p2)/\wx.cell? ⟨k,3,O⟩=I (U Y p3)/\wx.cell? ⟨k,4,O⟩=I (U Y p4)/\wx.cell? ⟨k,5,O⟩=I (U Y p5)/\wx.cell? ⟨k,6,O⟩=I (U Y c)) (first|exact ⟨r0,r1,r2,r3,r4,r5,r6⟩|exact ⟨Za K2 J,Za K2 J,Za K2 J,Za K2 J,Za K2 J,Za K2 J,Za K2 J⟩)
   (first|(go_at_call 144;refine (Uo hM.drew p0 p1 p2 p3 p4 p5 c 0 (by omega) (by omega)).mono ?_;rintro e w2 ⟨rfl,M2,d2⟩;have K2:=d2.at (k:=k) (o:=X #[U Y p0,U Y p1,U Y p2,U Y p3,U Y p4,U Y p5,U Y c,U Y9 st,U Y 0,U Y9 ve,Z V va,U Y sp,.bool tn] 287 (0,0)) hk (by simp [hka,hkb])))
  all_goals
   go_wp2_with fail;go_meet;exact ⟨J,J,M2,K2,(Zr_ _ _).drew.trans (d2.mono (by simp))⟩
 case rest=>
  obtain ⟨rfl,rfl,M3,K3,D3⟩:=hcut;clear r0 r1 r2 r3 r4 r5 r6 r8 hM hk;obtain ⟨w3,rfl⟩:∃ w3,w3=wc:=⟨_,J⟩;go_wp2;go_ret2;exact ⟨J,M3,K3,D3⟩
theorem rbad1 (hM:Zj 137 w a b s) (hk:w.heap[k]? =I (X #[U Y p0,U Y p1,U Y p2,U Y p3,U Y p4,U Y p5,U Y c,U Y9 st,U Y 1,U Y9 ve,Z V va,U Y sp,.bool tn] 287 (0,0))) (he:(s.qp p4 c 1 !=0)=true):
  Calls N 241 #[E (I ⟨k,0,O⟩),E (I ⟨a,0,O⟩)] w λ e w'=>e=R9 (.tuple #[.bool false,U Y (s.qp p4 c 1)])/\Zj 137 w' a b (s.qv p4 c 1)/\w'.heap[k]? =I (X #[U Y p0,U Y p1,U Y p2,U Y p3,U Y p4,U Y p5,U Y c,U Y9 st,U Y 1,U Y9 ve,Z V va,U Y sp,.bool tn] 287 (0,0))/\Ze [a,b,k] w w':=by
 have hka:k≠a:=Zs hk hM.hd (by decide);have hkb:k≠b:=Zs hk hM.ws (by decide);obtain ⟨r0,r1,r2,r3,r4,r5,r6⟩:=Zc7g_ hk;have r8:=Za (i:=8) hk J;go_enter func241,ntmps241;go_wp2_with fail;refine (next1 hk).mono ?_;rintro e w1 ⟨rfl,hw1⟩;have hw1':=hw1.symm;subst hw1';go_upto_region 4 with fail
 go_cut [8,9] (λ A C wx=>A=U Y9 (s.qm p4 c 1)/\C=U Y (s.qp p4 c 1)/\Zj 137 wx a b (s.qv p4 c 1)/\wx.heap[k]? =I (X #[U Y p0,U Y p1,U Y p2,U Y p3,U Y p4,U Y p5,U Y c,U Y9 st,U Y 1,U Y9 ve,Z V va,U Y sp,.bool tn] 287 (0,0))/\Ze [a,b,k] w wx)
 case first=>
  go_region_held3 (λ wx=>wx.cell? ⟨k,0,O⟩=I (U Y p0)/\wx.cell? ⟨k,1,O⟩=I (U Y p1)/\wx.cell? ⟨k,2,O⟩=I (U Y p2)/\wx.cell? ⟨k,3,O⟩=I (U Y p3)/\wx.cell? ⟨k,4,O⟩=I (U Y p4)/\wx.cell? ⟨k,5,O⟩=I (U Y p5)/\wx.cell? ⟨k,6,O⟩=I (U Y c)) (first|exact ⟨r0,r1,r2,r3,r4,r5,r6⟩|exact ⟨Za K2 J,Za K2 J,Za K2 J,Za K2 J,Za K2 J,Za K2 J,Za K2 J⟩)
   (first|(go_at_call 144;refine (Uo hM.drew p0 p1 p2 p3 p4 p5 c 1 (by omega) (by omega)).mono ?_;rintro e w2 ⟨rfl,M2,d2⟩;have K2:=d2.at (k:=k) (o:=X #[U Y p0,U Y p1,U Y p2,U Y p3,U Y p4,U Y p5,U Y c,U Y9 st,U Y 1,U Y9 ve,Z V va,U Y sp,.bool tn] 287 (0,0)) hk (by simp [hka,hkb])))
  all_goals
   go_wp2_with fail;go_meet;exact ⟨J,J,M2,K2,(Zr_ _ _).drew.trans (d2.mono (by simp))⟩
 case rest=>
  obtain ⟨rfl,rfl,M3,K3,D3⟩:=hcut;clear r0 r1 r2 r3 r4 r5 r6 r8 hM hk;obtain ⟨w3,rfl⟩:∃ w3,w3=wc:=⟨_,J⟩;go_wp2;go_ret2;exact ⟨J,M3,K3,D3⟩
theorem rbad2 (hM:Zj 137 w a b s) (hk:w.heap[k]? =I (X #[U Y p0,U Y p1,U Y p2,U Y p3,U Y p4,U Y p5,U Y c,U Y9 st,U Y 2,U Y9 ve,Z V va,U Y sp,.bool tn] 287 (0,0))) (he:(s.qp p4 c 0 !=0)=true):
  Calls N 241 #[E (I ⟨k,0,O⟩),E (I ⟨a,0,O⟩)] w λ e w'=>e=R9 (.tuple #[.bool false,U Y (s.qp p4 c 0)])/\Zj 137 w' a b (s.qv p4 c 0)/\w'.heap[k]? =I (X #[U Y p0,U Y p1,U Y p2,U Y p3,U Y p4,U Y p5,U Y c,U Y9 st,U Y 2,U Y9 ve,Z V va,U Y sp,.bool tn] 287 (0,0))/\Ze [a,b,k] w w':=by
 have hka:k≠a:=Zs hk hM.hd (by decide);have hkb:k≠b:=Zs hk hM.ws (by decide);obtain ⟨r0,r1,r2,r3,r4,r5,r6⟩:=Zc7g_ hk;have r8:=Za (i:=8) hk J;go_enter func241,ntmps241;go_wp2_with fail;refine (next2 hk).mono ?_;rintro e w1 ⟨rfl,hw1⟩;have hw1':=hw1.symm;subst hw1';go_upto_region 4 with fail
 go_cut [8,9] (λ A C wx=>A=U Y9 (s.qm p4 c 0)/\C=U Y (s.qp p4 c 0)/\Zj 137 wx a b (s.qv p4 c 0)/\wx.heap[k]? =I (X #[U Y p0,U Y p1,U Y p2,U Y p3,U Y p4,U Y p5,U Y c,U Y9 st,U Y 2,U Y9 ve,Z V va,U Y sp,.bool tn] 287 (0,0))/\Ze [a,b,k] w wx)
 case first=>
  go_region_held3 (λ wx=>wx.cell? ⟨k,0,O⟩=I (U Y p0)/\wx.cell? ⟨k,1,O⟩=I (U Y p1)/\wx.cell? ⟨k,2,O⟩=I (U Y p2)/\wx.cell? ⟨k,3,O⟩=I (U Y p3)/\wx.cell? ⟨k,4,O⟩=I (U Y p4)/\wx.cell? ⟨k,5,O⟩=I (U Y p5)/\wx.cell? ⟨k,6,O⟩=I (U Y c)) (first|exact ⟨r0,r1,r2,r3,r4,r5,r6⟩|exact ⟨Za K2 J,Za K2 J,Za K2 J,Za K2 J,Za K2 J,Za K2 J,Za K2 J⟩)
   (first|(go_at_call 144;refine (Uo hM.drew p0 p1 p2 p3 p4 p5 c 0 (by omega) (by omega)).mono ?_;rintro e w2 ⟨rfl,M2,d2⟩;have K2:=d2.at (k:=k) (o:=X #[U Y p0,U Y p1,U Y p2,U Y p3,U Y p4,U Y p5,U Y c,U Y9 st,U Y 2,U Y9 ve,Z V va,U Y sp,.bool tn] 287 (0,0)) hk (by simp [hka,hkb])))
  all_goals
   go_wp2_with fail;go_meet;exact ⟨J,J,M2,K2,(Zr_ _ _).drew.trans (d2.mono (by simp))⟩
 case rest=>
  obtain ⟨rfl,rfl,M3,K3,D3⟩:=hcut;clear r0 r1 r2 r3 r4 r5 r6 r8 hM hk;obtain ⟨w3,rfl⟩:∃ w3,w3=wc:=⟨_,J⟩;go_wp2;go_ret2;exact ⟨J,M3,K3,D3⟩
theorem rbad3 (hM:Zj 137 w a b s) (hk:w.heap[k]? =I (X #[U Y p0,U Y p1,U Y p2,U Y p3,U Y p4,U Y p5,U Y c,U Y9 st,U Y 3,U Y9 ve,Z V va,U Y sp,.bool tn] 287 (0,0))) (he:(s.qp p4 c 2 !=0)=true):
  Calls N 241 #[E (I ⟨k,0,O⟩),E (I ⟨a,0,O⟩)] w λ e w'=>e=R9 (.tuple #[.bool false,U Y (s.qp p4 c 2)])/\Zj 137 w' a b (s.qv p4 c 2)/\w'.heap[k]? =I (X #[U Y p0,U Y p1,U Y p2,U Y p3,U Y p4,U Y p5,U Y c,U Y9 st,U Y 3,U Y9 ve,Z V va,U Y sp,.bool tn] 287 (0,0))/\Ze [a,b,k] w w':=by
 have hka:k≠a:=Zs hk hM.hd (by decide);have hkb:k≠b:=Zs hk hM.ws (by decide);obtain ⟨r0,r1,r2,r3,r4,r5,r6⟩:=Zc7g_ hk;have r8:=Za (i:=8) hk J;go_enter func241,ntmps241;go_wp2_with fail;refine (next3 hk).mono ?_;rintro e w1 ⟨rfl,hw1⟩;have hw1':=hw1.symm;subst hw1';go_upto_region 4 with fail
 go_cut [8,9] (λ A C wx=>A=U Y9 (s.qm p4 c 2)/\C=U Y (s.qp p4 c 2)/\Zj 137 wx a b (s.qv p4 c 2)/\wx.heap[k]? =I (X #[U Y p0,U Y p1,U Y p2,U Y p3,U Y p4,U Y p5,U Y c,U Y9 st,U Y 3,U Y9 ve,Z V va,U Y sp,.bool tn] 287 (0,0))/\Ze [a,b,k] w wx)
 case first=>
  go_region_held3 (λ wx=>wx.cell? ⟨k,0,O⟩=I (U Y p0)/\wx.cell? ⟨k,1,O⟩=I (U Y p1)/\wx.cell? ⟨k,2,O⟩=I (U Y p2)/\wx.cell? ⟨k,3,O⟩=I (U Y p3)/\wx.cell? ⟨k,4,O⟩=I (U Y p4)/\wx.cell? ⟨k,5,O⟩=I (U Y p5)/\wx.cell? ⟨k,6,O⟩=I (U Y c)) (first|exact ⟨r0,r1,r2,r3,r4,r5,r6⟩|exact ⟨Za K2 J,Za K2 J,Za K2 J,Za K2 J,Za K2 J,Za K2 J,Za K2 J⟩)
   (first|(go_at_call 144;refine (Uo hM.drew p0 p1 p2 p3 p4 p5 c 2 (by omega) (by omega)).mono ?_;rintro e w2 ⟨rfl,M2,d2⟩;have K2:=d2.at (k:=k) (o:=X #[U Y p0,U Y p1,U Y p2,U Y p3,U Y p4,U Y p5,U Y c,U Y9 st,U Y 3,U Y9 ve,Z V va,U Y sp,.bool tn] 287 (0,0)) hk (by simp [hka,hkb])))
  all_goals
   go_wp2_with fail;go_meet;exact ⟨J,J,M2,K2,(Zr_ _ _).drew.trans (d2.mono (by simp))⟩
 case rest=>
  obtain ⟨rfl,rfl,M3,K3,D3⟩:=hcut;clear r0 r1 r2 r3 r4 r5 r6 r8 hM hk;obtain ⟨w3,rfl⟩:∃ w3,w3=wc:=⟨_,J⟩;go_wp2;go_ret2;exact ⟨J,M3,K3,D3⟩
theorem rok0_gt (hM:Zj 137 w a b s) (hk:w.heap[k]? =I (X #[U Y p0,U Y p1,U Y p2,U Y p3,U Y p4,U Y p5,U Y c,U Y9 st,U Y 0,U Y9 ve,Z V va,U Y sp,.bool tn] 287 (0,0))) (he:s.qp p4 c 0=0) (hv:st < s.qm p4 c 0):
  Calls N 241 #[E (I ⟨k,0,O⟩),E (I ⟨a,0,O⟩)] w λ e w'=>e=R9 (.tuple #[.bool false,U Y 0])/\Zj 137 w' a b (s.qv p4 c 0)/\w'.heap[k]? =I (X #[U Y p0,U Y p1,U Y p2,U Y p3,U Y p4,U Y p5,U Y c,U Y9 st,U Y 3,U Y9 (s.qm p4 c 0),Z V va,U Y (wrap64 (sp+1)),.bool tn] 287 (0,0))/\Ze [a,b,k] w w':=by
 have He:=Zh_ he;clear he;have Hv:=Zh_ hv;clear hv;have hka:k≠a:=Zs hk hM.hd (by decide);have hkb:k≠b:=Zs hk hM.ws (by decide);obtain ⟨r0,r1,r2,r3,r4,r5,r6⟩:=Zc7g_ hk;have r8:=Za (i:=8) hk J;go_enter func241,ntmps241;go_wp2_with fail;refine (next0 hk).mono ?_;rintro e w1 ⟨rfl,hw1⟩;have hw1':=hw1.symm;subst hw1';go_upto_region 4 with fail
 go_cut [8,9] (λ A C wx=>A=U Y9 (s.qm p4 c 0)/\C=U Y (s.qp p4 c 0)/\Zj 137 wx a b (s.qv p4 c 0)/\wx.heap[k]? =I (X #[U Y p0,U Y p1,U Y p2,U Y p3,U Y p4,U Y p5,U Y c,U Y9 st,U Y 0,U Y9 ve,Z V va,U Y sp,.bool tn] 287 (0,0))/\Ze [a,b,k] w wx)
 case first=>
  go_region_held3 (λ wx=>wx.cell? ⟨k,0,O⟩=I (U Y p0)/\wx.cell? ⟨k,1,O⟩=I (U Y p1)/\wx.cell? ⟨k,2,O⟩=I (U Y p2)/\wx.cell? ⟨k,3,O⟩=I (U Y p3)/\wx.cell? ⟨k,4,O⟩=I (U Y p4)/\wx.cell? ⟨k,5,O⟩=I (U Y p5)/\wx.cell? ⟨k,6,O⟩=I (U Y c)) (first|exact ⟨r0,r1,r2,r3,r4,r5,r6⟩|exact ⟨Za K2 J,Za K2 J,Za K2 J,Za K2 J,Za K2 J,Za K2 J,Za K2 J⟩)
   (first|(go_at_call 144;refine (Uo hM.drew p0 p1 p2 p3 p4 p5 c 0 (by omega) (by omega)).mono ?_;rintro e w2 ⟨rfl,M2,d2⟩;have K2:=d2.at (k:=k) (o:=X #[U Y p0,U Y p1,U Y p2,U Y p3,U Y p4,U Y p5,U Y c,U Y9 st,U Y 0,U Y9 ve,Z V va,U Y sp,.bool tn] 287 (0,0)) hk (by simp [hka,hkb])))
  all_goals
   go_wp2_with fail;go_meet;exact ⟨J,J,M2,K2,(Zr_ _ _).drew.trans (d2.mono (by simp))⟩
 case rest=>
  obtain ⟨rfl,rfl,M3,K3,D3⟩:=hcut;clear r0 r1 r2 r3 r4 r5 r6 r8 hM hk;obtain ⟨w3,rfl⟩:∃ w3,w3=wc:=⟨_,J⟩;rw [He.out];have r11:=Za (i:=11) K3 J;have z11:=Zb (i:=11) K3;go_upto_region 8 with fail;have K4:=Zd (i:=11) (U Y (wrap64 (sp+1))) K3;simp only [List.setIfInBounds_toArray,List.set_cons_succ,List.set_cons_zero] at K4;have M4:=M3.other k 11 (U Y (wrap64 (sp+1))) (Ne.symm hka) (Ne.symm hkb);have D4:=D3.setCell ⟨k,11,O⟩ (U Y (wrap64 (sp+1))) (.inl (by simp));clear r11 z11 K3 M3 D3;generalize w3.setCell ⟨k,11,O⟩ (U Y (wrap64 (sp+1)))=w4 at *
  go_wp2_with fail;refine (begin_gt K4 _ Hv.out).mono ?_;rintro e w5 ⟨rfl,K5,d5⟩;have M5:=M4.mod d5 (by simp [Ne.symm hka]) (by simp [Ne.symm hkb]);have D5:Ze [a,b,k] w w5:=D4.trans (d5.mono (by simp));have r8:=Za (i:=8) K5 J;clear K4 M4 D4 d5 He Hv;go_wp2;go_ret2;exact ⟨J,M5,K5,D5⟩
theorem rok0_le (hM:Zj 137 w a b s) (hk:w.heap[k]? =I (X #[U Y p0,U Y p1,U Y p2,U Y p3,U Y p4,U Y p5,U Y c,U Y9 st,U Y 0,U Y9 ve,Z V va,U Y sp,.bool tn] 287 (0,0))) (he:s.qp p4 c 0=0) (hv:s.qm p4 c 0<=st):
  Calls N 241 #[E (I ⟨k,0,O⟩),E (I ⟨a,0,O⟩)] w λ e w'=>e=R9 (.tuple #[.bool false,U Y 0])/\Zj 137 w' a b (s.qv p4 c 0)/\w'.heap[k]? =I (X #[U Y p0,U Y p1,U Y p2,U Y p3,U Y p4,U Y p5,U Y c,U Y9 st,U Y 1,U Y9 (s.qm p4 c 0),Z V va,U Y (wrap64 (sp+1)),.bool tn] 287 (0,0))/\Ze [a,b,k] w w':=by
 have He:=Zh_ he;clear he;have Hv:=Zh_ hv;clear hv;have hka:k≠a:=Zs hk hM.hd (by decide);have hkb:k≠b:=Zs hk hM.ws (by decide);obtain ⟨r0,r1,r2,r3,r4,r5,r6⟩:=Zc7g_ hk;have r8:=Za (i:=8) hk J;go_enter func241,ntmps241;go_wp2_with fail;refine (next0 hk).mono ?_;rintro e w1 ⟨rfl,hw1⟩;have hw1':=hw1.symm;subst hw1';go_upto_region 4 with fail
 go_cut [8,9] (λ A C wx=>A=U Y9 (s.qm p4 c 0)/\C=U Y (s.qp p4 c 0)/\Zj 137 wx a b (s.qv p4 c 0)/\wx.heap[k]? =I (X #[U Y p0,U Y p1,U Y p2,U Y p3,U Y p4,U Y p5,U Y c,U Y9 st,U Y 0,U Y9 ve,Z V va,U Y sp,.bool tn] 287 (0,0))/\Ze [a,b,k] w wx)
 case first=>
  go_region_held3 (λ wx=>wx.cell? ⟨k,0,O⟩=I (U Y p0)/\wx.cell? ⟨k,1,O⟩=I (U Y p1)/\wx.cell? ⟨k,2,O⟩=I (U Y p2)/\wx.cell? ⟨k,3,O⟩=I (U Y p3)/\wx.cell? ⟨k,4,O⟩=I (U Y p4)/\wx.cell? ⟨k,5,O⟩=I (U Y p5)/\wx.cell? ⟨k,6,O⟩=I (U Y c)) (first|exact ⟨r0,r1,r2,r3,r4,r5,r6⟩|exact ⟨Za K2 J,Za K2 J,Za K2 J,Za K2 J,Za K2 J,Za K2 J,Za K2 J⟩)
   (first|(go_at_call 144;refine (Uo hM.drew p0 p1 p2 p3 p4 p5 c 0 (by omega) (by omega)).mono ?_;rintro e w2 ⟨rfl,M2,d2⟩;have K2:=d2.at (k:=k) (o:=X #[U Y p0,U Y p1,U Y p2,U Y p3,U Y p4,U Y p5,U Y c,U Y9 st,U Y 0,U Y9 ve,Z V va,U Y sp,.bool tn] 287 (0,0)) hk (by simp [hka,hkb])))
  all_goals
   go_wp2_with fail;go_meet;exact ⟨J,J,M2,K2,(Zr_ _ _).drew.trans (d2.mono (by simp))⟩
 case rest=>
  obtain ⟨rfl,rfl,M3,K3,D3⟩:=hcut;clear r0 r1 r2 r3 r4 r5 r6 r8 hM hk;obtain ⟨w3,rfl⟩:∃ w3,w3=wc:=⟨_,J⟩;rw [He.out];have r11:=Za (i:=11) K3 J;have z11:=Zb (i:=11) K3;go_upto_region 8 with fail;have K4:=Zd (i:=11) (U Y (wrap64 (sp+1))) K3;simp only [List.setIfInBounds_toArray,List.set_cons_succ,List.set_cons_zero] at K4;have M4:=M3.other k 11 (U Y (wrap64 (sp+1))) (Ne.symm hka) (Ne.symm hkb);have D4:=D3.setCell ⟨k,11,O⟩ (U Y (wrap64 (sp+1))) (.inl (by simp));clear r11 z11 K3 M3 D3;generalize w3.setCell ⟨k,11,O⟩ (U Y (wrap64 (sp+1)))=w4 at *
  go_wp2_with fail;refine (begin_le K4 _ Hv.out).mono ?_;rintro e w5 ⟨rfl,K5,d5⟩;have M5:=M4.mod d5 (by simp [Ne.symm hka]) (by simp [Ne.symm hkb]);have D5:Ze [a,b,k] w w5:=D4.trans (d5.mono (by simp));have r8:=Za (i:=8) K5 J;clear K4 M4 D4 d5 He Hv;go_wp2;go_ret2;exact ⟨J,M5,K5,D5⟩
theorem rok1 (hM:Zj 137 w a b s) (hk:w.heap[k]? =I (X #[U Y p0,U Y p1,U Y p2,U Y p3,U Y p4,U Y p5,U Y c,U Y9 st,U Y 1,U Y9 ve,Z V va,U Y sp,.bool tn] 287 (0,0))) (he:s.qp p4 c 1=0):
  Calls N 241 #[E (I ⟨k,0,O⟩),E (I ⟨a,0,O⟩)] w λ e w'=>e=R9 (.tuple #[.bool false,U Y 0])/\Zj 137 w' a b (s.qv p4 c 1)/\w'.heap[k]? =I (X #[U Y p0,U Y p1,U Y p2,U Y p3,U Y p4,U Y p5,U Y c,U Y9 st,U Y 2,U Y9 ve,Z V (Zq (s.qm p4 c 1).toNat),U Y (wrap64 (sp+1)),.bool tn] 287 (0,0))/\Ze [a,b,k] w w':=by
 have He:=Zh_ he;clear he;have hka:k≠a:=Zs hk hM.hd (by decide);have hkb:k≠b:=Zs hk hM.ws (by decide);obtain ⟨r0,r1,r2,r3,r4,r5,r6⟩:=Zc7g_ hk;have r8:=Za (i:=8) hk J;go_enter func241,ntmps241;go_wp2_with fail;refine (next1 hk).mono ?_;rintro e w1 ⟨rfl,hw1⟩;have hw1':=hw1.symm;subst hw1';go_upto_region 4 with fail
 go_cut [8,9] (λ A C wx=>A=U Y9 (s.qm p4 c 1)/\C=U Y (s.qp p4 c 1)/\Zj 137 wx a b (s.qv p4 c 1)/\wx.heap[k]? =I (X #[U Y p0,U Y p1,U Y p2,U Y p3,U Y p4,U Y p5,U Y c,U Y9 st,U Y 1,U Y9 ve,Z V va,U Y sp,.bool tn] 287 (0,0))/\Ze [a,b,k] w wx)
 case first=>
  go_region_held3 (λ wx=>wx.cell? ⟨k,0,O⟩=I (U Y p0)/\wx.cell? ⟨k,1,O⟩=I (U Y p1)/\wx.cell? ⟨k,2,O⟩=I (U Y p2)/\wx.cell? ⟨k,3,O⟩=I (U Y p3)/\wx.cell? ⟨k,4,O⟩=I (U Y p4)/\wx.cell? ⟨k,5,O⟩=I (U Y p5)/\wx.cell? ⟨k,6,O⟩=I (U Y c)) (first|exact ⟨r0,r1,r2,r3,r4,r5,r6⟩|exact ⟨Za K2 J,Za K2 J,Za K2 J,Za K2 J,Za K2 J,Za K2 J,Za K2 J⟩)
   (first|(go_at_call 144;refine (Uo hM.drew p0 p1 p2 p3 p4 p5 c 1 (by omega) (by omega)).mono ?_;rintro e w2 ⟨rfl,M2,d2⟩;have K2:=d2.at (k:=k) (o:=X #[U Y p0,U Y p1,U Y p2,U Y p3,U Y p4,U Y p5,U Y c,U Y9 st,U Y 1,U Y9 ve,Z V va,U Y sp,.bool tn] 287 (0,0)) hk (by simp [hka,hkb])))
  all_goals
   go_wp2_with fail;go_meet;exact ⟨J,J,M2,K2,(Zr_ _ _).drew.trans (d2.mono (by simp))⟩
 case rest=>
  obtain ⟨rfl,rfl,M3,K3,D3⟩:=hcut;clear r0 r1 r2 r3 r4 r5 r6 r8 hM hk;obtain ⟨w3,rfl⟩:∃ w3,w3=wc:=⟨_,J⟩;rw [He.out];have r11:=Za (i:=11) K3 J;have z11:=Zb (i:=11) K3;go_upto_region 8 with fail;have K4:=Zd (i:=11) (U Y (wrap64 (sp+1))) K3;simp only [List.setIfInBounds_toArray,List.set_cons_succ,List.set_cons_zero] at K4;have M4:=M3.other k 11 (U Y (wrap64 (sp+1))) (Ne.symm hka) (Ne.symm hkb);have D4:=D3.setCell ⟨k,11,O⟩ (U Y (wrap64 (sp+1))) (.inl (by simp));clear r11 z11 K3 M3 D3;generalize w3.setCell ⟨k,11,O⟩ (U Y (wrap64 (sp+1)))=w4 at *
  go_wp2_with fail;refine (take1 K4 _).mono ?_;rintro e w5 ⟨rfl,K5,d5⟩;have M5:=M4.mod d5 (by simp [Ne.symm hka]) (by simp [Ne.symm hkb]);have D5:Ze [a,b,k] w w5:=D4.trans (d5.mono (by simp));have r8:=Za (i:=8) K5 J;clear K4 M4 D4 d5 He;go_wp2;go_ret2;exact ⟨J,M5,K5,D5⟩
theorem rok2_eq (hM:Zj 137 w a b s) (hk:w.heap[k]? =I (X #[U Y p0,U Y p1,U Y p2,U Y p3,U Y p4,U Y p5,U Y c,U Y9 st,U Y 2,U Y9 ve,Z V va,U Y sp,.bool tn] 287 (0,0))) (he:s.qp p4 c 0=0) (hv:(s.qm p4 c 0 !=ve)=false):
  Calls N 241 #[E (I ⟨k,0,O⟩),E (I ⟨a,0,O⟩)] w λ e w'=>e=R9 (.tuple #[.bool true,U Y 0])/\Zj 137 w' a b (s.qv p4 c 0)/\w'.heap[k]? =I (X #[U Y p0,U Y p1,U Y p2,U Y p3,U Y p4,U Y p5,U Y c,U Y9 st,U Y 4,U Y9 ve,Z V va,U Y (wrap64 (sp+1)),.bool false] 287 (0,0))/\Ze [a,b,k] w w':=by
 have He:=Zh_ he;clear he;have Hv:=Zh_ hv;clear hv;have hka:k≠a:=Zs hk hM.hd (by decide);have hkb:k≠b:=Zs hk hM.ws (by decide);obtain ⟨r0,r1,r2,r3,r4,r5,r6⟩:=Zc7g_ hk;have r8:=Za (i:=8) hk J;go_enter func241,ntmps241;go_wp2_with fail;refine (next2 hk).mono ?_;rintro e w1 ⟨rfl,hw1⟩;have hw1':=hw1.symm;subst hw1';go_upto_region 4 with fail
 go_cut [8,9] (λ A C wx=>A=U Y9 (s.qm p4 c 0)/\C=U Y (s.qp p4 c 0)/\Zj 137 wx a b (s.qv p4 c 0)/\wx.heap[k]? =I (X #[U Y p0,U Y p1,U Y p2,U Y p3,U Y p4,U Y p5,U Y c,U Y9 st,U Y 2,U Y9 ve,Z V va,U Y sp,.bool tn] 287 (0,0))/\Ze [a,b,k] w wx)
 case first=>
  go_region_held3 (λ wx=>wx.cell? ⟨k,0,O⟩=I (U Y p0)/\wx.cell? ⟨k,1,O⟩=I (U Y p1)/\wx.cell? ⟨k,2,O⟩=I (U Y p2)/\wx.cell? ⟨k,3,O⟩=I (U Y p3)/\wx.cell? ⟨k,4,O⟩=I (U Y p4)/\wx.cell? ⟨k,5,O⟩=I (U Y p5)/\wx.cell? ⟨k,6,O⟩=I (U Y c)) (first|exact ⟨r0,r1,r2,r3,r4,r5,r6⟩|exact ⟨Za K2 J,Za K2 J,Za K2 J,Za K2 J,Za K2 J,Za K2 J,Za K2 J⟩)
   (first|(go_at_call 144;refine (Uo hM.drew p0 p1 p2 p3 p4 p5 c 0 (by omega) (by omega)).mono ?_;rintro e w2 ⟨rfl,M2,d2⟩;have K2:=d2.at (k:=k) (o:=X #[U Y p0,U Y p1,U Y p2,U Y p3,U Y p4,U Y p5,U Y c,U Y9 st,U Y 2,U Y9 ve,Z V va,U Y sp,.bool tn] 287 (0,0)) hk (by simp [hka,hkb])))
  all_goals
   go_wp2_with fail;go_meet;exact ⟨J,J,M2,K2,(Zr_ _ _).drew.trans (d2.mono (by simp))⟩
 case rest=>
  obtain ⟨rfl,rfl,M3,K3,D3⟩:=hcut;clear r0 r1 r2 r3 r4 r5 r6 r8 hM hk;obtain ⟨w3,rfl⟩:∃ w3,w3=wc:=⟨_,J⟩;rw [He.out];have r11:=Za (i:=11) K3 J;have z11:=Zb (i:=11) K3;go_upto_region 8 with fail;have K4:=Zd (i:=11) (U Y (wrap64 (sp+1))) K3;simp only [List.setIfInBounds_toArray,List.set_cons_succ,List.set_cons_zero] at K4;have M4:=M3.other k 11 (U Y (wrap64 (sp+1))) (Ne.symm hka) (Ne.symm hkb);have D4:=D3.setCell ⟨k,11,O⟩ (U Y (wrap64 (sp+1))) (.inl (by simp));clear r11 z11 K3 M3 D3;generalize w3.setCell ⟨k,11,O⟩ (U Y (wrap64 (sp+1)))=w4 at *
  go_wp2_with fail;refine (again_eq K4 _ Hv.out).mono ?_;rintro e w5 ⟨rfl,K5,d5⟩;have M5:=M4.mod d5 (by simp [Ne.symm hka]) (by simp [Ne.symm hkb]);have D5:Ze [a,b,k] w w5:=D4.trans (d5.mono (by simp));have r8:=Za (i:=8) K5 J;clear K4 M4 D4 d5 He Hv;go_wp2;go_ret2;exact ⟨J,M5,K5,D5⟩
theorem rok2_ne (hM:Zj 137 w a b s) (hk:w.heap[k]? =I (X #[U Y p0,U Y p1,U Y p2,U Y p3,U Y p4,U Y p5,U Y c,U Y9 st,U Y 2,U Y9 ve,Z V va,U Y sp,.bool tn] 287 (0,0))) (he:s.qp p4 c 0=0) (hv:(s.qm p4 c 0 !=ve)=true):
  Calls N 241 #[E (I ⟨k,0,O⟩),E (I ⟨a,0,O⟩)] w λ e w'=>e=R9 (.tuple #[.bool false,U Y 0])/\Zj 137 w' a b (s.qv p4 c 0)/\w'.heap[k]? =I (X #[U Y p0,U Y p1,U Y p2,U Y p3,U Y p4,U Y p5,U Y c,U Y9 st,U Y 3,U Y9 ve,Z V va,U Y (wrap64 (sp+1)),.bool true] 287 (0,0))/\Ze [a,b,k] w w':=by
 have He:=Zh_ he;clear he;have Hv:=Zh_ hv;clear hv;have hka:k≠a:=Zs hk hM.hd (by decide);have hkb:k≠b:=Zs hk hM.ws (by decide);obtain ⟨r0,r1,r2,r3,r4,r5,r6⟩:=Zc7g_ hk;have r8:=Za (i:=8) hk J;go_enter func241,ntmps241;go_wp2_with fail;refine (next2 hk).mono ?_;rintro e w1 ⟨rfl,hw1⟩;have hw1':=hw1.symm;subst hw1';go_upto_region 4 with fail
 go_cut [8,9] (λ A C wx=>A=U Y9 (s.qm p4 c 0)/\C=U Y (s.qp p4 c 0)/\Zj 137 wx a b (s.qv p4 c 0)/\wx.heap[k]? =I (X #[U Y p0,U Y p1,U Y p2,U Y p3,U Y p4,U Y p5,U Y c,U Y9 st,U Y 2,U Y9 ve,Z V va,U Y sp,.bool tn] 287 (0,0))/\Ze [a,b,k] w wx)
 case first=>
  go_region_held3 (λ wx=>wx.cell? ⟨k,0,O⟩=I (U Y p0)/\wx.cell? ⟨k,1,O⟩=I (U Y p1)/\wx.cell? ⟨k,2,O⟩=I (U Y p2)/\wx.cell? ⟨k,3,O⟩=I (U Y p3)/\wx.cell? ⟨k,4,O⟩=I (U Y p4)/\wx.cell? ⟨k,5,O⟩=I (U Y p5)/\wx.cell? ⟨k,6,O⟩=I (U Y c)) (first|exact ⟨r0,r1,r2,r3,r4,r5,r6⟩|exact ⟨Za K2 J,Za K2 J,Za K2 J,Za K2 J,Za K2 J,Za K2 J,Za K2 J⟩)
   (first|(go_at_call 144;refine (Uo hM.drew p0 p1 p2 p3 p4 p5 c 0 (by omega) (by omega)).mono ?_;rintro e w2 ⟨rfl,M2,d2⟩;have K2:=d2.at (k:=k) (o:=X #[U Y p0,U Y p1,U Y p2,U Y p3,U Y p4,U Y p5,U Y c,U Y9 st,U Y 2,U Y9 ve,Z V va,U Y sp,.bool tn] 287 (0,0)) hk (by simp [hka,hkb])))
  all_goals
   go_wp2_with fail;go_meet;exact ⟨J,J,M2,K2,(Zr_ _ _).drew.trans (d2.mono (by simp))⟩
 case rest=>
  obtain ⟨rfl,rfl,M3,K3,D3⟩:=hcut;clear r0 r1 r2 r3 r4 r5 r6 r8 hM hk;obtain ⟨w3,rfl⟩:∃ w3,w3=wc:=⟨_,J⟩;rw [He.out];have r11:=Za (i:=11) K3 J;have z11:=Zb (i:=11) K3;go_upto_region 8 with fail;have K4:=Zd (i:=11) (U Y (wrap64 (sp+1))) K3;simp only [List.setIfInBounds_toArray,List.set_cons_succ,List.set_cons_zero] at K4;have M4:=M3.other k 11 (U Y (wrap64 (sp+1))) (Ne.symm hka) (Ne.symm hkb);have D4:=D3.setCell ⟨k,11,O⟩ (U Y (wrap64 (sp+1))) (.inl (by simp));clear r11 z11 K3 M3 D3;generalize w3.setCell ⟨k,11,O⟩ (U Y (wrap64 (sp+1)))=w4 at *
  go_wp2_with fail;refine (again_ne K4 _ Hv.out).mono ?_;rintro e w5 ⟨rfl,K5,d5⟩;have M5:=M4.mod d5 (by simp [Ne.symm hka]) (by simp [Ne.symm hkb]);have D5:Ze [a,b,k] w w5:=D4.trans (d5.mono (by simp));have r8:=Za (i:=8) K5 J;clear K4 M4 D4 d5 He Hv;go_wp2;go_ret2;exact ⟨J,M5,K5,D5⟩
theorem rok3 (hM:Zj 137 w a b s) (hk:w.heap[k]? =I (X #[U Y p0,U Y p1,U Y p2,U Y p3,U Y p4,U Y p5,U Y c,U Y9 st,U Y 3,U Y9 ve,Z V va,U Y sp,.bool tn] 287 (0,0))) (he:s.qp p4 c 2=0):
  Calls N 241 #[E (I ⟨k,0,O⟩),E (I ⟨a,0,O⟩)] w λ e w'=>e=R9 (.tuple #[.bool true,U Y 0])/\Zj 137 w' a b (s.qv p4 c 2)/\w'.heap[k]? =I (X #[U Y p0,U Y p1,U Y p2,U Y p3,U Y p4,U Y p5,U Y c,U Y9 st,U Y 4,U Y9 ve,Z V (Zq (s.qm p4 c 2).toNat),U Y (wrap64 (sp+1)),.bool tn] 287 (0,0))/\Ze [a,b,k] w w':=by
 have He:=Zh_ he;clear he;have hka:k≠a:=Zs hk hM.hd (by decide);have hkb:k≠b:=Zs hk hM.ws (by decide);obtain ⟨r0,r1,r2,r3,r4,r5,r6⟩:=Zc7g_ hk;have r8:=Za (i:=8) hk J;go_enter func241,ntmps241;go_wp2_with fail;refine (next3 hk).mono ?_;rintro e w1 ⟨rfl,hw1⟩;have hw1':=hw1.symm;subst hw1';go_upto_region 4 with fail
 go_cut [8,9] (λ A C wx=>A=U Y9 (s.qm p4 c 2)/\C=U Y (s.qp p4 c 2)/\Zj 137 wx a b (s.qv p4 c 2)/\wx.heap[k]? =I (X #[U Y p0,U Y p1,U Y p2,U Y p3,U Y p4,U Y p5,U Y c,U Y9 st,U Y 3,U Y9 ve,Z V va,U Y sp,.bool tn] 287 (0,0))/\Ze [a,b,k] w wx)
 case first=>
  go_region_held3 (λ wx=>wx.cell? ⟨k,0,O⟩=I (U Y p0)/\wx.cell? ⟨k,1,O⟩=I (U Y p1)/\wx.cell? ⟨k,2,O⟩=I (U Y p2)/\wx.cell? ⟨k,3,O⟩=I (U Y p3)/\wx.cell? ⟨k,4,O⟩=I (U Y p4)/\wx.cell? ⟨k,5,O⟩=I (U Y p5)/\wx.cell? ⟨k,6,O⟩=I (U Y c)) (first|exact ⟨r0,r1,r2,r3,r4,r5,r6⟩|exact ⟨Za K2 J,Za K2 J,Za K2 J,Za K2 J,Za K2 J,Za K2 J,Za K2 J⟩)
   (first|(go_at_call 144;refine (Uo hM.drew p0 p1 p2 p3 p4 p5 c 2 (by omega) (by omega)).mono ?_;rintro e w2 ⟨rfl,M2,d2⟩;have K2:=d2.at (k:=k) (o:=X #[U Y p0,U Y p1,U Y p2,U Y p3,U Y p4,U Y p5,U Y c,U Y9 st,U Y 3,U Y9 ve,Z V va,U Y sp,.bool tn] 287 (0,0)) hk (by simp [hka,hkb])))
  all_goals
   go_wp2_with fail;go_meet;exact ⟨J,J,M2,K2,(Zr_ _ _).drew.trans (d2.mono (by simp))⟩
 case rest=>
  obtain ⟨rfl,rfl,M3,K3,D3⟩:=hcut;clear r0 r1 r2 r3 r4 r5 r6 r8 hM hk;obtain ⟨w3,rfl⟩:∃ w3,w3=wc:=⟨_,J⟩;rw [He.out];have r11:=Za (i:=11) K3 J;have z11:=Zb (i:=11) K3;go_upto_region 8 with fail;have K4:=Zd (i:=11) (U Y (wrap64 (sp+1))) K3;simp only [List.setIfInBounds_toArray,List.set_cons_succ,List.set_cons_zero] at K4;have M4:=M3.other k 11 (U Y (wrap64 (sp+1))) (Ne.symm hka) (Ne.symm hkb);have D4:=D3.setCell ⟨k,11,O⟩ (U Y (wrap64 (sp+1))) (.inl (by simp));clear r11 z11 K3 M3 D3;generalize w3.setCell ⟨k,11,O⟩ (U Y (wrap64 (sp+1)))=w4 at *
  go_wp2_with fail;refine (end3 K4 _).mono ?_;rintro e w5 ⟨rfl,K5,d5⟩;have M5:=M4.mod d5 (by simp [Ne.symm hka]) (by simp [Ne.symm hkb]);have D5:Ze [a,b,k] w w5:=D4.trans (d5.mono (by simp));have r8:=Za (i:=8) K5 J;clear K4 M4 D4 d5 He;go_wp2;go_ret2;exact ⟨J,M5,K5,D5⟩
end
section
attribute [local go_sem] Zi
variable {a b k:Nat} {s:Zh} {w:W}
structure Yu.Inv (r:Yu):Prop where
 lo:0<=r.pa
 hi:r.pa<=4
theorem Yu.yq (r:Yu) (v:Int):(r.qz v).Inv:=by
 unfold Yu.qz;split
 ·exact ⟨by show 0<=(if r.st < v then (3:Int) else 1);split <;> omega,by show (if r.st < v then (3:Int) else 1)<=4;split <;> omega⟩
 ·split
  ·exact ⟨by show (0:Int)<=2;omega,by show (2:Int)<=4;omega⟩
  ·split
   ·exact ⟨by show 0<=(if v=r.ve then (4:Int) else 3);split <;> omega,by show (if v=r.ve then (4:Int) else 3)<=4;split <;> omega⟩
   ·exact ⟨by show (0:Int)<=4;omega,by show (4:Int)<=4;omega⟩
theorem Wk (hM:Zj 137 w a b s) (r:Yu) (hi:r.Inv) (hk:w.heap[k]? =I (.cells r.arr 287 (0,0))):
  Calls N 241 #[E (I ⟨k,0,O⟩),E (I ⟨a,0,O⟩)] w λ e w'=>e=R9 (.tuple #[.bool (r.qf s),U Y (r.err s)])/\Zj 137 w' a b (r.mem s)/\w'.heap[k]? =I (.cells (r.next s).arr 287 (0,0))/\Ze [a,b,k] w w':=by
 obtain ⟨p0,p1,p2,p3,p4,p5,c,st,pa,ve,va,sp,tn⟩:=r;obtain ⟨hlo,hhi⟩:=hi;dsimp only at hlo hhi;have hp:pa=0\/pa=1\/pa=2\/pa=3\/pa=4:=by omega
 rcases hp with rfl|rfl|rfl|rfl|rfl
 ·have e1:(Yu.mk p0 p1 p2 p3 p4 p5 c st 0 ve va sp tn).err s=s.qp p4 c 0:=J;have e4:(Yu.mk p0 p1 p2 p3 p4 p5 c st 0 ve va sp tn).mem s=s.qv p4 c 0:=J;rw [e4]
  by_cases he:s.qp p4 c 0=0
  ·have e2:(Yu.mk p0 p1 p2 p3 p4 p5 c st 0 ve va sp tn).next s=(Yu.mk p0 p1 p2 p3 p4 p5 c st 0 ve va sp tn).qz (s.qm p4 c 0):=by unfold Yu.next;rw [e1,P9 he];rfl
   have e3:(Yu.mk p0 p1 p2 p3 p4 p5 c st 0 ve va sp tn).qf s=(((Yu.mk p0 p1 p2 p3 p4 p5 c st 0 ve va sp tn).qz (s.qm p4 c 0)).pa==4):=by unfold Yu.qf;rw [e1,P9 he,e2]
   rw [e1,e2,e3,he]
   by_cases hv:st < s.qm p4 c 0
   ·have e5:(Yu.mk p0 p1 p2 p3 p4 p5 c st 0 ve va sp tn).qz (s.qm p4 c 0)=Yu.mk p0 p1 p2 p3 p4 p5 c st 3 (s.qm p4 c 0) va (wrap64 (sp+1)) tn:=by unfold Yu.qz;simp [hv]
    rw [e5];exact rok0_gt hM hk he hv
   ·have e5:(Yu.mk p0 p1 p2 p3 p4 p5 c st 0 ve va sp tn).qz (s.qm p4 c 0)=Yu.mk p0 p1 p2 p3 p4 p5 c st 1 (s.qm p4 c 0) va (wrap64 (sp+1)) tn:=by unfold Yu.qz;simp [hv]
    rw [e5];exact rok0_le hM hk he (Int.not_lt.1 hv)
  ·have e2:(Yu.mk p0 p1 p2 p3 p4 p5 c st 0 ve va sp tn).next s=(Yu.mk p0 p1 p2 p3 p4 p5 c st 0 ve va sp tn):=by unfold Yu.next;rw [e1,Q9 he]
   have e3:(Yu.mk p0 p1 p2 p3 p4 p5 c st 0 ve va sp tn).qf s=false:=by unfold Yu.qf;rw [e1,Q9 he]
   rw [e1,e2,e3];exact rbad0 hM hk (by simp [he])
 ·have e1:(Yu.mk p0 p1 p2 p3 p4 p5 c st 1 ve va sp tn).err s=s.qp p4 c 1:=J;have e4:(Yu.mk p0 p1 p2 p3 p4 p5 c st 1 ve va sp tn).mem s=s.qv p4 c 1:=J;rw [e4]
  by_cases he:s.qp p4 c 1=0
  ·have e2:(Yu.mk p0 p1 p2 p3 p4 p5 c st 1 ve va sp tn).next s=(Yu.mk p0 p1 p2 p3 p4 p5 c st 1 ve va sp tn).qz (s.qm p4 c 1):=by unfold Yu.next;rw [e1,P9 he];rfl
   have e3:(Yu.mk p0 p1 p2 p3 p4 p5 c st 1 ve va sp tn).qf s=(((Yu.mk p0 p1 p2 p3 p4 p5 c st 1 ve va sp tn).qz (s.qm p4 c 1)).pa==4):=by unfold Yu.qf;rw [e1,P9 he,e2]
   rw [e1,e2,e3,he];have e5:(Yu.mk p0 p1 p2 p3 p4 p5 c st 1 ve va sp tn).qz (s.qm p4 c 1)=Yu.mk p0 p1 p2 p3 p4 p5 c st 2 ve (Zq (s.qm p4 c 1).toNat) (wrap64 (sp+1)) tn:=by unfold Yu.qz;simp
   rw [e5];exact rok1 hM hk he
  ·have e2:(Yu.mk p0 p1 p2 p3 p4 p5 c st 1 ve va sp tn).next s=(Yu.mk p0 p1 p2 p3 p4 p5 c st 1 ve va sp tn):=by unfold Yu.next;rw [e1,Q9 he]
   have e3:(Yu.mk p0 p1 p2 p3 p4 p5 c st 1 ve va sp tn).qf s=false:=by unfold Yu.qf;rw [e1,Q9 he]
   rw [e1,e2,e3];exact rbad1 hM hk (by simp [he])
 ·have e1:(Yu.mk p0 p1 p2 p3 p4 p5 c st 2 ve va sp tn).err s=s.qp p4 c 0:=J;have e4:(Yu.mk p0 p1 p2 p3 p4 p5 c st 2 ve va sp tn).mem s=s.qv p4 c 0:=J;rw [e4]
  by_cases he:s.qp p4 c 0=0
  ·have e2:(Yu.mk p0 p1 p2 p3 p4 p5 c st 2 ve va sp tn).next s=(Yu.mk p0 p1 p2 p3 p4 p5 c st 2 ve va sp tn).qz (s.qm p4 c 0):=by unfold Yu.next;rw [e1,P9 he];rfl
   have e3:(Yu.mk p0 p1 p2 p3 p4 p5 c st 2 ve va sp tn).qf s=(((Yu.mk p0 p1 p2 p3 p4 p5 c st 2 ve va sp tn).qz (s.qm p4 c 0)).pa==4):=by unfold Yu.qf;rw [e1,P9 he,e2]
   rw [e1,e2,e3,he]
   by_cases hv:s.qm p4 c 0=ve
   ·have e5:(Yu.mk p0 p1 p2 p3 p4 p5 c st 2 ve va sp tn).qz (s.qm p4 c 0)=Yu.mk p0 p1 p2 p3 p4 p5 c st 4 ve va (wrap64 (sp+1)) false:=by unfold Yu.qz;simp [hv]
    rw [e5];exact rok2_eq hM hk he (by simp [hv])
   ·have e5:(Yu.mk p0 p1 p2 p3 p4 p5 c st 2 ve va sp tn).qz (s.qm p4 c 0)=Yu.mk p0 p1 p2 p3 p4 p5 c st 3 ve va (wrap64 (sp+1)) true:=by unfold Yu.qz;simp [hv]
    rw [e5];exact rok2_ne hM hk he (by simp [hv])
  ·have e2:(Yu.mk p0 p1 p2 p3 p4 p5 c st 2 ve va sp tn).next s=(Yu.mk p0 p1 p2 p3 p4 p5 c st 2 ve va sp tn):=by unfold Yu.next;rw [e1,Q9 he]
   have e3:(Yu.mk p0 p1 p2 p3 p4 p5 c st 2 ve va sp tn).qf s=false:=by unfold Yu.qf;rw [e1,Q9 he]
   rw [e1,e2,e3];exact rbad2 hM hk (by simp [he])
 ·have e1:(Yu.mk p0 p1 p2 p3 p4 p5 c st 3 ve va sp tn).err s=s.qp p4 c 2:=J;have e4:(Yu.mk p0 p1 p2 p3 p4 p5 c st 3 ve va sp tn).mem s=s.qv p4 c 2:=J;rw [e4]
  by_cases he:s.qp p4 c 2=0
  ·have e2:(Yu.mk p0 p1 p2 p3 p4 p5 c st 3 ve va sp tn).next s=(Yu.mk p0 p1 p2 p3 p4 p5 c st 3 ve va sp tn).qz (s.qm p4 c 2):=by unfold Yu.next;rw [e1,P9 he];rfl
   have e3:(Yu.mk p0 p1 p2 p3 p4 p5 c st 3 ve va sp tn).qf s=(((Yu.mk p0 p1 p2 p3 p4 p5 c st 3 ve va sp tn).qz (s.qm p4 c 2)).pa==4):=by unfold Yu.qf;rw [e1,P9 he,e2]
   rw [e1,e2,e3,he];have e5:(Yu.mk p0 p1 p2 p3 p4 p5 c st 3 ve va sp tn).qz (s.qm p4 c 2)=Yu.mk p0 p1 p2 p3 p4 p5 c st 4 ve (Zq (s.qm p4 c 2).toNat) (wrap64 (sp+1)) tn:=by unfold Yu.qz;simp
   rw [e5];exact rok3 hM hk he
  ·have e2:(Yu.mk p0 p1 p2 p3 p4 p5 c st 3 ve va sp tn).next s=(Yu.mk p0 p1 p2 p3 p4 p5 c st 3 ve va sp tn):=by unfold Yu.next;rw [e1,Q9 he]
   have e3:(Yu.mk p0 p1 p2 p3 p4 p5 c st 3 ve va sp tn).qf s=false:=by unfold Yu.qf;rw [e1,Q9 he]
   rw [e1,e2,e3];exact rbad3 hM hk (by simp [he])
 ·have e1:(Yu.mk p0 p1 p2 p3 p4 p5 c st 4 ve va sp tn).err s=3:=J;have e2:(Yu.mk p0 p1 p2 p3 p4 p5 c st 4 ve va sp tn).next s=(Yu.mk p0 p1 p2 p3 p4 p5 c st 4 ve va sp tn):=by unfold Yu.next;rw [e1,Q9 (by decide)]
  have e3:(Yu.mk p0 p1 p2 p3 p4 p5 c st 4 ve va sp tn).qf s=false:=by unfold Yu.qf;rw [e1,Q9 (by decide)]
  have e4:(Yu.mk p0 p1 p2 p3 p4 p5 c st 4 ve va sp tn).mem s=s:=J;rw [e1,e2,e3,e4];exact (rstep4 hk).mono λ e w' ⟨he,hw⟩=>⟨he,hw ▸ hM,hw ▸ hk,hw ▸ Zr_ _ _⟩
def Yu.value (r:Yu):Nat:=if r.pa=4 then r.va else 0
theorem C9 (r:Yu) (hk:w.heap[k]? =I (.cells r.arr 287 (0,0))):Calls N 242 #[E (I ⟨k,0,O⟩)] w λ e w'=>e=R9 (Z V r.value)/\w'=w:=by
 have r8:w.cell? ⟨k,8,O⟩=I (U Y r.pa):=Za hk J;have r10:w.cell? ⟨k,10,O⟩=I (Z V r.va):=Za hk J
 by_cases h:r.pa=4
 ·have hv:r.value=r.va:=P9 h;have hb:(r.pa !=4)=false:=by simp [h]
  rw [hv];clear h hv;go_enter func242,ntmps242;go_wp2;go_ret;exact ⟨J,J⟩
 ·have hv:r.value=0:=Q9 h;have hb:(r.pa !=4)=true:=by simp [h]
  rw [hv];clear h hv;go_enter func242,ntmps242;go_wp2;go_ret;exact ⟨J,J⟩
end
end Go.Proofs.YtkhonmhnchdpkaaGreat

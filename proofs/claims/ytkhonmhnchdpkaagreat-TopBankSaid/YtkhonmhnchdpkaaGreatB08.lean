/- A part of the proof; no condition. -/
import Derived.Test.YtkhonmhnchdpkaaGreatB06
import Derived.WalkMore
import Derived.ScopeJumps
set_option maxRecDepth 100000
set_option maxHeartbeats 40000000
namespace Go.Proofs.YtkhonmhnchdpkaaGreat
open Go.RowKit _root_.Go.Proofs.Tryz
open Go renaming World→W
open Value renaming int→U,pointer→E,agg→A9
open IntKind renaming i64→Y,u64→Y9
open Obj renaming cells→X
open Option renaming some→I,none→O
open Ending renaming returned→R9
open _root_.Go.Proofs.Tryz renaming prog→N
section
def Yv (p3 th:Int):Int:=if th < 0\/8<=th then 100 else if p3 < 0\/4096 < p3 then 30 else 0
def V6 (p3 th:Int):Int:=if Yv p3 th=0 then p3+th else 0
theorem Fq {p3 th:Int} (h:th < 0\/8<=th):Yv p3 th=100:=P9 h
theorem Lg {p3 th:Int} (h0:0<=th) (h8:th < 8) (h:p3 < 0\/4096 < p3):Yv p3 th=30:=by unfold Yv;rw [Q9 (by omega),P9 h]
theorem Gb {p3 th:Int} (h0:0<=th) (h8:th < 8) (h:0<=p3) (h':p3<=4096):Yv p3 th=0:=by unfold Yv;rw [Q9 (by omega),Q9 (by omega)]
theorem Uf (p3 th:Int):((th < 0\/8<=th)/\Yv p3 th=100)\/(0<=th/\th < 8/\(p3 < 0\/4096 < p3)/\Yv p3 th=30)\/(0<=th/\th < 8/\0<=p3/\p3<=4096/\Yv p3 th=0):=by
 by_cases h:th < 0\/8<=th
 ·exact .inl ⟨h,Fq h⟩
 ·by_cases k:p3 < 0\/4096 < p3
  ·exact .inr (.inl ⟨by omega,by omega,k,Lg (by omega) (by omega) k⟩)
  ·exact .inr (.inr ⟨by omega,by omega,by omega,by omega,Gb (by omega) (by omega) (by omega) (by omega)⟩)
theorem Nt {p3 th:Int} (h:Yv p3 th=0):0<=th/\th < 8/\0<=p3/\p3<=4096:=by
 rcases Uf p3 th with ⟨_,e⟩|⟨_,_,_,e⟩|⟨a,b,c,d,_⟩
 ·omega
 ·omega
 ·exact ⟨a,b,c,d⟩
theorem W3 (s:Zh) {i:Int} (h:s.acc i≠0):s.xv i=0:=Q9 h
theorem Ev (p0 p1 p2 p3 p4 p5 th:Int) (h:th < 0) (w:W):
  Calls N 146 #[A9 #[U Y p0,U Y p1,U Y p2,U Y p3,U Y p4,U Y p5],U Y th] w λ e w'=>e=R9 (.tuple #[U Y 0,U Y 100])/\w'=w.alloc (X #[U Y p0,U Y p1,U Y p2,U Y p3,U Y p4,U Y p5] 74):=by
 go_enter func146,ntmps146;go_wp2;go_ret2;exact ⟨J,J⟩
theorem Eu (p0 p1 p2 p3 p4 p5 th:Int) (h:8<=th) (w:W):
  Calls N 146 #[A9 #[U Y p0,U Y p1,U Y p2,U Y p3,U Y p4,U Y p5],U Y th] w λ e w'=>e=R9 (.tuple #[U Y 0,U Y 100])/\w'=w.alloc (X #[U Y p0,U Y p1,U Y p2,U Y p3,U Y p4,U Y p5] 74):=by
 go_enter func146,ntmps146;go_wp2;go_ret2;exact ⟨J,J⟩
theorem Et (p0 p1 p2 p3 p4 p5 th:Int) (h0:0<=th) (h8:th < 8) (h:p3 < 0) (w:W):
  Calls N 146 #[A9 #[U Y p0,U Y p1,U Y p2,U Y p3,U Y p4,U Y p5],U Y th] w λ e w'=>e=R9 (.tuple #[U Y 0,U Y 30])/\w'=w.alloc (X #[U Y p0,U Y p1,U Y p2,U Y p3,U Y p4,U Y p5] 74):=by
 go_enter func146,ntmps146;go_wp2;go_ret2;exact ⟨J,J⟩
theorem Es (p0 p1 p2 p3 p4 p5 th:Int) (h0:0<=th) (h8:th < 8) (h:4096 < p3) (w:W):
  Calls N 146 #[A9 #[U Y p0,U Y p1,U Y p2,U Y p3,U Y p4,U Y p5],U Y th] w λ e w'=>e=R9 (.tuple #[U Y 0,U Y 30])/\w'=w.alloc (X #[U Y p0,U Y p1,U Y p2,U Y p3,U Y p4,U Y p5] 74):=by
 go_enter func146,ntmps146;go_wp2;go_ret2;exact ⟨J,J⟩
theorem Er (p0 p1 p2 p3 p4 p5 th:Int) (h0:0<=th) (h8:th < 8) (h:0<=p3) (h':p3<=4096) (w:W):
  Calls N 146 #[A9 #[U Y p0,U Y p1,U Y p2,U Y p3,U Y p4,U Y p5],U Y th] w λ e w'=>e=R9 (.tuple #[U Y (p3+th),U Y 0])/\w'=w.alloc (X #[U Y p0,U Y p1,U Y p2,U Y p3,U Y p4,U Y p5] 74):=by
 go_enter func146,ntmps146;go_wp2;go_ret2;exact ⟨J,J⟩
theorem Qq (p0 p1 p2 p3 p4 p5 th:Int) (w:W):
  Calls N 146 #[A9 #[U Y p0,U Y p1,U Y p2,U Y p3,U Y p4,U Y p5],U Y th] w λ e w'=>e=R9 (.tuple #[U Y (V6 p3 th),U Y (Yv p3 th)])/\w'=w.alloc (X #[U Y p0,U Y p1,U Y p2,U Y p3,U Y p4,U Y p5] 74):=by
 rcases Uf p3 th with ⟨h,he⟩|⟨h0,h8,h,he⟩|⟨h0,h8,h,h',he⟩
 ·have ha:V6 p3 th=0:=by unfold V6;rw [he];rfl
  rw [ha,he];rcases h with h|h
  ·exact Ev _ _ _ _ _ _ _ h w
  ·exact Eu _ _ _ _ _ _ _ h w
 ·have ha:V6 p3 th=0:=by unfold V6;rw [he];rfl
  rw [ha,he];rcases h with h|h
  ·exact Et _ _ _ _ _ _ _ h0 h8 h w
  ·exact Es _ _ _ _ _ _ _ h0 h8 h w
 ·have ha:V6 p3 th=p3+th:=by unfold V6;rw [he];rfl
  rw [ha,he];exact Er _ _ _ _ _ _ _ h0 h8 h h' w
end
section
def Zh.xr (s:Zh) (p3 th:Int):Int:=if Yv p3 th=0 then s.acc (p3+th) else Yv p3 th
def Zh.leave (s:Zh) (p3 th:Int):Zh:=if Yv p3 th=0 then s.store (p3+th) 0 else s
theorem stamp_c {a b:Nat} {s:Zh} {w:W} (hM:Zj 137 w a b s) (p0 p1 p2 p3 p4 p5:Int):
  Calls N 107 #[E (I ⟨a,0,O⟩),A9 #[U Y p0,U Y p1,U Y p2,U Y p3,U Y p4,U Y p5]] w λ e w'=>e=R9 (.tuple #[U Y9 (s.xv p2),U Y (s.acc p2)])/\Zj 137 w' a b (s.load p2)/\Ze [a,b] w w':=by
 have ha:=hM.jf;have hb:=hM.je;go_enter func107,ntmps107;go_wp2_with (go_at_call 138;refine (Un (hM.alloc _) _).mono ?_;rintro e w1 ⟨rfl,M1,d1⟩);go_ret2;exact ⟨J,M1,Ze.then ((by repeat (first|with_reducible exact Zr_ _ _|with_reducible assumption|with_reducible refine Ze.alloc ?_ _)):Ze [a,b] w _) d1 (by simp)⟩
theorem Eo {a b:Nat} {s:Zh} {w:W} (hM:Zj 137 w a b s) (p0 p1 p2 p3 p4 p5 v:Int):
  Calls N 117 #[E (I ⟨a,0,O⟩),A9 #[U Y p0,U Y p1,U Y p2,U Y p3,U Y p4,U Y p5],U Y9 v] w λ e w'=>e=R9 (U Y (s.acc p2))/\Zj 137 w' a b (s.store p2 v)/\Ze [a,b] w w':=by
 have ha:=hM.jf;have hb:=hM.je;go_enter func117,ntmps117;go_wp2_with (go_at_call 148;refine (Vo (hM.alloc _) _ _).mono ?_;rintro e w1 ⟨rfl,M1,d1⟩);go_ret;exact ⟨J,M1,Ze.then ((by repeat (first|with_reducible exact Zr_ _ _|with_reducible assumption|with_reducible refine Ze.alloc ?_ _)):Ze [a,b] w _) d1 (by simp)⟩
theorem leave_c {a b:Nat} {s:Zh} {w:W} (hM:Zj 137 w a b s) (p0 p1 p2 p3 p4 p5 th:Int):
  Calls N 239 #[E (I ⟨a,0,O⟩),A9 #[U Y p0,U Y p1,U Y p2,U Y p3,U Y p4,U Y p5],U Y th] w λ e w'=>e=R9 (U Y (s.xr p3 th))/\Zj 137 w' a b (s.leave p3 th)/\Ze [a,b] w w':=by
 have ha:=hM.jf;have hb:=hM.je
 by_cases hp:Yv p3 th=0
 ·have hat:V6 p3 th=p3+th:=P9 hp;go_enter func239,ntmps239;go_wp2_with (first|(go_at_call 146;refine (Qq _ _ _ _ _ _ _ _).mono ?_;rintro e w1 ⟨rfl,rfl⟩)|(go_at_call 148;refine (Vo ((hM.alloc _).alloc _) _ _).mono ?_;rintro e w1 ⟨rfl,M1,d1⟩))
  go_ret;exact ⟨by simp [Zh.xr,hp],by simpa [Zh.leave,hp] using M1,Ze.then ((by repeat (first|with_reducible exact Zr_ _ _|with_reducible assumption|with_reducible refine Ze.alloc ?_ _)):Ze [a,b] w _) d1 (by simp)⟩
 ·have hn:(Yv p3 th !=0)=true:=by simp [hp]
  have Hp:=Zh_ hp;clear hp;go_enter func239,ntmps239;go_wp2_with (go_at_call 146;refine (Qq _ _ _ _ _ _ _ _).mono ?_;rintro e w1 ⟨rfl,rfl⟩);go_ret;have hp:=Hp.out;exact ⟨by simp [Zh.xr,hp],by simpa [Zh.leave,hp] using (hM.alloc _).alloc _,(by repeat (first|with_reducible exact Zr_ _ _|with_reducible assumption|with_reducible refine Ze.alloc ?_ _))⟩
end
section
theorem com3_c {a b k:Nat} {s:Zh} {w:W} (hM:Zj 137 w a b s) (p0 p1 p2 p3 p4 p5 th cl st:Int) (hk:w.heap[k]? =I (X #[U Y p0,U Y p1,U Y p2,U Y p3,U Y p4,U Y p5,U Y th,U Y 3,U Y9 cl,U Y9 st] 189 (0,0))):
  Calls N 237 #[E (I ⟨k,0,O⟩),E (I ⟨a,0,O⟩)] w λ e w'=>e=R9 (.tuple #[.bool false,U Y 3])/\Zj 137 w' a b (s)/\w'.heap[k]? =I (X #[U Y p0,U Y p1,U Y p2,U Y p3,U Y p4,U Y p5,U Y th,U Y 3,U Y9 cl,U Y9 st] 189 (0,0))/\Ze [a,b,k] w w':=by
 have ha:=hM.jf;have hb:=hM.je;have hkl:=B9 hk;have hka:k≠a:=Zs hk hM.hd (by decide);have hkb:k≠b:=Zs hk hM.ws (by decide);obtain ⟨x0,x1,x2,x3,x4,x5,x6,x7,x8,x9⟩:=Zc10a_ hk;have xf7:=Zb (i:=7) hk;have xf8:=Zb (i:=8) hk;have xf9:=Zb (i:=9) hk;go_enter func237,ntmps237;go_wp2;go_ret2;exact ⟨J,hM,hk,Zr_ _ _⟩
theorem comT_c {a b k:Nat} {s:Zh} {w:W} (hM:Zj 137 w a b s) (p0 p1 p2 p3 p4 p5 th cl st:Int) (n:Int) (hk:w.heap[k]? =I (X #[U Y p0,U Y p1,U Y p2,U Y p3,U Y p4,U Y p5,U Y th,U Y n,U Y9 cl,U Y9 st] 189 (0,0))) (hn3:(n==3)=false) (he:Yv p3 th=100):
  Calls N 237 #[E (I ⟨k,0,O⟩),E (I ⟨a,0,O⟩)] w λ e w'=>e=R9 (.tuple #[.bool false,U Y 100])/\Zj 137 w' a b (s)/\w'.heap[k]? =I (X #[U Y p0,U Y p1,U Y p2,U Y p3,U Y p4,U Y p5,U Y th,U Y n,U Y9 cl,U Y9 st] 189 (0,0))/\Ze [a,b,k] w w':=by
 have ha:=hM.jf;have hb:=hM.je;have hkl:=B9 hk;have hka:k≠a:=Zs hk hM.hd (by decide);have hkb:k≠b:=Zs hk hM.ws (by decide);obtain ⟨x0,x1,x2,x3,x4,x5,x6,x7,x8,x9⟩:=Zc10a_ hk;have xf7:=Zb (i:=7) hk;have xf8:=Zb (i:=8) hk;have xf9:=Zb (i:=9) hk;have He:=Zh_ he;clear he;go_enter func237,ntmps237;go_upto_region 3 with fail
 go_cut [6,7] (λ x y wx=>x=U Y (V6 p3 th)/\y=U Y (Yv p3 th)/\Zj 137 wx a b s/\wx.heap[k]? =I (X #[U Y p0,U Y p1,U Y p2,U Y p3,U Y p4,U Y p5,U Y th,U Y n,U Y9 cl,U Y9 st] 189 (0,0))/\Ze [] w wx)
 case first=>
  go_region_with (go_at_call 146;refine (Qq _ _ _ _ _ _ _ _).mono ?_;rintro e w1 ⟨rfl,rfl⟩)
  all_goals
   go_wp2_with fail;go_meet;exact ⟨J,J,by repeat (first|exact hM|refine Zj.drew ?_|refine Zj.alloc ?_ _),Zf _ hk,(by repeat (first|with_reducible exact Zr_ _ _|with_reducible assumption|with_reducible refine Ze.drew ?_|with_reducible refine Ze.alloc ?_ _|with_reducible refine Ze.setCell ?_ _ _ (.inl (by simp))))⟩
 case rest=>
  obtain ⟨rfl,rfl,M1,K1,D1⟩:=hcut;clear x0 x1 x2 x3 x4 x5 x6 x7 x8 x9 xf7 xf8 xf9;rw [He.out];go_wp2;go_ret2;exact ⟨J,M1,K1,D1.qj _⟩
theorem com0ok_c {a b k:Nat} {s:Zh} {w:W} (hM:Zj 137 w a b s) (p0 p1 p2 p3 p4 p5 th cl st:Int) (hk:w.heap[k]? =I (X #[U Y p0,U Y p1,U Y p2,U Y p3,U Y p4,U Y p5,U Y th,U Y 0,U Y9 cl,U Y9 st] 189 (0,0))) (hq:(Yv p3 th==100)=false) (h0:s.acc p2=0):
  Calls N 237 #[E (I ⟨k,0,O⟩),E (I ⟨a,0,O⟩)] w λ e w'=>e=R9 (.tuple #[.bool false,U Y 0])/\Zj 137 w' a b (s.load p2)/\w'.heap[k]? =I (X #[U Y p0,U Y p1,U Y p2,U Y p3,U Y p4,U Y p5,U Y th,U Y 1,U Y9 (s.xv p2),U Y9 st] 189 (0,0))/\Ze [a,b,k] w w':=by
 have ha:=hM.jf;have hb:=hM.je;have hkl:=B9 hk;have hka:k≠a:=Zs hk hM.hd (by decide);have hkb:k≠b:=Zs hk hM.ws (by decide);obtain ⟨x0,x1,x2,x3,x4,x5,x6,x7,x8,x9⟩:=Zc10a_ hk;have xf7:=Zb (i:=7) hk;have xf8:=Zb (i:=8) hk;have xf9:=Zb (i:=9) hk;go_enter func237,ntmps237;go_upto_region 3 with fail
 go_cut [6,7] (λ x y wx=>x=U Y (V6 p3 th)/\y=U Y (Yv p3 th)/\Zj 137 wx a b s/\wx.heap[k]? =I (X #[U Y p0,U Y p1,U Y p2,U Y p3,U Y p4,U Y p5,U Y th,U Y 0,U Y9 cl,U Y9 st] 189 (0,0))/\Ze [] w wx)
 case first=>
  go_region_with (go_at_call 146;refine (Qq _ _ _ _ _ _ _ _).mono ?_;rintro e w1 ⟨rfl,rfl⟩)
  all_goals
   go_wp2_with fail;go_meet;exact ⟨J,J,by repeat (first|exact hM|refine Zj.drew ?_|refine Zj.alloc ?_ _),Zf _ hk,(by repeat (first|with_reducible exact Zr_ _ _|with_reducible assumption|with_reducible refine Ze.drew ?_|with_reducible refine Ze.alloc ?_ _|with_reducible refine Ze.setCell ?_ _ _ (.inl (by simp))))⟩
 case rest=>
  obtain ⟨rfl,rfl,M1,K1,D1⟩:=hcut;clear x0 x1 x2 x3 x4 x5 x6 x7 x8 x9 xf7 xf8 xf9;obtain ⟨y0,y1,y2,y3,y4,y5,y6,y7,y8,y9⟩:=Zc10a_ K1;have yf7:=Zb (i:=7) K1;have yf8:=Zb (i:=8) K1;have yf9:=Zb (i:=9) K1;go_wp2_with fail;refine (Un M1 _).mono ?_;rintro e w2 ⟨rfl,M2,d2⟩;have K2:=d2.at K1 (by simp;omega);have HD:Hid (Ze [a,b,k] w w2):=(D1.qj _).then d2 (by simp)
  have HM:=Zh_ M2;clear y0 y1 y2 y3 y4 y5 y6 y7 y8 y9 yf7 yf8 yf9 D1 d2 M1 M2 K1;obtain ⟨z0,z1,z2,z3,z4,z5,z6,z7,z8,z9⟩:=Zc10a_ K2;have zf7:=Zb (i:=7) K2;have zf8:=Zb (i:=8) K2;have zf9:=Zb (i:=9) K2;go_wp2;go_ret2;exact ⟨J,((HM.out.other _ _ _ (Ne.symm hka) (Ne.symm hkb)).other _ _ _ (Ne.symm hka) (Ne.symm hkb)),Zd _ (Zd _ K2),Ze.trans HD.out (by repeat (first|with_reducible exact Zr_ _ _|with_reducible refine Ze.setCell ?_ _ _ (.inl (by simp))))⟩
theorem Iq {a b k:Nat} {s:Zh} {w:W} (hM:Zj 137 w a b s) (p0 p1 p2 p3 p4 p5 th cl st:Int) (hk:w.heap[k]? =I (X #[U Y p0,U Y p1,U Y p2,U Y p3,U Y p4,U Y p5,U Y th,U Y 0,U Y9 cl,U Y9 st] 189 (0,0))) (hq:(Yv p3 th==100)=false) (h0:(s.acc p2 !=0)=true):
  Calls N 237 #[E (I ⟨k,0,O⟩),E (I ⟨a,0,O⟩)] w λ e w'=>e=R9 (.tuple #[.bool false,U Y (s.acc p2)])/\Zj 137 w' a b (s.load p2)/\w'.heap[k]? =I (X #[U Y p0,U Y p1,U Y p2,U Y p3,U Y p4,U Y p5,U Y th,U Y 0,U Y9 (s.xv p2),U Y9 st] 189 (0,0))/\Ze [a,b,k] w w':=by
 have ha:=hM.jf;have hb:=hM.je;have hkl:=B9 hk;have hka:k≠a:=Zs hk hM.hd (by decide);have hkb:k≠b:=Zs hk hM.ws (by decide);obtain ⟨x0,x1,x2,x3,x4,x5,x6,x7,x8,x9⟩:=Zc10a_ hk;have xf7:=Zb (i:=7) hk;have xf8:=Zb (i:=8) hk;have xf9:=Zb (i:=9) hk;go_enter func237,ntmps237;go_upto_region 3 with fail
 go_cut [6,7] (λ x y wx=>x=U Y (V6 p3 th)/\y=U Y (Yv p3 th)/\Zj 137 wx a b s/\wx.heap[k]? =I (X #[U Y p0,U Y p1,U Y p2,U Y p3,U Y p4,U Y p5,U Y th,U Y 0,U Y9 cl,U Y9 st] 189 (0,0))/\Ze [] w wx)
 case first=>
  go_region_with (go_at_call 146;refine (Qq _ _ _ _ _ _ _ _).mono ?_;rintro e w1 ⟨rfl,rfl⟩)
  all_goals
   go_wp2_with fail;go_meet;exact ⟨J,J,by repeat (first|exact hM|refine Zj.drew ?_|refine Zj.alloc ?_ _),Zf _ hk,(by repeat (first|with_reducible exact Zr_ _ _|with_reducible assumption|with_reducible refine Ze.drew ?_|with_reducible refine Ze.alloc ?_ _|with_reducible refine Ze.setCell ?_ _ _ (.inl (by simp))))⟩
 case rest=>
  obtain ⟨rfl,rfl,M1,K1,D1⟩:=hcut;clear x0 x1 x2 x3 x4 x5 x6 x7 x8 x9 xf7 xf8 xf9;obtain ⟨y0,y1,y2,y3,y4,y5,y6,y7,y8,y9⟩:=Zc10a_ K1;have yf7:=Zb (i:=7) K1;have yf8:=Zb (i:=8) K1;have yf9:=Zb (i:=9) K1;go_wp2_with fail;refine (Un M1 _).mono ?_;rintro e w2 ⟨rfl,M2,d2⟩;have K2:=d2.at K1 (by simp;omega);have HD:Hid (Ze [a,b,k] w w2):=(D1.qj _).then d2 (by simp)
  have HM:=Zh_ M2;clear y0 y1 y2 y3 y4 y5 y6 y7 y8 y9 yf7 yf8 yf9 D1 d2 M1 M2 K1;obtain ⟨z0,z1,z2,z3,z4,z5,z6,z7,z8,z9⟩:=Zc10a_ K2;have zf7:=Zb (i:=7) K2;have zf8:=Zb (i:=8) K2;have zf9:=Zb (i:=9) K2;go_wp2;go_ret2;exact ⟨J,(HM.out.other _ _ _ (Ne.symm hka) (Ne.symm hkb)),Zd _ K2,Ze.trans HD.out (by repeat (first|with_reducible exact Zr_ _ _|with_reducible refine Ze.setCell ?_ _ _ (.inl (by simp))))⟩
theorem com2ok_c {a b k:Nat} {s:Zh} {w:W} (hM:Zj 137 w a b s) (p0 p1 p2 p3 p4 p5 th cl st:Int) (hk:w.heap[k]? =I (X #[U Y p0,U Y p1,U Y p2,U Y p3,U Y p4,U Y p5,U Y th,U Y 2,U Y9 cl,U Y9 st] 189 (0,0))) (hq:(Yv p3 th==100)=false) (h0:s.acc p2=0):
  Calls N 237 #[E (I ⟨k,0,O⟩),E (I ⟨a,0,O⟩)] w λ e w'=>e=R9 (.tuple #[.bool true,U Y 0])/\Zj 137 w' a b (s.load p2)/\w'.heap[k]? =I (X #[U Y p0,U Y p1,U Y p2,U Y p3,U Y p4,U Y p5,U Y th,U Y 3,U Y9 cl,U Y9 (s.xv p2)] 189 (0,0))/\Ze [a,b,k] w w':=by
 have ha:=hM.jf;have hb:=hM.je;have hkl:=B9 hk;have hka:k≠a:=Zs hk hM.hd (by decide);have hkb:k≠b:=Zs hk hM.ws (by decide);obtain ⟨x0,x1,x2,x3,x4,x5,x6,x7,x8,x9⟩:=Zc10a_ hk;have xf7:=Zb (i:=7) hk;have xf8:=Zb (i:=8) hk;have xf9:=Zb (i:=9) hk;go_enter func237,ntmps237;go_upto_region 3 with fail
 go_cut [6,7] (λ x y wx=>x=U Y (V6 p3 th)/\y=U Y (Yv p3 th)/\Zj 137 wx a b s/\wx.heap[k]? =I (X #[U Y p0,U Y p1,U Y p2,U Y p3,U Y p4,U Y p5,U Y th,U Y 2,U Y9 cl,U Y9 st] 189 (0,0))/\Ze [] w wx)
 case first=>
  go_region_with (go_at_call 146;refine (Qq _ _ _ _ _ _ _ _).mono ?_;rintro e w1 ⟨rfl,rfl⟩)
  all_goals
   go_wp2_with fail;go_meet;exact ⟨J,J,by repeat (first|exact hM|refine Zj.drew ?_|refine Zj.alloc ?_ _),Zf _ hk,(by repeat (first|with_reducible exact Zr_ _ _|with_reducible assumption|with_reducible refine Ze.drew ?_|with_reducible refine Ze.alloc ?_ _|with_reducible refine Ze.setCell ?_ _ _ (.inl (by simp))))⟩
 case rest=>
  obtain ⟨rfl,rfl,M1,K1,D1⟩:=hcut;clear x0 x1 x2 x3 x4 x5 x6 x7 x8 x9 xf7 xf8 xf9;obtain ⟨y0,y1,y2,y3,y4,y5,y6,y7,y8,y9⟩:=Zc10a_ K1;have yf7:=Zb (i:=7) K1;have yf8:=Zb (i:=8) K1;have yf9:=Zb (i:=9) K1;go_wp2_with fail;refine (Un M1 _).mono ?_;rintro e w2 ⟨rfl,M2,d2⟩;have K2:=d2.at K1 (by simp;omega);have HD:Hid (Ze [a,b,k] w w2):=(D1.qj _).then d2 (by simp)
  have HM:=Zh_ M2;clear y0 y1 y2 y3 y4 y5 y6 y7 y8 y9 yf7 yf8 yf9 D1 d2 M1 M2 K1;obtain ⟨z0,z1,z2,z3,z4,z5,z6,z7,z8,z9⟩:=Zc10a_ K2;have zf7:=Zb (i:=7) K2;have zf8:=Zb (i:=8) K2;have zf9:=Zb (i:=9) K2;go_wp2;go_ret2;exact ⟨J,((HM.out.other _ _ _ (Ne.symm hka) (Ne.symm hkb)).other _ _ _ (Ne.symm hka) (Ne.symm hkb)),Zd _ (Zd _ K2),Ze.trans HD.out (by repeat (first|with_reducible exact Zr_ _ _|with_reducible refine Ze.setCell ?_ _ _ (.inl (by simp))))⟩
theorem Io {a b k:Nat} {s:Zh} {w:W} (hM:Zj 137 w a b s) (p0 p1 p2 p3 p4 p5 th cl st:Int) (hk:w.heap[k]? =I (X #[U Y p0,U Y p1,U Y p2,U Y p3,U Y p4,U Y p5,U Y th,U Y 2,U Y9 cl,U Y9 st] 189 (0,0))) (hq:(Yv p3 th==100)=false) (h0:(s.acc p2 !=0)=true):
  Calls N 237 #[E (I ⟨k,0,O⟩),E (I ⟨a,0,O⟩)] w λ e w'=>e=R9 (.tuple #[.bool false,U Y (s.acc p2)])/\Zj 137 w' a b (s.load p2)/\w'.heap[k]? =I (X #[U Y p0,U Y p1,U Y p2,U Y p3,U Y p4,U Y p5,U Y th,U Y 2,U Y9 cl,U Y9 (s.xv p2)] 189 (0,0))/\Ze [a,b,k] w w':=by
 have ha:=hM.jf;have hb:=hM.je;have hkl:=B9 hk;have hka:k≠a:=Zs hk hM.hd (by decide);have hkb:k≠b:=Zs hk hM.ws (by decide);obtain ⟨x0,x1,x2,x3,x4,x5,x6,x7,x8,x9⟩:=Zc10a_ hk;have xf7:=Zb (i:=7) hk;have xf8:=Zb (i:=8) hk;have xf9:=Zb (i:=9) hk;go_enter func237,ntmps237;go_upto_region 3 with fail
 go_cut [6,7] (λ x y wx=>x=U Y (V6 p3 th)/\y=U Y (Yv p3 th)/\Zj 137 wx a b s/\wx.heap[k]? =I (X #[U Y p0,U Y p1,U Y p2,U Y p3,U Y p4,U Y p5,U Y th,U Y 2,U Y9 cl,U Y9 st] 189 (0,0))/\Ze [] w wx)
 case first=>
  go_region_with (go_at_call 146;refine (Qq _ _ _ _ _ _ _ _).mono ?_;rintro e w1 ⟨rfl,rfl⟩)
  all_goals
   go_wp2_with fail;go_meet;exact ⟨J,J,by repeat (first|exact hM|refine Zj.drew ?_|refine Zj.alloc ?_ _),Zf _ hk,(by repeat (first|with_reducible exact Zr_ _ _|with_reducible assumption|with_reducible refine Ze.drew ?_|with_reducible refine Ze.alloc ?_ _|with_reducible refine Ze.setCell ?_ _ _ (.inl (by simp))))⟩
 case rest=>
  obtain ⟨rfl,rfl,M1,K1,D1⟩:=hcut;clear x0 x1 x2 x3 x4 x5 x6 x7 x8 x9 xf7 xf8 xf9;obtain ⟨y0,y1,y2,y3,y4,y5,y6,y7,y8,y9⟩:=Zc10a_ K1;have yf7:=Zb (i:=7) K1;have yf8:=Zb (i:=8) K1;have yf9:=Zb (i:=9) K1;go_wp2_with fail;refine (Un M1 _).mono ?_;rintro e w2 ⟨rfl,M2,d2⟩;have K2:=d2.at K1 (by simp;omega);have HD:Hid (Ze [a,b,k] w w2):=(D1.qj _).then d2 (by simp)
  have HM:=Zh_ M2;clear y0 y1 y2 y3 y4 y5 y6 y7 y8 y9 yf7 yf8 yf9 D1 d2 M1 M2 K1;obtain ⟨z0,z1,z2,z3,z4,z5,z6,z7,z8,z9⟩:=Zc10a_ K2;have zf7:=Zb (i:=7) K2;have zf8:=Zb (i:=8) K2;have zf9:=Zb (i:=9) K2;go_wp2;go_ret2;exact ⟨J,(HM.out.other _ _ _ (Ne.symm hka) (Ne.symm hkb)),Zd _ K2,Ze.trans HD.out (by repeat (first|with_reducible exact Zr_ _ _|with_reducible refine Ze.setCell ?_ _ _ (.inl (by simp))))⟩
theorem L8 {a b k:Nat} {s:Zh} {w:W} (hM:Zj 137 w a b s) (p0 p1 p2 p3 p4 p5 th cl st:Int) (hk:w.heap[k]? =I (X #[U Y p0,U Y p1,U Y p2,U Y p3,U Y p4,U Y p5,U Y th,U Y 1,U Y9 cl,U Y9 st] 189 (0,0))) (he:Yv p3 th=30):
  Calls N 237 #[E (I ⟨k,0,O⟩),E (I ⟨a,0,O⟩)] w λ e w'=>e=R9 (.tuple #[.bool false,U Y 30])/\Zj 137 w' a b (s)/\w'.heap[k]? =I (X #[U Y p0,U Y p1,U Y p2,U Y p3,U Y p4,U Y p5,U Y th,U Y 1,U Y9 cl,U Y9 st] 189 (0,0))/\Ze [a,b,k] w w':=by
 have ha:=hM.jf;have hb:=hM.je;have hkl:=B9 hk;have hka:k≠a:=Zs hk hM.hd (by decide);have hkb:k≠b:=Zs hk hM.ws (by decide);obtain ⟨x0,x1,x2,x3,x4,x5,x6,x7,x8,x9⟩:=Zc10a_ hk;have xf7:=Zb (i:=7) hk;have xf8:=Zb (i:=8) hk;have xf9:=Zb (i:=9) hk;have He:=Zh_ he;clear he;go_enter func237,ntmps237;go_upto_region 3 with fail
 go_cut [6,7] (λ x y wx=>x=U Y (V6 p3 th)/\y=U Y (Yv p3 th)/\Zj 137 wx a b s/\wx.heap[k]? =I (X #[U Y p0,U Y p1,U Y p2,U Y p3,U Y p4,U Y p5,U Y th,U Y 1,U Y9 cl,U Y9 st] 189 (0,0))/\Ze [] w wx)
 case first=>
  go_region_with (go_at_call 146;refine (Qq _ _ _ _ _ _ _ _).mono ?_;rintro e w1 ⟨rfl,rfl⟩)
  all_goals
   go_wp2_with fail;go_meet;exact ⟨J,J,by repeat (first|exact hM|refine Zj.drew ?_|refine Zj.alloc ?_ _),Zf _ hk,(by repeat (first|with_reducible exact Zr_ _ _|with_reducible assumption|with_reducible refine Ze.drew ?_|with_reducible refine Ze.alloc ?_ _|with_reducible refine Ze.setCell ?_ _ _ (.inl (by simp))))⟩
 case rest=>
  obtain ⟨rfl,rfl,M1,K1,D1⟩:=hcut;clear x0 x1 x2 x3 x4 x5 x6 x7 x8 x9 xf7 xf8 xf9;rw [He.out];obtain ⟨y0,y1,y2,y3,y4,y5,y6,y7,y8,y9⟩:=Zc10a_ K1;have yf7:=Zb (i:=7) K1;have yf8:=Zb (i:=8) K1;have yf9:=Zb (i:=9) K1;go_wp2;go_ret2;exact ⟨J,M1,K1,D1.qj _⟩
theorem com1ok_c {a b k:Nat} {s:Zh} {w:W} (hM:Zj 137 w a b s) (p0 p1 p2 p3 p4 p5 th cl st:Int) (hk:w.heap[k]? =I (X #[U Y p0,U Y p1,U Y p2,U Y p3,U Y p4,U Y p5,U Y th,U Y 1,U Y9 cl,U Y9 st] 189 (0,0))) (he:Yv p3 th=0) (h0:s.acc (p3+th)=0):
  Calls N 237 #[E (I ⟨k,0,O⟩),E (I ⟨a,0,O⟩)] w λ e w'=>e=R9 (.tuple #[.bool false,U Y 0])/\Zj 137 w' a b (s.store (p3+th) (IntKind.u64.wrap (cl+1)))/\w'.heap[k]? =I (X #[U Y p0,U Y p1,U Y p2,U Y p3,U Y p4,U Y p5,U Y th,U Y 2,U Y9 cl,U Y9 st] 189 (0,0))/\Ze [a,b,k] w w':=by
 have ha:=hM.jf;have hb:=hM.je;have hkl:=B9 hk;have hka:k≠a:=Zs hk hM.hd (by decide);have hkb:k≠b:=Zs hk hM.ws (by decide);obtain ⟨x0,x1,x2,x3,x4,x5,x6,x7,x8,x9⟩:=Zc10a_ hk;have xf7:=Zb (i:=7) hk;have xf8:=Zb (i:=8) hk;have xf9:=Zb (i:=9) hk;have hat:V6 p3 th=p3+th:=P9 he;have Hat:=Zh_ hat;clear hat;have He:=Zh_ he;clear he;go_enter func237,ntmps237;go_upto_region 3 with fail
 go_cut [6,7] (λ x y wx=>x=U Y (V6 p3 th)/\y=U Y (Yv p3 th)/\Zj 137 wx a b s/\wx.heap[k]? =I (X #[U Y p0,U Y p1,U Y p2,U Y p3,U Y p4,U Y p5,U Y th,U Y 1,U Y9 cl,U Y9 st] 189 (0,0))/\Ze [] w wx)
 case first=>
  go_region_with (go_at_call 146;refine (Qq _ _ _ _ _ _ _ _).mono ?_;rintro e w1 ⟨rfl,rfl⟩)
  all_goals
   go_wp2_with fail;go_meet;exact ⟨J,J,by repeat (first|exact hM|refine Zj.drew ?_|refine Zj.alloc ?_ _),Zf _ hk,(by repeat (first|with_reducible exact Zr_ _ _|with_reducible assumption|with_reducible refine Ze.drew ?_|with_reducible refine Ze.alloc ?_ _|with_reducible refine Ze.setCell ?_ _ _ (.inl (by simp))))⟩
 case rest=>
  obtain ⟨rfl,rfl,M1,K1,D1⟩:=hcut;clear x0 x1 x2 x3 x4 x5 x6 x7 x8 x9 xf7 xf8 xf9;rw [He.out,Hat.out];obtain ⟨y0,y1,y2,y3,y4,y5,y6,y7,y8,y9⟩:=Zc10a_ K1;have yf7:=Zb (i:=7) K1;have yf8:=Zb (i:=8) K1;have yf9:=Zb (i:=9) K1;go_wp2_with fail;refine (Vo M1 _ _).mono ?_;rintro e w2 ⟨rfl,M2,d2⟩;have K2:=d2.at K1 (by simp;omega);have HD:Hid (Ze [a,b,k] w w2):=(D1.qj _).then d2 (by simp)
  have HM:=Zh_ M2;clear y0 y1 y2 y3 y4 y5 y6 y7 y8 y9 yf7 yf8 yf9 D1 d2 M1 M2 K1;obtain ⟨z0,z1,z2,z3,z4,z5,z6,z7,z8,z9⟩:=Zc10a_ K2;have zf7:=Zb (i:=7) K2;have zf8:=Zb (i:=8) K2;have zf9:=Zb (i:=9) K2;go_wp2;go_ret2;exact ⟨J,(HM.out.other _ _ _ (Ne.symm hka) (Ne.symm hkb)),Zd _ K2,Ze.trans HD.out (by repeat (first|with_reducible exact Zr_ _ _|with_reducible refine Ze.setCell ?_ _ _ (.inl (by simp))))⟩
theorem Ip {a b k:Nat} {s:Zh} {w:W} (hM:Zj 137 w a b s) (p0 p1 p2 p3 p4 p5 th cl st:Int) (hk:w.heap[k]? =I (X #[U Y p0,U Y p1,U Y p2,U Y p3,U Y p4,U Y p5,U Y th,U Y 1,U Y9 cl,U Y9 st] 189 (0,0))) (he:Yv p3 th=0) (h0:(s.acc (p3+th) !=0)=true):
  Calls N 237 #[E (I ⟨k,0,O⟩),E (I ⟨a,0,O⟩)] w λ e w'=>e=R9 (.tuple #[.bool false,U Y (s.acc (p3+th))])/\Zj 137 w' a b (s.store (p3+th) (IntKind.u64.wrap (cl+1)))/\w'.heap[k]? =I (X #[U Y p0,U Y p1,U Y p2,U Y p3,U Y p4,U Y p5,U Y th,U Y 1,U Y9 cl,U Y9 st] 189 (0,0))/\Ze [a,b,k] w w':=by
 have ha:=hM.jf;have hb:=hM.je;have hkl:=B9 hk;have hka:k≠a:=Zs hk hM.hd (by decide);have hkb:k≠b:=Zs hk hM.ws (by decide);obtain ⟨x0,x1,x2,x3,x4,x5,x6,x7,x8,x9⟩:=Zc10a_ hk;have xf7:=Zb (i:=7) hk;have xf8:=Zb (i:=8) hk;have xf9:=Zb (i:=9) hk;have hat:V6 p3 th=p3+th:=P9 he;have Hat:=Zh_ hat;clear hat;have He:=Zh_ he;clear he;go_enter func237,ntmps237;go_upto_region 3 with fail
 go_cut [6,7] (λ x y wx=>x=U Y (V6 p3 th)/\y=U Y (Yv p3 th)/\Zj 137 wx a b s/\wx.heap[k]? =I (X #[U Y p0,U Y p1,U Y p2,U Y p3,U Y p4,U Y p5,U Y th,U Y 1,U Y9 cl,U Y9 st] 189 (0,0))/\Ze [] w wx)
 case first=>
  go_region_with (go_at_call 146;refine (Qq _ _ _ _ _ _ _ _).mono ?_;rintro e w1 ⟨rfl,rfl⟩)
  all_goals
   go_wp2_with fail;go_meet;exact ⟨J,J,by repeat (first|exact hM|refine Zj.drew ?_|refine Zj.alloc ?_ _),Zf _ hk,(by repeat (first|with_reducible exact Zr_ _ _|with_reducible assumption|with_reducible refine Ze.drew ?_|with_reducible refine Ze.alloc ?_ _|with_reducible refine Ze.setCell ?_ _ _ (.inl (by simp))))⟩
 case rest=>
  obtain ⟨rfl,rfl,M1,K1,D1⟩:=hcut;clear x0 x1 x2 x3 x4 x5 x6 x7 x8 x9 xf7 xf8 xf9;rw [He.out,Hat.out];obtain ⟨y0,y1,y2,y3,y4,y5,y6,y7,y8,y9⟩:=Zc10a_ K1;have yf7:=Zb (i:=7) K1;have yf8:=Zb (i:=8) K1;have yf9:=Zb (i:=9) K1;go_wp2_with fail;refine (Vo M1 _ _).mono ?_;rintro e w2 ⟨rfl,M2,d2⟩;have K2:=d2.at K1 (by simp;omega);have HD:Hid (Ze [a,b,k] w w2):=(D1.qj _).then d2 (by simp)
  have HM:=Zh_ M2;clear y0 y1 y2 y3 y4 y5 y6 y7 y8 y9 yf7 yf8 yf9 D1 d2 M1 M2 K1;obtain ⟨z0,z1,z2,z3,z4,z5,z6,z7,z8,z9⟩:=Zc10a_ K2;have zf7:=Zb (i:=7) K2;have zf8:=Zb (i:=8) K2;have zf9:=Zb (i:=9) K2;go_wp2;go_ret2;exact ⟨J,HM.out,K2,Ze.trans HD.out (by repeat (first|with_reducible exact Zr_ _ _|with_reducible refine Ze.setCell ?_ _ _ (.inl (by simp))))⟩
end
section
theorem scanA1_c {a b k:Nat} {s:Zh} {w:W} (hM:Zj 137 w a b s) (p0 p1 p2 p3 p4 p5 T nd nx po:Int) (hk:w.heap[k]? =I (X #[U Y p0,U Y p1,U Y p2,U Y p3,U Y p4,U Y p5,U Y T,U Y9 nd,U Y nx,U Y po] 243 (0,0))) (h:T < 1):
  Calls N 113 #[E (I ⟨k,0,O⟩),E (I ⟨a,0,O⟩)] w λ e w'=>e=R9 (.tuple #[.bool false,U Y 100])/\Zj 137 w' a b (s)/\w'.heap[k]? =I (X #[U Y p0,U Y p1,U Y p2,U Y p3,U Y p4,U Y p5,U Y T,U Y9 nd,U Y nx,U Y po] 243 (0,0))/\Ze [a,b,k] w w':=by
 have ha:=hM.jf;have hb:=hM.je;have hkl:=B9 hk;have hka:k≠a:=Zs hk hM.hd (by decide);have hkb:k≠b:=Zs hk hM.ws (by decide);obtain ⟨x0,x1,x2,x3,x4,x5,x6,x7,x8,x9⟩:=Zc10a_ hk;have xf8:=Zb (i:=8) hk;have xf9:=Zb (i:=9) hk;go_enter func113,ntmps113;go_wp2
 go_step3
 go_wp2;rw [Exit.noGoto_ret];go_ret2;exact ⟨J,hM,hk,Zr_ _ _⟩
theorem scanA2_c {a b k:Nat} {s:Zh} {w:W} (hM:Zj 137 w a b s) (p0 p1 p2 p3 p4 p5 T nd nx po:Int) (hk:w.heap[k]? =I (X #[U Y p0,U Y p1,U Y p2,U Y p3,U Y p4,U Y p5,U Y T,U Y9 nd,U Y nx,U Y po] 243 (0,0))) (h1:1<=T) (h:8 < T):
  Calls N 113 #[E (I ⟨k,0,O⟩),E (I ⟨a,0,O⟩)] w λ e w'=>e=R9 (.tuple #[.bool false,U Y 100])/\Zj 137 w' a b (s)/\w'.heap[k]? =I (X #[U Y p0,U Y p1,U Y p2,U Y p3,U Y p4,U Y p5,U Y T,U Y9 nd,U Y nx,U Y po] 243 (0,0))/\Ze [a,b,k] w w':=by
 have ha:=hM.jf;have hb:=hM.je;have hkl:=B9 hk;have hka:k≠a:=Zs hk hM.hd (by decide);have hkb:k≠b:=Zs hk hM.ws (by decide);obtain ⟨x0,x1,x2,x3,x4,x5,x6,x7,x8,x9⟩:=Zc10a_ hk;have xf8:=Zb (i:=8) hk;have xf9:=Zb (i:=9) hk;go_enter func113,ntmps113;go_wp2
 go_step3
 go_wp2;rw [Exit.noGoto_ret];go_ret2;exact ⟨J,hM,hk,Zr_ _ _⟩
theorem scanB_c {a b k:Nat} {s:Zh} {w:W} (hM:Zj 137 w a b s) (p0 p1 p2 p3 p4 p5 T nd po:Int) (hk:w.heap[k]? =I (X #[U Y p0,U Y p1,U Y p2,U Y p3,U Y p4,U Y p5,U Y T,U Y9 nd,U Y T,U Y po] 243 (0,0))) (h1:1<=T) (h8:T<=8):
  Calls N 113 #[E (I ⟨k,0,O⟩),E (I ⟨a,0,O⟩)] w λ e w'=>e=R9 (.tuple #[.bool false,U Y 3])/\Zj 137 w' a b (s)/\w'.heap[k]? =I (X #[U Y p0,U Y p1,U Y p2,U Y p3,U Y p4,U Y p5,U Y T,U Y9 nd,U Y T,U Y po] 243 (0,0))/\Ze [a,b,k] w w':=by
 have ha:=hM.jf;have hb:=hM.je;have hkl:=B9 hk;have hka:k≠a:=Zs hk hM.hd (by decide);have hkb:k≠b:=Zs hk hM.ws (by decide);obtain ⟨x0,x1,x2,x3,x4,x5,x6,x7,x8,x9⟩:=Zc10a_ hk;have xf8:=Zb (i:=8) hk;have xf9:=Zb (i:=9) hk;go_enter func113,ntmps113;go_wp2
 go_step3
 go_wp2
 go_step3
 go_wp2
 go_loopw [6] (λ _ wr=>Zj 137 wr a b s/\wr.heap[k]? =I (X #[U Y p0,U Y p1,U Y p2,U Y p3,U Y p4,U Y p5,U Y T,U Y9 nd,U Y T,U Y po] 243 (0,0))/\Ze [] w wr) (λ _ _=>0)
 case atStart=>exact ⟨hM,hk,Zr_ _ _⟩
 case round=>
  obtain ⟨M1,K1,D1⟩:=hrel;clear x0 x1 x2 x3 x4 x5 x6 x7 x8 x9 xf8 xf9;have ha1:=M1.jf;have hb1:=M1.je;have hk1:=B9 K1;obtain ⟨y0,y1,y2,y3,y4,y5,y6,y7,y8,y9⟩:=Zc10a_ K1;have yf8:=Zb (i:=8) K1;have yf9:=Zb (i:=9) K1;go_wp2_with fail;go_quiet (fail);go_wp2;go_quiet (fail);go_wp2;rw [Exit.noGoto_ret];go_ret2;exact ⟨J,by repeat (first|exact M1|refine Zj.drewN ?_ _|refine Zj.drew ?_),K1,(D1.qj _).trans (by repeat (first|with_reducible exact Zr_ _ _|with_reducible assumption|with_reducible refine Ze.drew ?_|with_reducible refine Ze.drewN ?_ _|with_reducible refine Ze.alloc ?_ _|with_reducible refine Ze.setCell ?_ _ _ (.inl (by simp))))⟩
theorem scanC_c {a b k:Nat} {s:Zh} {w:W} (hM:Zj 137 w a b s) (p0 p1 p2 p3 p4 p5 T nd nx po:Int) (hk:w.heap[k]? =I (X #[U Y p0,U Y p1,U Y p2,U Y p3,U Y p4,U Y p5,U Y T,U Y9 nd,U Y nx,U Y po] 243 (0,0))) (h1:1<=T) (h8:T<=8)(hn:nx < T) (he:Yv p3 nx=30):
  Calls N 113 #[E (I ⟨k,0,O⟩),E (I ⟨a,0,O⟩)] w λ e w'=>e=R9 (.tuple #[.bool false,U Y 30])/\Zj 137 w' a b (s)/\w'.heap[k]? =I (X #[U Y p0,U Y p1,U Y p2,U Y p3,U Y p4,U Y p5,U Y T,U Y9 nd,U Y nx,U Y po] 243 (0,0))/\Ze [a,b,k] w w':=by
 have ha:=hM.jf;have hb:=hM.je;have hkl:=B9 hk;have hka:k≠a:=Zs hk hM.hd (by decide);have hkb:k≠b:=Zs hk hM.ws (by decide);obtain ⟨x0,x1,x2,x3,x4,x5,x6,x7,x8,x9⟩:=Zc10a_ hk;have xf8:=Zb (i:=8) hk;have xf9:=Zb (i:=9) hk;have He:=Zh_ he;clear he;go_enter func113,ntmps113;go_wp2
 go_step3
 go_wp2
 go_step3
 go_wp2
 go_loopw [6] (λ _ wr=>Zj 137 wr a b s/\wr.heap[k]? =I (X #[U Y p0,U Y p1,U Y p2,U Y p3,U Y p4,U Y p5,U Y T,U Y9 nd,U Y nx,U Y po] 243 (0,0))/\Ze [] w wr) (λ _ _=>0)
 case atStart=>exact ⟨hM,hk,Zr_ _ _⟩
 case round=>
  obtain ⟨M1,K1,D1⟩:=hrel;clear x0 x1 x2 x3 x4 x5 x6 x7 x8 x9 xf8 xf9;have ha1:=M1.jf;have hb1:=M1.je;have hk1:=B9 K1;obtain ⟨y0,y1,y2,y3,y4,y5,y6,y7,y8,y9⟩:=Zc10a_ K1;have yf8:=Zb (i:=8) K1;have yf9:=Zb (i:=9) K1;go_wp2_with fail;go_quiet (fail);go_upto_region 4 with fail;generalize hwq:wr.drewN _=wq;have M2:Zj 137 wq a b s:=hwq ▸ M1.drewN _;have K2:wq.heap[k]? =I (X #[U Y p0,U Y p1,U Y p2,U Y p3,U Y p4,U Y p5,U Y T,U Y9 nd,U Y nx,U Y po] 243 (0,0)):=hwq ▸ K1;have D2:Ze [] w wq:=hwq ▸ D1.drewN _;clear y0 y1 y2 y3 y4 y5 y6 y7 y8 y9 yf8 yf9 hwq M1 K1 D1;obtain ⟨v0,v1,v2,v3,v4,v5,v6,v7,v8,v9⟩:=Zc10a_ K2;have vf8:=Zb (i:=8) K2;have vf9:=Zb (i:=9) K2
  go_cut [6,7] (λ x y wx=>x=U Y (V6 p3 nx)/\y=U Y (Yv p3 nx)/\Zj 137 wx a b s/\wx.heap[k]? =I (X #[U Y p0,U Y p1,U Y p2,U Y p3,U Y p4,U Y p5,U Y T,U Y9 nd,U Y nx,U Y po] 243 (0,0))/\Ze [] w wx)
  case first=>
   go_region_with (go_at_call 146;refine (Qq _ _ _ _ _ _ _ _).mono ?_;rintro e w1 ⟨rfl,rfl⟩)
   all_goals
    go_wp2_with fail;go_meet;exact ⟨J,J,by repeat (first|exact M2|refine Zj.drew ?_|refine Zj.alloc ?_ _),Zf _ K2,(by repeat (first|with_reducible exact Zr_ _ _|with_reducible assumption|with_reducible refine Ze.drew ?_|with_reducible refine Ze.drewN ?_ _|with_reducible refine Ze.alloc ?_ _|with_reducible refine Ze.setCell ?_ _ _ (.inl (by simp))))⟩
  case rest=>
   obtain ⟨rfl,rfl,M3,K3,D3⟩:=hcut;clear v0 v1 v2 v3 v4 v5 v6 v7 v8 v9 vf8 vf9 M2 K2 D2;obtain ⟨z0,z1,z2,z3,z4,z5,z6,z7,z8,z9⟩:=Zc10a_ K3;have zf8:=Zb (i:=8) K3;have zf9:=Zb (i:=9) K3;rw [He.out];go_wp2;rw [Exit.noGoto_ret];go_ret2;exact ⟨J,M3,K3,D3.qj _⟩
theorem scanD_c {a b k:Nat} {s:Zh} {w:W} (hM:Zj 137 w a b s) (p0 p1 p2 p3 p4 p5 T nd nx po:Int) (hk:w.heap[k]? =I (X #[U Y p0,U Y p1,U Y p2,U Y p3,U Y p4,U Y p5,U Y T,U Y9 nd,U Y nx,U Y po] 243 (0,0))) (h1:1<=T) (h8:T<=8)(hn:nx < T) (he:Yv p3 nx=0) (h0:(s.acc (p3+nx) !=0)=true):
  Calls N 113 #[E (I ⟨k,0,O⟩),E (I ⟨a,0,O⟩)] w λ e w'=>e=R9 (.tuple #[.bool false,U Y (s.acc (p3+nx))])/\Zj 137 w' a b (s.load (p3+nx))/\w'.heap[k]? =I (X #[U Y p0,U Y p1,U Y p2,U Y p3,U Y p4,U Y p5,U Y T,U Y9 nd,U Y nx,U Y po] 243 (0,0))/\Ze [a,b,k] w w':=by
 have ha:=hM.jf;have hb:=hM.je;have hkl:=B9 hk;have hka:k≠a:=Zs hk hM.hd (by decide);have hkb:k≠b:=Zs hk hM.ws (by decide);obtain ⟨x0,x1,x2,x3,x4,x5,x6,x7,x8,x9⟩:=Zc10a_ hk;have xf8:=Zb (i:=8) hk;have xf9:=Zb (i:=9) hk;have hat:V6 p3 nx=p3+nx:=P9 he;have Hat:=Zh_ hat;clear hat;have He:=Zh_ he;clear he;go_enter func113,ntmps113;go_wp2
 go_step3
 go_wp2
 go_step3
 go_wp2
 go_loopw [6] (λ _ wr=>Zj 137 wr a b s/\wr.heap[k]? =I (X #[U Y p0,U Y p1,U Y p2,U Y p3,U Y p4,U Y p5,U Y T,U Y9 nd,U Y nx,U Y po] 243 (0,0))/\Ze [] w wr) (λ _ _=>0)
 case atStart=>exact ⟨hM,hk,Zr_ _ _⟩
 case round=>
  obtain ⟨M1,K1,D1⟩:=hrel;clear x0 x1 x2 x3 x4 x5 x6 x7 x8 x9 xf8 xf9;have ha1:=M1.jf;have hb1:=M1.je;have hk1:=B9 K1;obtain ⟨y0,y1,y2,y3,y4,y5,y6,y7,y8,y9⟩:=Zc10a_ K1;have yf8:=Zb (i:=8) K1;have yf9:=Zb (i:=9) K1;go_wp2_with fail;go_quiet (fail);go_upto_region 4 with fail;generalize hwq:wr.drewN _=wq;have M2:Zj 137 wq a b s:=hwq ▸ M1.drewN _;have K2:wq.heap[k]? =I (X #[U Y p0,U Y p1,U Y p2,U Y p3,U Y p4,U Y p5,U Y T,U Y9 nd,U Y nx,U Y po] 243 (0,0)):=hwq ▸ K1;have D2:Ze [] w wq:=hwq ▸ D1.drewN _;clear y0 y1 y2 y3 y4 y5 y6 y7 y8 y9 yf8 yf9 hwq M1 K1 D1;obtain ⟨v0,v1,v2,v3,v4,v5,v6,v7,v8,v9⟩:=Zc10a_ K2;have vf8:=Zb (i:=8) K2;have vf9:=Zb (i:=9) K2
  go_cut [6,7] (λ x y wx=>x=U Y (V6 p3 nx)/\y=U Y (Yv p3 nx)/\Zj 137 wx a b s/\wx.heap[k]? =I (X #[U Y p0,U Y p1,U Y p2,U Y p3,U Y p4,U Y p5,U Y T,U Y9 nd,U Y nx,U Y po] 243 (0,0))/\Ze [] w wx)
  case first=>
   go_region_with (go_at_call 146;refine (Qq _ _ _ _ _ _ _ _).mono ?_;rintro e w1 ⟨rfl,rfl⟩)
   all_goals
    go_wp2_with fail;go_meet;exact ⟨J,J,by repeat (first|exact M2|refine Zj.drew ?_|refine Zj.alloc ?_ _),Zf _ K2,(by repeat (first|with_reducible exact Zr_ _ _|with_reducible assumption|with_reducible refine Ze.drew ?_|with_reducible refine Ze.drewN ?_ _|with_reducible refine Ze.alloc ?_ _|with_reducible refine Ze.setCell ?_ _ _ (.inl (by simp))))⟩
  case rest=>
   obtain ⟨rfl,rfl,M3,K3,D3⟩:=hcut;clear v0 v1 v2 v3 v4 v5 v6 v7 v8 v9 vf8 vf9 M2 K2 D2;obtain ⟨z0,z1,z2,z3,z4,z5,z6,z7,z8,z9⟩:=Zc10a_ K3;have zf8:=Zb (i:=8) K3;have zf9:=Zb (i:=9) K3;rw [He.out,Hat.out];go_wp2_with fail;refine (Un M3 _).mono ?_;rintro e w2 ⟨rfl,M4,d4⟩;have K4:=d4.at K3 (by have:=M3.jf;have:=M3.je;simp;omega);have HD:Hid (Ze [a,b,k] w w2):=(D3.qj _).then d4 (by simp)
   have HM:=Zh_ M4;clear z0 z1 z2 z3 z4 z5 z6 z7 z8 z9 zf8 zf9 D3 d4 M3 M4 K3;obtain ⟨u0,u1,u2,u3,u4,u5,u6,u7,u8,u9⟩:=Zc10a_ K4;have uf8:=Zb (i:=8) K4;have uf9:=Zb (i:=9) K4;go_wp2;rw [Exit.noGoto_ret];go_ret2;exact ⟨J,HM.out,K4,HD.out⟩
theorem scanE_c {a b k:Nat} {s:Zh} {w:W} (hM:Zj 137 w a b s) (p0 p1 p2 p3 p4 p5 T nd nx po:Int) (hk:w.heap[k]? =I (X #[U Y p0,U Y p1,U Y p2,U Y p3,U Y p4,U Y p5,U Y T,U Y9 nd,U Y nx,U Y po] 243 (0,0))) (h1:1<=T) (h8:T<=8)(hn:nx < T) (he:Yv p3 nx=0) (h0:s.acc (p3+nx)=0) (g0:(s.xv (p3+nx) !=0)=true) (g1:s.xv (p3+nx)<=nd) (hne:(nx==T)=false):
  Calls N 113 #[E (I ⟨k,0,O⟩),E (I ⟨a,0,O⟩)] w λ e w'=>e=R9 (.tuple #[.bool false,U Y 0])/\Zj 137 w' a b (s.load (p3+nx))/\w'.heap[k]? =I (X #[U Y p0,U Y p1,U Y p2,U Y p3,U Y p4,U Y p5,U Y T,U Y9 nd,U Y nx,U Y (wrap64 (po+1))] 243 (0,0))/\Ze [a,b,k] w w':=by
 have ha:=hM.jf;have hb:=hM.je;have hkl:=B9 hk;have hka:k≠a:=Zs hk hM.hd (by decide);have hkb:k≠b:=Zs hk hM.ws (by decide);obtain ⟨x0,x1,x2,x3,x4,x5,x6,x7,x8,x9⟩:=Zc10a_ hk;have xf8:=Zb (i:=8) hk;have xf9:=Zb (i:=9) hk;have hat:V6 p3 nx=p3+nx:=P9 he;have Hat:=Zh_ hat;clear hat;have He:=Zh_ he;clear he;go_enter func113,ntmps113;go_wp2
 go_step3
 go_wp2
 go_step3
 go_wp2
 go_loopw [6] (λ _ wr=>Zj 137 wr a b s/\wr.heap[k]? =I (X #[U Y p0,U Y p1,U Y p2,U Y p3,U Y p4,U Y p5,U Y T,U Y9 nd,U Y nx,U Y po] 243 (0,0))/\Ze [] w wr) (λ _ _=>0)
 case atStart=>exact ⟨hM,hk,Zr_ _ _⟩
 case round=>
  obtain ⟨M1,K1,D1⟩:=hrel;clear x0 x1 x2 x3 x4 x5 x6 x7 x8 x9 xf8 xf9;have ha1:=M1.jf;have hb1:=M1.je;have hk1:=B9 K1;obtain ⟨y0,y1,y2,y3,y4,y5,y6,y7,y8,y9⟩:=Zc10a_ K1;have yf8:=Zb (i:=8) K1;have yf9:=Zb (i:=9) K1;go_wp2_with fail;go_quiet (fail);go_upto_region 4 with fail;generalize hwq:wr.drewN _=wq;have M2:Zj 137 wq a b s:=hwq ▸ M1.drewN _;have K2:wq.heap[k]? =I (X #[U Y p0,U Y p1,U Y p2,U Y p3,U Y p4,U Y p5,U Y T,U Y9 nd,U Y nx,U Y po] 243 (0,0)):=hwq ▸ K1;have D2:Ze [] w wq:=hwq ▸ D1.drewN _;clear y0 y1 y2 y3 y4 y5 y6 y7 y8 y9 yf8 yf9 hwq M1 K1 D1;obtain ⟨v0,v1,v2,v3,v4,v5,v6,v7,v8,v9⟩:=Zc10a_ K2;have vf8:=Zb (i:=8) K2;have vf9:=Zb (i:=9) K2
  go_cut [6,7] (λ x y wx=>x=U Y (V6 p3 nx)/\y=U Y (Yv p3 nx)/\Zj 137 wx a b s/\wx.heap[k]? =I (X #[U Y p0,U Y p1,U Y p2,U Y p3,U Y p4,U Y p5,U Y T,U Y9 nd,U Y nx,U Y po] 243 (0,0))/\Ze [] w wx)
  case first=>
   go_region_with (go_at_call 146;refine (Qq _ _ _ _ _ _ _ _).mono ?_;rintro e w1 ⟨rfl,rfl⟩)
   all_goals
    go_wp2_with fail;go_meet;exact ⟨J,J,by repeat (first|exact M2|refine Zj.drew ?_|refine Zj.alloc ?_ _),Zf _ K2,(by repeat (first|with_reducible exact Zr_ _ _|with_reducible assumption|with_reducible refine Ze.drew ?_|with_reducible refine Ze.drewN ?_ _|with_reducible refine Ze.alloc ?_ _|with_reducible refine Ze.setCell ?_ _ _ (.inl (by simp))))⟩
  case rest=>
   obtain ⟨rfl,rfl,M3,K3,D3⟩:=hcut;clear v0 v1 v2 v3 v4 v5 v6 v7 v8 v9 vf8 vf9 M2 K2 D2;obtain ⟨z0,z1,z2,z3,z4,z5,z6,z7,z8,z9⟩:=Zc10a_ K3;have zf8:=Zb (i:=8) K3;have zf9:=Zb (i:=9) K3;rw [He.out,Hat.out];go_wp2_with fail;refine (Un M3 _).mono ?_;rintro e w2 ⟨rfl,M4,d4⟩;have K4:=d4.at K3 (by have:=M3.jf;have:=M3.je;simp;omega);have HD:Hid (Ze [a,b,k] w w2):=(D3.qj _).then d4 (by simp)
   have HM:=Zh_ M4;clear z0 z1 z2 z3 z4 z5 z6 z7 z8 z9 zf8 zf9 D3 d4 M3 M4 K3;obtain ⟨u0,u1,u2,u3,u4,u5,u6,u7,u8,u9⟩:=Zc10a_ K4;have uf8:=Zb (i:=8) K4;have uf9:=Zb (i:=9) K4;go_wp2_with fail;generalize hws:w2.setCell _ _=ws;have K5:ws.heap[k]? =I (X #[U Y p0,U Y p1,U Y p2,U Y p3,U Y p4,U Y p5,U Y T,U Y9 nd,U Y nx,U Y (wrap64 (po+1))] 243 (0,0)):=by rw [<-hws];exact Zd _ K4
   have M5:Hid (Zj 137 ws a b (s.load (p3+nx))):=by rw [<-hws];exact HM.out.other _ _ _ (Ne.symm hka) (Ne.symm hkb)
   have D5:Hid (Ze [a,b,k] w ws):=by rw [<-hws];exact HD.out.setCell _ _ (.inl (by simp))
   clear hws HM HD K4 u0 u1 u2 u3 u4 u5 u6 u7 u8 u9 uf8 uf9;obtain ⟨q0,q1,q2,q3,q4,q5,q6,q7,q8,q9⟩:=Zc10a_ K5;have qf8:=Zb (i:=8) K5;have qf9:=Zb (i:=9) K5;go_quiet (fail);go_wp2;rw [Exit.noGoto_ret];go_ret2;exact ⟨J,by have MM:=M5.out;repeat (first|exact MM|refine Zj.drewN ?_ _|refine Zj.drew ?_),K5,by have DD:=D5.out;repeat (first|exact DD|refine Ze.drewN ?_ _|refine Ze.drew ?_)⟩
theorem scanF1_c {a b k:Nat} {s:Zh} {w:W} (hM:Zj 137 w a b s) (p0 p1 p2 p3 p4 p5 T nd nx po:Int) (hk:w.heap[k]? =I (X #[U Y p0,U Y p1,U Y p2,U Y p3,U Y p4,U Y p5,U Y T,U Y9 nd,U Y nx,U Y po] 243 (0,0))) (h1:1<=T) (h8:T<=8)(hn0:0<=nx)(hn:nx < T) (he:Yv p3 nx=0) (h0:s.acc (p3+nx)=0) (g0:s.xv (p3+nx)=0):
  Calls N 113 #[E (I ⟨k,0,O⟩),E (I ⟨a,0,O⟩)] w λ e w'=>e=R9 (.tuple #[.bool (nx+1==T),U Y 0])/\Zj 137 w' a b (s.load (p3+nx))/\w'.heap[k]? =I (X #[U Y p0,U Y p1,U Y p2,U Y p3,U Y p4,U Y p5,U Y T,U Y9 nd,U Y (nx+1),U Y po] 243 (0,0))/\Ze [a,b,k] w w':=by
 have ha:=hM.jf;have hb:=hM.je;have hkl:=B9 hk;have hka:k≠a:=Zs hk hM.hd (by decide);have hkb:k≠b:=Zs hk hM.ws (by decide);obtain ⟨x0,x1,x2,x3,x4,x5,x6,x7,x8,x9⟩:=Zc10a_ hk;have xf8:=Zb (i:=8) hk;have xf9:=Zb (i:=9) hk;have hat:V6 p3 nx=p3+nx:=P9 he;have Hat:=Zh_ hat;clear hat;have He:=Zh_ he;clear he;go_enter func113,ntmps113;go_wp2
 go_step3
 go_wp2
 go_step3
 go_wp2
 go_loopw [6] (λ _ wr=>Zj 137 wr a b s/\wr.heap[k]? =I (X #[U Y p0,U Y p1,U Y p2,U Y p3,U Y p4,U Y p5,U Y T,U Y9 nd,U Y nx,U Y po] 243 (0,0))/\Ze [] w wr) (λ _ _=>0)
 case atStart=>exact ⟨hM,hk,Zr_ _ _⟩
 case round=>
  obtain ⟨M1,K1,D1⟩:=hrel;clear x0 x1 x2 x3 x4 x5 x6 x7 x8 x9 xf8 xf9;have ha1:=M1.jf;have hb1:=M1.je;have hk1:=B9 K1;obtain ⟨y0,y1,y2,y3,y4,y5,y6,y7,y8,y9⟩:=Zc10a_ K1;have yf8:=Zb (i:=8) K1;have yf9:=Zb (i:=9) K1;go_wp2_with fail;go_quiet (fail);go_upto_region 4 with fail;generalize hwq:wr.drewN _=wq;have M2:Zj 137 wq a b s:=hwq ▸ M1.drewN _;have K2:wq.heap[k]? =I (X #[U Y p0,U Y p1,U Y p2,U Y p3,U Y p4,U Y p5,U Y T,U Y9 nd,U Y nx,U Y po] 243 (0,0)):=hwq ▸ K1;have D2:Ze [] w wq:=hwq ▸ D1.drewN _;clear y0 y1 y2 y3 y4 y5 y6 y7 y8 y9 yf8 yf9 hwq M1 K1 D1;obtain ⟨v0,v1,v2,v3,v4,v5,v6,v7,v8,v9⟩:=Zc10a_ K2;have vf8:=Zb (i:=8) K2;have vf9:=Zb (i:=9) K2
  go_cut [6,7] (λ x y wx=>x=U Y (V6 p3 nx)/\y=U Y (Yv p3 nx)/\Zj 137 wx a b s/\wx.heap[k]? =I (X #[U Y p0,U Y p1,U Y p2,U Y p3,U Y p4,U Y p5,U Y T,U Y9 nd,U Y nx,U Y po] 243 (0,0))/\Ze [] w wx)
  case first=>
   go_region_with (go_at_call 146;refine (Qq _ _ _ _ _ _ _ _).mono ?_;rintro e w1 ⟨rfl,rfl⟩)
   all_goals
    go_wp2_with fail;go_meet;exact ⟨J,J,by repeat (first|exact M2|refine Zj.drew ?_|refine Zj.alloc ?_ _),Zf _ K2,(by repeat (first|with_reducible exact Zr_ _ _|with_reducible assumption|with_reducible refine Ze.drew ?_|with_reducible refine Ze.drewN ?_ _|with_reducible refine Ze.alloc ?_ _|with_reducible refine Ze.setCell ?_ _ _ (.inl (by simp))))⟩
  case rest=>
   obtain ⟨rfl,rfl,M3,K3,D3⟩:=hcut;clear v0 v1 v2 v3 v4 v5 v6 v7 v8 v9 vf8 vf9 M2 K2 D2;obtain ⟨z0,z1,z2,z3,z4,z5,z6,z7,z8,z9⟩:=Zc10a_ K3;have zf8:=Zb (i:=8) K3;have zf9:=Zb (i:=9) K3;rw [He.out,Hat.out];go_wp2_with fail;refine (Un M3 _).mono ?_;rintro e w2 ⟨rfl,M4,d4⟩;have K4:=d4.at K3 (by have:=M3.jf;have:=M3.je;simp;omega);have HD:Hid (Ze [a,b,k] w w2):=(D3.qj _).then d4 (by simp)
   have HM:=Zh_ M4;clear z0 z1 z2 z3 z4 z5 z6 z7 z8 z9 zf8 zf9 D3 d4 M3 M4 K3;obtain ⟨u0,u1,u2,u3,u4,u5,u6,u7,u8,u9⟩:=Zc10a_ K4;have uf8:=Zb (i:=8) K4;have uf9:=Zb (i:=9) K4;go_wp2_with fail;generalize hws:w2.setCell _ _=ws;have K5:ws.heap[k]? =I (X #[U Y p0,U Y p1,U Y p2,U Y p3,U Y p4,U Y p5,U Y T,U Y9 nd,U Y (nx+1),U Y po] 243 (0,0)):=by rw [<-hws];exact Zd _ K4
   have M5:Hid (Zj 137 ws a b (s.load (p3+nx))):=by rw [<-hws];exact HM.out.other _ _ _ (Ne.symm hka) (Ne.symm hkb)
   have D5:Hid (Ze [a,b,k] w ws):=by rw [<-hws];exact HD.out.setCell _ _ (.inl (by simp))
   clear hws HM HD K4 u0 u1 u2 u3 u4 u5 u6 u7 u8 u9 uf8 uf9;obtain ⟨q0,q1,q2,q3,q4,q5,q6,q7,q8,q9⟩:=Zc10a_ K5;have qf8:=Zb (i:=8) K5;have qf9:=Zb (i:=9) K5;go_quiet (fail);go_wp2;rw [Exit.noGoto_ret];go_ret2;exact ⟨J,by have MM:=M5.out;repeat (first|exact MM|refine Zj.drewN ?_ _|refine Zj.drew ?_),K5,by have DD:=D5.out;repeat (first|exact DD|refine Ze.drewN ?_ _|refine Ze.drew ?_)⟩
theorem scanF2_c {a b k:Nat} {s:Zh} {w:W} (hM:Zj 137 w a b s) (p0 p1 p2 p3 p4 p5 T nd nx po:Int) (hk:w.heap[k]? =I (X #[U Y p0,U Y p1,U Y p2,U Y p3,U Y p4,U Y p5,U Y T,U Y9 nd,U Y nx,U Y po] 243 (0,0))) (h1:1<=T) (h8:T<=8)(hn0:0<=nx)(hn:nx < T) (he:Yv p3 nx=0) (h0:s.acc (p3+nx)=0) (g0:(s.xv (p3+nx) !=0)=true) (g1:nd < s.xv (p3+nx)):
  Calls N 113 #[E (I ⟨k,0,O⟩),E (I ⟨a,0,O⟩)] w λ e w'=>e=R9 (.tuple #[.bool (nx+1==T),U Y 0])/\Zj 137 w' a b (s.load (p3+nx))/\w'.heap[k]? =I (X #[U Y p0,U Y p1,U Y p2,U Y p3,U Y p4,U Y p5,U Y T,U Y9 nd,U Y (nx+1),U Y po] 243 (0,0))/\Ze [a,b,k] w w':=by
 have ha:=hM.jf;have hb:=hM.je;have hkl:=B9 hk;have hka:k≠a:=Zs hk hM.hd (by decide);have hkb:k≠b:=Zs hk hM.ws (by decide);obtain ⟨x0,x1,x2,x3,x4,x5,x6,x7,x8,x9⟩:=Zc10a_ hk;have xf8:=Zb (i:=8) hk;have xf9:=Zb (i:=9) hk;have hat:V6 p3 nx=p3+nx:=P9 he;have Hat:=Zh_ hat;clear hat;have He:=Zh_ he;clear he;go_enter func113,ntmps113;go_wp2
 go_step3
 go_wp2
 go_step3
 go_wp2
 go_loopw [6] (λ _ wr=>Zj 137 wr a b s/\wr.heap[k]? =I (X #[U Y p0,U Y p1,U Y p2,U Y p3,U Y p4,U Y p5,U Y T,U Y9 nd,U Y nx,U Y po] 243 (0,0))/\Ze [] w wr) (λ _ _=>0)
 case atStart=>exact ⟨hM,hk,Zr_ _ _⟩
 case round=>
  obtain ⟨M1,K1,D1⟩:=hrel;clear x0 x1 x2 x3 x4 x5 x6 x7 x8 x9 xf8 xf9;have ha1:=M1.jf;have hb1:=M1.je;have hk1:=B9 K1;obtain ⟨y0,y1,y2,y3,y4,y5,y6,y7,y8,y9⟩:=Zc10a_ K1;have yf8:=Zb (i:=8) K1;have yf9:=Zb (i:=9) K1;go_wp2_with fail;go_quiet (fail);go_upto_region 4 with fail;generalize hwq:wr.drewN _=wq;have M2:Zj 137 wq a b s:=hwq ▸ M1.drewN _;have K2:wq.heap[k]? =I (X #[U Y p0,U Y p1,U Y p2,U Y p3,U Y p4,U Y p5,U Y T,U Y9 nd,U Y nx,U Y po] 243 (0,0)):=hwq ▸ K1;have D2:Ze [] w wq:=hwq ▸ D1.drewN _;clear y0 y1 y2 y3 y4 y5 y6 y7 y8 y9 yf8 yf9 hwq M1 K1 D1;obtain ⟨v0,v1,v2,v3,v4,v5,v6,v7,v8,v9⟩:=Zc10a_ K2;have vf8:=Zb (i:=8) K2;have vf9:=Zb (i:=9) K2
  go_cut [6,7] (λ x y wx=>x=U Y (V6 p3 nx)/\y=U Y (Yv p3 nx)/\Zj 137 wx a b s/\wx.heap[k]? =I (X #[U Y p0,U Y p1,U Y p2,U Y p3,U Y p4,U Y p5,U Y T,U Y9 nd,U Y nx,U Y po] 243 (0,0))/\Ze [] w wx)
  case first=>
   go_region_with (go_at_call 146;refine (Qq _ _ _ _ _ _ _ _).mono ?_;rintro e w1 ⟨rfl,rfl⟩)
   all_goals
    go_wp2_with fail;go_meet;exact ⟨J,J,by repeat (first|exact M2|refine Zj.drew ?_|refine Zj.alloc ?_ _),Zf _ K2,(by repeat (first|with_reducible exact Zr_ _ _|with_reducible assumption|with_reducible refine Ze.drew ?_|with_reducible refine Ze.drewN ?_ _|with_reducible refine Ze.alloc ?_ _|with_reducible refine Ze.setCell ?_ _ _ (.inl (by simp))))⟩
  case rest=>
   obtain ⟨rfl,rfl,M3,K3,D3⟩:=hcut;clear v0 v1 v2 v3 v4 v5 v6 v7 v8 v9 vf8 vf9 M2 K2 D2;obtain ⟨z0,z1,z2,z3,z4,z5,z6,z7,z8,z9⟩:=Zc10a_ K3;have zf8:=Zb (i:=8) K3;have zf9:=Zb (i:=9) K3;rw [He.out,Hat.out];go_wp2_with fail;refine (Un M3 _).mono ?_;rintro e w2 ⟨rfl,M4,d4⟩;have K4:=d4.at K3 (by have:=M3.jf;have:=M3.je;simp;omega);have HD:Hid (Ze [a,b,k] w w2):=(D3.qj _).then d4 (by simp)
   have HM:=Zh_ M4;clear z0 z1 z2 z3 z4 z5 z6 z7 z8 z9 zf8 zf9 D3 d4 M3 M4 K3;obtain ⟨u0,u1,u2,u3,u4,u5,u6,u7,u8,u9⟩:=Zc10a_ K4;have uf8:=Zb (i:=8) K4;have uf9:=Zb (i:=9) K4;go_wp2_with fail;generalize hws:w2.setCell _ _=ws;have K5:ws.heap[k]? =I (X #[U Y p0,U Y p1,U Y p2,U Y p3,U Y p4,U Y p5,U Y T,U Y9 nd,U Y (nx+1),U Y po] 243 (0,0)):=by rw [<-hws];exact Zd _ K4
   have M5:Hid (Zj 137 ws a b (s.load (p3+nx))):=by rw [<-hws];exact HM.out.other _ _ _ (Ne.symm hka) (Ne.symm hkb)
   have D5:Hid (Ze [a,b,k] w ws):=by rw [<-hws];exact HD.out.setCell _ _ (.inl (by simp))
   clear hws HM HD K4 u0 u1 u2 u3 u4 u5 u6 u7 u8 u9 uf8 uf9;obtain ⟨q0,q1,q2,q3,q4,q5,q6,q7,q8,q9⟩:=Zc10a_ K5;have qf8:=Zb (i:=8) K5;have qf9:=Zb (i:=9) K5;go_quiet (fail);go_wp2;rw [Exit.noGoto_ret];go_ret2;exact ⟨J,by have MM:=M5.out;repeat (first|exact MM|refine Zj.drewN ?_ _|refine Zj.drew ?_),K5,by have DD:=D5.out;repeat (first|exact DD|refine Ze.drewN ?_ _|refine Ze.drew ?_)⟩
end
section
structure Yh where
 (p0 p1 p2 p3 p4 p5 th n cl st:Int)
deriving DecidableEq
def Yh.arr (c:Yh):Array Value:=#[U Y c.p0,U Y c.p1,U Y c.p2,U Y c.p3,U Y c.p4,U Y c.p5,U Y c.th,U Y c.n,U Y9 c.cl,U Y9 c.st]
structure Yh.Inv (c:Yh):Prop where
 lo:0<=c.n
 hi:c.n<=3
 cl:c.n=0->c.cl=0
 st:c.n≠3->c.st=0
def Yh.err (c:Yh) (s:Zh):Int:=if c.n=3 then 3 else if c.th < 0\/8<=c.th then 100 else if c.n=1 then s.xr c.p3 c.th else s.acc c.p2
def Yh.mem (c:Yh) (s:Zh):Zh:=if c.n=3 then s else if c.th < 0\/8<=c.th then s else if c.n=1 then (if Yv c.p3 c.th=0 then s.store (c.p3+c.th) (IntKind.u64.wrap (c.cl+1)) else s) else s.load c.p2
def Yh.qf (c:Yh) (s:Zh):Bool:=decide (c.n=2/\c.err s=0)
def Yh.next (c:Yh) (s:Zh):Yh:=if c.err s≠0 then c else if c.n=0 then {c with n:=1,cl:=s.xv c.p2} else if c.n=1 then {c with n:=2} else {c with n:=3,st:=s.xv c.p2}
theorem Lh {p3 th:Int} (h:¬ (th < 0\/8<=th)):(Yv p3 th==100)=false:=by
 rcases Uf p3 th with ⟨h1,_⟩|⟨_,_,_,e⟩|⟨_,_,_,_,e⟩
 ·exact absurd h1 h
 ·simp [e]
 ·simp [e]
theorem Im {a b k:Nat} {s:Zh} {w:W} (hM:Zj 137 w a b s) (c:Yh) (hi:c.Inv) (hk:w.heap[k]? =I (.cells c.arr 189 (0,0))):
  Calls N 237 #[E (I ⟨k,0,O⟩),E (I ⟨a,0,O⟩)] w λ e w'=>e=R9 (.tuple #[.bool (c.qf s),U Y (c.err s)])/\Zj 137 w' a b (c.mem s)/\w'.heap[k]? =I (.cells (c.next s).arr 189 (0,0))/\Ze [a,b,k] w w':=by
 obtain ⟨p0,p1,p2,p3,p4,p5,th,n,cl,st⟩:=c;obtain ⟨hlo,hhi,hcl,hst⟩:=hi;dsimp only at hlo hhi hcl hst
 by_cases h3:n=3
 ·subst h3;have e1:(Yh.mk p0 p1 p2 p3 p4 p5 th 3 cl st).err s=3:=by simp [Yh.err]
  rw [e1,show (Yh.mk p0 p1 p2 p3 p4 p5 th 3 cl st).qf s=false by simp [Yh.qf],show (Yh.mk p0 p1 p2 p3 p4 p5 th 3 cl st).mem s=s by simp [Yh.mem],show (Yh.mk p0 p1 p2 p3 p4 p5 th 3 cl st).next s=Yh.mk p0 p1 p2 p3 p4 p5 th 3 cl st by simp [Yh.next,e1]];exact com3_c hM p0 p1 p2 p3 p4 p5 th cl st hk
 ·have hst0:=hst h3;subst hst0
  by_cases ht:th < 0\/8<=th
  ·have e1:(Yh.mk p0 p1 p2 p3 p4 p5 th n cl 0).err s=100:=by simp [Yh.err,h3,ht]
   rw [e1,show (Yh.mk p0 p1 p2 p3 p4 p5 th n cl 0).qf s=false by simp [Yh.qf,e1],show (Yh.mk p0 p1 p2 p3 p4 p5 th n cl 0).mem s=s by simp [Yh.mem,h3,ht],show (Yh.mk p0 p1 p2 p3 p4 p5 th n cl 0).next s=Yh.mk p0 p1 p2 p3 p4 p5 th n cl 0 by simp [Yh.next,e1]];exact comT_c hM p0 p1 p2 p3 p4 p5 th cl 0 n hk (by simp [h3]) (Fq ht)
  ·have hq:=Lh (p3:=p3) ht;have t0:0<=th:=by omega
   have t8:th < 8:=by omega
   by_cases h0:n=0
   ·subst h0;have hc0:=hcl J;subst hc0
    by_cases ha:s.acc p2=0
    ·have e1:(Yh.mk p0 p1 p2 p3 p4 p5 th 0 0 0).err s=0:=by simp [Yh.err,ht,ha]
     rw [e1,show (Yh.mk p0 p1 p2 p3 p4 p5 th 0 0 0).qf s=false by simp [Yh.qf],show (Yh.mk p0 p1 p2 p3 p4 p5 th 0 0 0).mem s=s.load p2 by simp [Yh.mem,ht],show (Yh.mk p0 p1 p2 p3 p4 p5 th 0 0 0).next s=Yh.mk p0 p1 p2 p3 p4 p5 th 1 (s.xv p2) 0 by simp [Yh.next,e1]];exact com0ok_c hM p0 p1 p2 p3 p4 p5 th 0 0 hk hq ha
    ·have e1:(Yh.mk p0 p1 p2 p3 p4 p5 th 0 0 0).err s=s.acc p2:=by simp [Yh.err,ht]
     have hg:s.xv p2=0:=W3 s ha;rw [e1,show (Yh.mk p0 p1 p2 p3 p4 p5 th 0 0 0).qf s=false by simp [Yh.qf],show (Yh.mk p0 p1 p2 p3 p4 p5 th 0 0 0).mem s=s.load p2 by simp [Yh.mem,ht],show (Yh.mk p0 p1 p2 p3 p4 p5 th 0 0 0).next s=Yh.mk p0 p1 p2 p3 p4 p5 th 0 0 0 by simp [Yh.next,e1,ha]];have:=Iq hM p0 p1 p2 p3 p4 p5 th 0 0 hk hq (by simp [ha]);rw [hg] at this;exact this
   ·by_cases h1:n=1
    ·subst h1
     by_cases hp:Yv p3 th=0
     ·obtain ⟨-,-,hp0,hp1⟩:=Nt hp
      by_cases ha:s.acc (p3+th)=0
      ·have e1:(Yh.mk p0 p1 p2 p3 p4 p5 th 1 cl 0).err s=0:=by simp [Yh.err,ht,Zh.xr,hp,ha]
       rw [e1,show (Yh.mk p0 p1 p2 p3 p4 p5 th 1 cl 0).qf s=false by simp [Yh.qf],show (Yh.mk p0 p1 p2 p3 p4 p5 th 1 cl 0).mem s=s.store (p3+th) (IntKind.u64.wrap (cl+1)) by simp [Yh.mem,ht,hp],show (Yh.mk p0 p1 p2 p3 p4 p5 th 1 cl 0).next s=Yh.mk p0 p1 p2 p3 p4 p5 th 2 cl 0 by simp [Yh.next,e1]];exact com1ok_c hM p0 p1 p2 p3 p4 p5 th cl 0 hk hp ha
      ·have e1:(Yh.mk p0 p1 p2 p3 p4 p5 th 1 cl 0).err s=s.acc (p3+th):=by simp [Yh.err,ht,Zh.xr,hp]
       rw [e1,show (Yh.mk p0 p1 p2 p3 p4 p5 th 1 cl 0).qf s=false by simp [Yh.qf],show (Yh.mk p0 p1 p2 p3 p4 p5 th 1 cl 0).mem s=s.store (p3+th) (IntKind.u64.wrap (cl+1)) by simp [Yh.mem,ht,hp],show (Yh.mk p0 p1 p2 p3 p4 p5 th 1 cl 0).next s=Yh.mk p0 p1 p2 p3 p4 p5 th 1 cl 0 by simp [Yh.next,e1,ha]];exact Ip hM p0 p1 p2 p3 p4 p5 th cl 0 hk hp (by simp [ha])
     ·have hpe:Yv p3 th=30/\(p3 < 0\/4096 < p3):=by
       rcases Uf p3 th with ⟨h1,_⟩|⟨_,_,h,e⟩|⟨_,_,_,_,e⟩
       ·exact absurd h1 ht
       ·exact ⟨e,h⟩
       ·exact absurd e hp
      have e1:(Yh.mk p0 p1 p2 p3 p4 p5 th 1 cl 0).err s=30:=by simp [Yh.err,ht,Zh.xr,hpe.1]
      rw [e1,show (Yh.mk p0 p1 p2 p3 p4 p5 th 1 cl 0).qf s=false by simp [Yh.qf],show (Yh.mk p0 p1 p2 p3 p4 p5 th 1 cl 0).mem s=s by simp [Yh.mem,ht,hp],show (Yh.mk p0 p1 p2 p3 p4 p5 th 1 cl 0).next s=Yh.mk p0 p1 p2 p3 p4 p5 th 1 cl 0 by simp [Yh.next,e1]];exact L8 hM p0 p1 p2 p3 p4 p5 th cl 0 hk hpe.1
    ·have h2:n=2:=by omega
     subst h2
     by_cases ha:s.acc p2=0
     ·have e1:(Yh.mk p0 p1 p2 p3 p4 p5 th 2 cl 0).err s=0:=by simp [Yh.err,ht,ha]
      rw [e1,show (Yh.mk p0 p1 p2 p3 p4 p5 th 2 cl 0).qf s=true by simp [Yh.qf,e1],show (Yh.mk p0 p1 p2 p3 p4 p5 th 2 cl 0).mem s=s.load p2 by simp [Yh.mem,ht],show (Yh.mk p0 p1 p2 p3 p4 p5 th 2 cl 0).next s=Yh.mk p0 p1 p2 p3 p4 p5 th 3 cl (s.xv p2) by simp [Yh.next,e1]];exact com2ok_c hM p0 p1 p2 p3 p4 p5 th cl 0 hk hq ha
     ·have e1:(Yh.mk p0 p1 p2 p3 p4 p5 th 2 cl 0).err s=s.acc p2:=by simp [Yh.err,ht]
      have hg:s.xv p2=0:=W3 s ha;rw [e1,show (Yh.mk p0 p1 p2 p3 p4 p5 th 2 cl 0).qf s=false by simp [Yh.qf,e1,ha],show (Yh.mk p0 p1 p2 p3 p4 p5 th 2 cl 0).mem s=s.load p2 by simp [Yh.mem,ht],show (Yh.mk p0 p1 p2 p3 p4 p5 th 2 cl 0).next s=Yh.mk p0 p1 p2 p3 p4 p5 th 2 cl 0 by simp [Yh.next,e1,ha]];have:=Io hM p0 p1 p2 p3 p4 p5 th cl 0 hk hq (by simp [ha]);rw [hg] at this;exact this
structure Z4 where
 (p0 p1 p2 p3 p4 p5 T nd nx po:Int)
deriving DecidableEq
def Z4.arr (c:Z4):Array Value:=#[U Y c.p0,U Y c.p1,U Y c.p2,U Y c.p3,U Y c.p4,U Y c.p5,U Y c.T,U Y9 c.nd,U Y c.nx,U Y c.po]
structure Z4.Inv (c:Z4):Prop where
 lo:0<=c.nx
 hi:1<=c.T->c.T<=8->c.nx<=c.T
def Z4.err (c:Z4) (s:Zh):Int:=if c.T < 1\/8 < c.T then 100 else if c.nx=c.T then 3 else s.xr c.p3 c.nx
def Z4.mem (c:Z4) (s:Zh):Zh:=if c.T < 1\/8 < c.T then s else if c.nx=c.T then s else if Yv c.p3 c.nx=0 then s.load (c.p3+c.nx) else s
def Z4.jd (c:Z4) (s:Zh):Bool:=decide (s.xv (c.p3+c.nx)=0\/c.nd < s.xv (c.p3+c.nx))
def Z4.qf (c:Z4) (s:Zh):Bool:=if c.err s=0 then (if c.jd s=true then c.nx+1==c.T else false) else false
def Z4.next (c:Z4) (s:Zh):Z4:=if c.err s≠0 then c else if c.jd s=true then {c with nx:=c.nx+1} else {c with po:=wrap64 (c.po+1)}
theorem Sd {a b k:Nat} {s:Zh} {w:W} (hM:Zj 137 w a b s) (c:Z4) (hi:c.Inv) (hk:w.heap[k]? =I (.cells c.arr 243 (0,0))):
  Calls N 113 #[E (I ⟨k,0,O⟩),E (I ⟨a,0,O⟩)] w λ e w'=>e=R9 (.tuple #[.bool (c.qf s),U Y (c.err s)])/\Zj 137 w' a b (c.mem s)/\w'.heap[k]? =I (.cells (c.next s).arr 243 (0,0))/\Ze [a,b,k] w w':=by
 obtain ⟨p0,p1,p2,p3,p4,p5,T,nd,nx,po⟩:=c;obtain ⟨hlo,hhi⟩:=hi;dsimp only at hlo hhi
 by_cases hT:T < 1\/8 < T
 ·have e1:(Z4.mk p0 p1 p2 p3 p4 p5 T nd nx po).err s=100:=by simp [Z4.err,hT]
  rw [e1,show (Z4.mk p0 p1 p2 p3 p4 p5 T nd nx po).qf s=false by simp [Z4.qf,e1],show (Z4.mk p0 p1 p2 p3 p4 p5 T nd nx po).mem s=s by simp [Z4.mem,hT],show (Z4.mk p0 p1 p2 p3 p4 p5 T nd nx po).next s=(Z4.mk p0 p1 p2 p3 p4 p5 T nd nx po) by simp [Z4.next,e1]]
  by_cases h1:T < 1
  ·exact scanA1_c hM p0 p1 p2 p3 p4 p5 T nd nx po hk h1
  ·exact scanA2_c hM p0 p1 p2 p3 p4 p5 T nd nx po hk (by omega) (by omega)
 ·have hl:=hhi (by omega) (by omega)
  by_cases hn:nx=T
  ·subst hn;have e1:(Z4.mk p0 p1 p2 p3 p4 p5 nx nd nx po).err s=3:=by simp [Z4.err,hT]
   rw [e1,show (Z4.mk p0 p1 p2 p3 p4 p5 nx nd nx po).qf s=false by simp [Z4.qf,e1],show (Z4.mk p0 p1 p2 p3 p4 p5 nx nd nx po).mem s=s by simp [Z4.mem],show (Z4.mk p0 p1 p2 p3 p4 p5 nx nd nx po).next s=Z4.mk p0 p1 p2 p3 p4 p5 nx nd nx po by simp [Z4.next,e1]];exact scanB_c hM p0 p1 p2 p3 p4 p5 nx nd po hk (by omega) (by omega)
  ·have t8:nx < 8:=by omega
   have hlt:nx < T:=by omega
   by_cases hp:Yv p3 nx=0
   ·obtain ⟨-,-,hp0,hp1⟩:=Nt hp;rw [show (Z4.mk p0 p1 p2 p3 p4 p5 T nd nx po).mem s=s.load (p3+nx) by simp [Z4.mem,hT,hn,hp]]
    by_cases ha:s.acc (p3+nx)=0
    ·have e1:(Z4.mk p0 p1 p2 p3 p4 p5 T nd nx po).err s=0:=by simp [Z4.err,hT,hn,Zh.xr,hp,ha]
     by_cases g0:s.xv (p3+nx)=0
     ·have hps:(Z4.mk p0 p1 p2 p3 p4 p5 T nd nx po).jd s=true:=by simp [Z4.jd,g0]
      rw [e1,show (Z4.mk p0 p1 p2 p3 p4 p5 T nd nx po).qf s=(nx+1==T) by simp [Z4.qf,e1,hps],show (Z4.mk p0 p1 p2 p3 p4 p5 T nd nx po).next s=Z4.mk p0 p1 p2 p3 p4 p5 T nd (nx+1) po by simp [Z4.next,e1,hps]];exact scanF1_c hM p0 p1 p2 p3 p4 p5 T nd nx po hk (by omega) (by omega) hlo hlt hp ha g0
     ·by_cases g1:nd < s.xv (p3+nx)
      ·have hps:(Z4.mk p0 p1 p2 p3 p4 p5 T nd nx po).jd s=true:=by simp [Z4.jd,g1]
       rw [e1,show (Z4.mk p0 p1 p2 p3 p4 p5 T nd nx po).qf s=(nx+1==T) by simp [Z4.qf,e1,hps],show (Z4.mk p0 p1 p2 p3 p4 p5 T nd nx po).next s=Z4.mk p0 p1 p2 p3 p4 p5 T nd (nx+1) po by simp [Z4.next,e1,hps]];exact scanF2_c hM p0 p1 p2 p3 p4 p5 T nd nx po hk (by omega) (by omega) hlo hlt hp ha (by simp [g0]) g1
      ·have hps:(Z4.mk p0 p1 p2 p3 p4 p5 T nd nx po).jd s=false:=by simp [Z4.jd,g0];omega
       rw [e1,show (Z4.mk p0 p1 p2 p3 p4 p5 T nd nx po).qf s=false by simp [Z4.qf,hps],show (Z4.mk p0 p1 p2 p3 p4 p5 T nd nx po).next s=Z4.mk p0 p1 p2 p3 p4 p5 T nd nx (wrap64 (po+1)) by simp [Z4.next,e1,hps]];exact scanE_c hM p0 p1 p2 p3 p4 p5 T nd nx po hk (by omega) (by omega) hlt hp ha (by simp [g0]) (by omega) (by simp [hn])
    ·have e1:(Z4.mk p0 p1 p2 p3 p4 p5 T nd nx po).err s=s.acc (p3+nx):=by simp [Z4.err,hT,hn,Zh.xr,hp]
     rw [e1,show (Z4.mk p0 p1 p2 p3 p4 p5 T nd nx po).qf s=false by simp [Z4.qf,e1,ha],show (Z4.mk p0 p1 p2 p3 p4 p5 T nd nx po).next s=(Z4.mk p0 p1 p2 p3 p4 p5 T nd nx po) by simp [Z4.next,e1,ha]];exact scanD_c hM p0 p1 p2 p3 p4 p5 T nd nx po hk (by omega) (by omega) hlt hp (by simp [ha])
   ·have hpe:Yv p3 nx=30/\(p3 < 0\/4096 < p3):=by
     rcases Uf p3 nx with ⟨h1,_⟩|⟨_,_,h,e⟩|⟨_,_,_,_,e⟩
     ·omega
     ·exact ⟨e,h⟩
     ·exact absurd e hp
    have e1:(Z4.mk p0 p1 p2 p3 p4 p5 T nd nx po).err s=30:=by simp [Z4.err,hT,hn,Zh.xr,hpe.1]
    rw [e1,show (Z4.mk p0 p1 p2 p3 p4 p5 T nd nx po).qf s=false by simp [Z4.qf,e1],show (Z4.mk p0 p1 p2 p3 p4 p5 T nd nx po).mem s=s by simp [Z4.mem,hp],show (Z4.mk p0 p1 p2 p3 p4 p5 T nd nx po).next s=(Z4.mk p0 p1 p2 p3 p4 p5 T nd nx po) by simp [Z4.next,e1]];exact scanC_c hM p0 p1 p2 p3 p4 p5 T nd nx po hk (by omega) (by omega) hlt hpe.1
theorem L6 {k:Nat} {w:W} (c:Yh) (hk:w.heap[k]? =I (.cells c.arr 189 (0,0))):
  Calls N 236 #[E (I ⟨k,0,O⟩)] w λ e w'=>e=R9 (U Y9 c.st)/\w'=w:=by
 have x:=Za (i:=9) hk J;go_enter func236,ntmps236;go_wp2;go_ret;exact ⟨J,J⟩
theorem come_c (p0 p1 p2 p3 p4 p5 th:Int) (w:W):
  Calls N 76 #[A9 #[U Y p0,U Y p1,U Y p2,U Y p3,U Y p4,U Y p5],U Y th] w λ e w'=>e=R9 (E (I ⟨w.heap.size+1,0,O⟩))/\w'=(w.alloc (X #[U Y p0,U Y p1,U Y p2,U Y p3,U Y p4,U Y p5] 74)).alloc (.cells (Yh.mk p0 p1 p2 p3 p4 p5 th 0 0 0).arr 189):=by
 go_enter func76,ntmps76;go_wp2;go_ret;exact ⟨J,J⟩
theorem look_c13 (p0 p1 p2 p3 p4 p5 th nd:Int) (w:W):
  Calls N 112 #[A9 #[U Y p0,U Y p1,U Y p2,U Y p3,U Y p4,U Y p5],U Y th,U Y9 nd] w λ e w'=>e=R9 (E (I ⟨w.heap.size+1,0,O⟩))/\w'=(w.alloc (X #[U Y p0,U Y p1,U Y p2,U Y p3,U Y p4,U Y p5] 74)).alloc (.cells (Z4.mk p0 p1 p2 p3 p4 p5 th nd 0 0).arr 243):=by
 go_enter func112,ntmps112;go_wp2;go_ret;exact ⟨J,J⟩
end
end Go.Proofs.YtkhonmhnchdpkaaGreat

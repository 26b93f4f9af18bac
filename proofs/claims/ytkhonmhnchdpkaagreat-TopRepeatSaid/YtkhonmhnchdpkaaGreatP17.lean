/- A part of the proof; no condition. -/
import Derived.Test.YtkhonmhnchdpkaaGreatP15
set_option maxRecDepth 100000
set_option maxHeartbeats 40000000
namespace Go.Proofs.YtkhonmhnchdpkaaGreat
open Go.RowKit _root_.Go.Proofs.Tryz
section
def Yw (p3 th:Int):Int:=if th < 0\/8<=th then 100 else if p3 < 0\/4096 < p3 then 30 else 0
def Vh (p3 th:Int):Int:=if Yw p3 th=0 then p3+th else 0
theorem Bc {p3 th:Int} (h:th < 0\/8<=th):Yw p3 th=100:=if_pos h
theorem Mu {p3 th:Int} (h0:0<=th) (h8:th < 8) (h:p3 < 0\/4096 < p3):Yw p3 th=30:=by unfold Yw;rw [if_neg (by omega),if_pos h]
theorem J3 {p3 th:Int} (h0:0<=th) (h8:th < 8) (h:0<=p3) (h':p3<=4096):Yw p3 th=0:=by unfold Yw;rw [if_neg (by omega),if_neg (by omega)]
theorem Vq (p3 th:Int):((th < 0\/8<=th)/\Yw p3 th=100)\/(0<=th/\th < 8/\(p3 < 0\/4096 < p3)/\Yw p3 th=30)\/(0<=th/\th < 8/\0<=p3/\p3<=4096/\Yw p3 th=0):=by
 by_cases h:th < 0\/8<=th
 ·exact .inl ⟨h,Bc h⟩
 ·by_cases k:p3 < 0\/4096 < p3
  ·exact .inr (.inl ⟨by omega,by omega,k,Mu (by omega) (by omega) k⟩)
  ·exact .inr (.inr ⟨by omega,by omega,by omega,by omega,J3 (by omega) (by omega) (by omega) (by omega)⟩)
theorem Ph {p3 th:Int} (h:Yw p3 th=0):0<=th/\th < 8/\0<=p3/\p3<=4096:=by
 rcases Vq p3 th with ⟨_,e⟩|⟨_,_,_,e⟩|⟨a,b,c,d,_⟩
 ·omega
 ·omega
 ·exact ⟨a,b,c,d⟩
theorem R8 (s:Zh) {i:Int} (h:s.acc i≠0):s.got i=0:=if_neg h
theorem Ay (p0 p1 p2 p3 p4 p5 th:Int) (h:th < 0) (w:World):
  Calls Tryz.prog 146 #[.agg #[.int .i64 p0,.int .i64 p1,.int .i64 p2,.int .i64 p3,.int .i64 p4,.int .i64 p5],.int .i64 th] w λ e w'=>e=.returned (.tuple #[.int .i64 0,.int .i64 100])/\w'=w.alloc (.cells #[.int .i64 p0,.int .i64 p1,.int .i64 p2,.int .i64 p3,.int .i64 p4,.int .i64 p5] 74):=by
 go_enter func146,ntmps146;go_wp2;go_ret2;exact ⟨rfl,rfl⟩
theorem Ax (p0 p1 p2 p3 p4 p5 th:Int) (h:8<=th) (w:World):
  Calls Tryz.prog 146 #[.agg #[.int .i64 p0,.int .i64 p1,.int .i64 p2,.int .i64 p3,.int .i64 p4,.int .i64 p5],.int .i64 th] w λ e w'=>e=.returned (.tuple #[.int .i64 0,.int .i64 100])/\w'=w.alloc (.cells #[.int .i64 p0,.int .i64 p1,.int .i64 p2,.int .i64 p3,.int .i64 p4,.int .i64 p5] 74):=by
 go_enter func146,ntmps146;go_wp2;go_ret2;exact ⟨rfl,rfl⟩
theorem Aw (p0 p1 p2 p3 p4 p5 th:Int) (h0:0<=th) (h8:th < 8) (h:p3 < 0) (w:World):
  Calls Tryz.prog 146 #[.agg #[.int .i64 p0,.int .i64 p1,.int .i64 p2,.int .i64 p3,.int .i64 p4,.int .i64 p5],.int .i64 th] w λ e w'=>e=.returned (.tuple #[.int .i64 0,.int .i64 30])/\w'=w.alloc (.cells #[.int .i64 p0,.int .i64 p1,.int .i64 p2,.int .i64 p3,.int .i64 p4,.int .i64 p5] 74):=by
 go_enter func146,ntmps146;go_wp2;go_ret2;exact ⟨rfl,rfl⟩
theorem Av (p0 p1 p2 p3 p4 p5 th:Int) (h0:0<=th) (h8:th < 8) (h:4096 < p3) (w:World):
  Calls Tryz.prog 146 #[.agg #[.int .i64 p0,.int .i64 p1,.int .i64 p2,.int .i64 p3,.int .i64 p4,.int .i64 p5],.int .i64 th] w λ e w'=>e=.returned (.tuple #[.int .i64 0,.int .i64 30])/\w'=w.alloc (.cells #[.int .i64 p0,.int .i64 p1,.int .i64 p2,.int .i64 p3,.int .i64 p4,.int .i64 p5] 74):=by
 go_enter func146,ntmps146;go_wp2;go_ret2;exact ⟨rfl,rfl⟩
theorem Au (p0 p1 p2 p3 p4 p5 th:Int) (h0:0<=th) (h8:th < 8) (h:0<=p3) (h':p3<=4096) (w:World):
  Calls Tryz.prog 146 #[.agg #[.int .i64 p0,.int .i64 p1,.int .i64 p2,.int .i64 p3,.int .i64 p4,.int .i64 p5],.int .i64 th] w λ e w'=>e=.returned (.tuple #[.int .i64 (p3+th),.int .i64 0])/\w'=w.alloc (.cells #[.int .i64 p0,.int .i64 p1,.int .i64 p2,.int .i64 p3,.int .i64 p4,.int .i64 p5] 74):=by
 go_enter func146,ntmps146;go_wp2;go_ret2;exact ⟨rfl,rfl⟩
theorem Qh (p0 p1 p2 p3 p4 p5 th:Int) (w:World):
  Calls Tryz.prog 146 #[.agg #[.int .i64 p0,.int .i64 p1,.int .i64 p2,.int .i64 p3,.int .i64 p4,.int .i64 p5],.int .i64 th] w λ e w'=>e=.returned (.tuple #[.int .i64 (Vh p3 th),.int .i64 (Yw p3 th)])/\w'=w.alloc (.cells #[.int .i64 p0,.int .i64 p1,.int .i64 p2,.int .i64 p3,.int .i64 p4,.int .i64 p5] 74):=by
 rcases Vq p3 th with ⟨h,he⟩|⟨h0,h8,h,he⟩|⟨h0,h8,h,h',he⟩
 ·have ha:Vh p3 th=0:=by unfold Vh;rw [he];rfl
  rw [ha,he];rcases h with h|h
  ·exact Ay _ _ _ _ _ _ _ h w
  ·exact Ax _ _ _ _ _ _ _ h w
 ·have ha:Vh p3 th=0:=by unfold Vh;rw [he];rfl
  rw [ha,he];rcases h with h|h
  ·exact Aw _ _ _ _ _ _ _ h0 h8 h w
  ·exact Av _ _ _ _ _ _ _ h0 h8 h w
 ·have ha:Vh p3 th=p3+th:=by unfold Vh;rw [he];rfl
  rw [ha,he];exact Au _ _ _ _ _ _ _ h0 h8 h h' w
end
section
def Zh.leaveE (s:Zh) (p3 th:Int):Int:=if Yw p3 th=0 then s.acc (p3+th) else Yw p3 th
def Zh.leave (s:Zh) (p3 th:Int):Zh:=if Yw p3 th=0 then s.store (p3+th) 0 else s
theorem stamp_c {a b:Nat} {s:Zh} {w:World} (hM:Zi 137 w a b s) (p0 p1 p2 p3 p4 p5:Int):
  Calls Tryz.prog 107 #[.pointer (some ⟨a,0,none⟩),.agg #[.int .i64 p0,.int .i64 p1,.int .i64 p2,.int .i64 p3,.int .i64 p4,.int .i64 p5]] w λ e w'=>e=.returned (.tuple #[.int .u64 (s.got p2),.int .i64 (s.acc p2)])/\Zi 137 w' a b (s.load p2)/\Ze [a,b] w w':=by
 have ha:=hM.lta;have hb:=hM.ltb;go_enter func107,ntmps107;go_wp2_with (go_at_call 138;refine (Vz (hM.alloc _) _).mono ?_;rintro e w1 ⟨rfl,M1,d1⟩);go_ret2;exact ⟨rfl,M1,Ze.then ((by repeat (first|with_reducible exact Zr_ _ _|with_reducible assumption|with_reducible refine Ze.alloc ?_ _)):Ze [a,b] w _) d1 (by simp)⟩
theorem Ar {a b:Nat} {s:Zh} {w:World} (hM:Zi 137 w a b s) (p0 p1 p2 p3 p4 p5 v:Int):
  Calls Tryz.prog 117 #[.pointer (some ⟨a,0,none⟩),.agg #[.int .i64 p0,.int .i64 p1,.int .i64 p2,.int .i64 p3,.int .i64 p4,.int .i64 p5],.int .u64 v] w λ e w'=>e=.returned (.int .i64 (s.acc p2))/\Zi 137 w' a b (s.store p2 v)/\Ze [a,b] w w':=by
 have ha:=hM.lta;have hb:=hM.ltb;go_enter func117,ntmps117;go_wp2_with (go_at_call 148;refine (Qx (hM.alloc _) _ _).mono ?_;rintro e w1 ⟨rfl,M1,d1⟩);go_ret;exact ⟨rfl,M1,Ze.then ((by repeat (first|with_reducible exact Zr_ _ _|with_reducible assumption|with_reducible refine Ze.alloc ?_ _)):Ze [a,b] w _) d1 (by simp)⟩
theorem leave_c {a b:Nat} {s:Zh} {w:World} (hM:Zi 137 w a b s) (p0 p1 p2 p3 p4 p5 th:Int):
  Calls Tryz.prog 239 #[.pointer (some ⟨a,0,none⟩),.agg #[.int .i64 p0,.int .i64 p1,.int .i64 p2,.int .i64 p3,.int .i64 p4,.int .i64 p5],.int .i64 th] w λ e w'=>e=.returned (.int .i64 (s.leaveE p3 th))/\Zi 137 w' a b (s.leave p3 th)/\Ze [a,b] w w':=by
 have ha:=hM.lta;have hb:=hM.ltb
 by_cases hp:Yw p3 th=0
 ·have hat:Vh p3 th=p3+th:=if_pos hp;go_enter func239,ntmps239;go_wp2_with (first|(go_at_call 146;refine (Qh _ _ _ _ _ _ _ _).mono ?_;rintro e w1 ⟨rfl,rfl⟩)|(go_at_call 148;refine (Qx ((hM.alloc _).alloc _) _ _).mono ?_;rintro e w1 ⟨rfl,M1,d1⟩))
  go_ret;exact ⟨by simp [Zh.leaveE,hp],by simpa [Zh.leave,hp] using M1,Ze.then ((by repeat (first|with_reducible exact Zr_ _ _|with_reducible assumption|with_reducible refine Ze.alloc ?_ _)):Ze [a,b] w _) d1 (by simp)⟩
 ·have hn:(Yw p3 th !=0)=true:=by simp [hp]
  have Hp:=Zh_ hp;clear hp;go_enter func239,ntmps239;go_wp2_with (go_at_call 146;refine (Qh _ _ _ _ _ _ _ _).mono ?_;rintro e w1 ⟨rfl,rfl⟩);go_ret;have hp:=Hp.out;exact ⟨by simp [Zh.leaveE,hp],by simpa [Zh.leave,hp] using (hM.alloc _).alloc _,(by repeat (first|with_reducible exact Zr_ _ _|with_reducible assumption|with_reducible refine Ze.alloc ?_ _))⟩
end
section
theorem com3_c {a b k:Nat} {s:Zh} {w:World} (hM:Zi 137 w a b s) (p0 p1 p2 p3 p4 p5 th cl st:Int) (hk:w.heap[k]? =some (.cells #[.int .i64 p0,.int .i64 p1,.int .i64 p2,.int .i64 p3,.int .i64 p4,.int .i64 p5,.int .i64 th,.int .i64 3,.int .u64 cl,.int .u64 st] 189 (0,0))):
  Calls Tryz.prog 237 #[.pointer (some ⟨k,0,none⟩),.pointer (some ⟨a,0,none⟩)] w λ e w'=>e=.returned (.tuple #[.bool false,.int .i64 3])/\Zi 137 w' a b (s)/\w'.heap[k]? =some (.cells #[.int .i64 p0,.int .i64 p1,.int .i64 p2,.int .i64 p3,.int .i64 p4,.int .i64 p5,.int .i64 th,.int .i64 3,.int .u64 cl,.int .u64 st] 189 (0,0))/\Ze [a,b,k] w w':=by
 have ha:=hM.lta;have hb:=hM.ltb;have hkl:=lt_of_block hk;have hka:k≠a:=Zp hk hM.hd (by decide);have hkb:k≠b:=Zp hk hM.ws (by decide);obtain ⟨x0,x1,x2,x3,x4,x5,x6,x7,x8,x9⟩:=Zc10a_ hk;have xf7:=Zb (i:=7) hk;have xf8:=Zb (i:=8) hk;have xf9:=Zb (i:=9) hk;go_enter func237,ntmps237;go_wp2;go_ret2;exact ⟨rfl,hM,hk,Zr_ _ _⟩
theorem comT_c {a b k:Nat} {s:Zh} {w:World} (hM:Zi 137 w a b s) (p0 p1 p2 p3 p4 p5 th cl st:Int) (n:Int) (hk:w.heap[k]? =some (.cells #[.int .i64 p0,.int .i64 p1,.int .i64 p2,.int .i64 p3,.int .i64 p4,.int .i64 p5,.int .i64 th,.int .i64 n,.int .u64 cl,.int .u64 st] 189 (0,0))) (hn3:(n==3)=false) (he:Yw p3 th=100):
  Calls Tryz.prog 237 #[.pointer (some ⟨k,0,none⟩),.pointer (some ⟨a,0,none⟩)] w λ e w'=>e=.returned (.tuple #[.bool false,.int .i64 100])/\Zi 137 w' a b (s)/\w'.heap[k]? =some (.cells #[.int .i64 p0,.int .i64 p1,.int .i64 p2,.int .i64 p3,.int .i64 p4,.int .i64 p5,.int .i64 th,.int .i64 n,.int .u64 cl,.int .u64 st] 189 (0,0))/\Ze [a,b,k] w w':=by
 have ha:=hM.lta;have hb:=hM.ltb;have hkl:=lt_of_block hk;have hka:k≠a:=Zp hk hM.hd (by decide);have hkb:k≠b:=Zp hk hM.ws (by decide);obtain ⟨x0,x1,x2,x3,x4,x5,x6,x7,x8,x9⟩:=Zc10a_ hk;have xf7:=Zb (i:=7) hk;have xf8:=Zb (i:=8) hk;have xf9:=Zb (i:=9) hk;have He:=Zh_ he;clear he;go_enter func237,ntmps237;go_upto_region 3 with fail
 go_cut [6,7] (λ x y wx=>x=.int .i64 (Vh p3 th)/\y=.int .i64 (Yw p3 th)/\Zi 137 wx a b s/\wx.heap[k]? =some (.cells #[.int .i64 p0,.int .i64 p1,.int .i64 p2,.int .i64 p3,.int .i64 p4,.int .i64 p5,.int .i64 th,.int .i64 n,.int .u64 cl,.int .u64 st] 189 (0,0))/\Ze [] w wx)
 case first=>
  go_region_with (go_at_call 146;refine (Qh _ _ _ _ _ _ _ _).mono ?_;rintro e w1 ⟨rfl,rfl⟩)
  all_goals
   go_wp2_with fail;go_meet;exact ⟨rfl,rfl,by repeat (first|exact hM|refine Zi.drew ?_|refine Zi.alloc ?_ _),Zf _ hk,(by repeat (first|with_reducible exact Zr_ _ _|with_reducible assumption|with_reducible refine Ze.drew ?_|with_reducible refine Ze.alloc ?_ _|with_reducible refine Ze.setCell ?_ _ _ (.inl (by simp))))⟩
 case rest=>
  obtain ⟨rfl,rfl,M1,K1,D1⟩:=hcut;clear x0 x1 x2 x3 x4 x5 x6 x7 x8 x9 xf7 xf8 xf9;rw [He.out];go_wp2;go_ret2;exact ⟨rfl,M1,K1,D1.weak _⟩
theorem com0ok_c {a b k:Nat} {s:Zh} {w:World} (hM:Zi 137 w a b s) (p0 p1 p2 p3 p4 p5 th cl st:Int) (hk:w.heap[k]? =some (.cells #[.int .i64 p0,.int .i64 p1,.int .i64 p2,.int .i64 p3,.int .i64 p4,.int .i64 p5,.int .i64 th,.int .i64 0,.int .u64 cl,.int .u64 st] 189 (0,0))) (hq:(Yw p3 th==100)=false) (h0:s.acc p2=0):
  Calls Tryz.prog 237 #[.pointer (some ⟨k,0,none⟩),.pointer (some ⟨a,0,none⟩)] w λ e w'=>e=.returned (.tuple #[.bool false,.int .i64 0])/\Zi 137 w' a b (s.load p2)/\w'.heap[k]? =some (.cells #[.int .i64 p0,.int .i64 p1,.int .i64 p2,.int .i64 p3,.int .i64 p4,.int .i64 p5,.int .i64 th,.int .i64 1,.int .u64 (s.got p2),.int .u64 st] 189 (0,0))/\Ze [a,b,k] w w':=by
 have ha:=hM.lta;have hb:=hM.ltb;have hkl:=lt_of_block hk;have hka:k≠a:=Zp hk hM.hd (by decide);have hkb:k≠b:=Zp hk hM.ws (by decide);obtain ⟨x0,x1,x2,x3,x4,x5,x6,x7,x8,x9⟩:=Zc10a_ hk;have xf7:=Zb (i:=7) hk;have xf8:=Zb (i:=8) hk;have xf9:=Zb (i:=9) hk;go_enter func237,ntmps237;go_upto_region 3 with fail
 go_cut [6,7] (λ x y wx=>x=.int .i64 (Vh p3 th)/\y=.int .i64 (Yw p3 th)/\Zi 137 wx a b s/\wx.heap[k]? =some (.cells #[.int .i64 p0,.int .i64 p1,.int .i64 p2,.int .i64 p3,.int .i64 p4,.int .i64 p5,.int .i64 th,.int .i64 0,.int .u64 cl,.int .u64 st] 189 (0,0))/\Ze [] w wx)
 case first=>
  go_region_with (go_at_call 146;refine (Qh _ _ _ _ _ _ _ _).mono ?_;rintro e w1 ⟨rfl,rfl⟩)
  all_goals
   go_wp2_with fail;go_meet;exact ⟨rfl,rfl,by repeat (first|exact hM|refine Zi.drew ?_|refine Zi.alloc ?_ _),Zf _ hk,(by repeat (first|with_reducible exact Zr_ _ _|with_reducible assumption|with_reducible refine Ze.drew ?_|with_reducible refine Ze.alloc ?_ _|with_reducible refine Ze.setCell ?_ _ _ (.inl (by simp))))⟩
 case rest=>
  obtain ⟨rfl,rfl,M1,K1,D1⟩:=hcut;clear x0 x1 x2 x3 x4 x5 x6 x7 x8 x9 xf7 xf8 xf9;obtain ⟨y0,y1,y2,y3,y4,y5,y6,y7,y8,y9⟩:=Zc10a_ K1;have yf7:=Zb (i:=7) K1;have yf8:=Zb (i:=8) K1;have yf9:=Zb (i:=9) K1;go_wp2_with fail;refine (Vz M1 _).mono ?_;rintro e w2 ⟨rfl,M2,d2⟩;have K2:=d2.at K1 (by simp;omega);have HD:Hid (Ze [a,b,k] w w2):=(D1.weak _).then d2 (by simp)
  have HM:=Zh_ M2;clear y0 y1 y2 y3 y4 y5 y6 y7 y8 y9 yf7 yf8 yf9 D1 d2 M1 M2 K1;obtain ⟨z0,z1,z2,z3,z4,z5,z6,z7,z8,z9⟩:=Zc10a_ K2;have zf7:=Zb (i:=7) K2;have zf8:=Zb (i:=8) K2;have zf9:=Zb (i:=9) K2;go_wp2;go_ret2;exact ⟨rfl,((HM.out.other _ _ _ (Ne.symm hka) (Ne.symm hkb)).other _ _ _ (Ne.symm hka) (Ne.symm hkb)),Zd _ (Zd _ K2),Ze.trans HD.out (by repeat (first|with_reducible exact Zr_ _ _|with_reducible refine Ze.setCell ?_ _ _ (.inl (by simp))))⟩
theorem Wv {a b k:Nat} {s:Zh} {w:World} (hM:Zi 137 w a b s) (p0 p1 p2 p3 p4 p5 th cl st:Int) (hk:w.heap[k]? =some (.cells #[.int .i64 p0,.int .i64 p1,.int .i64 p2,.int .i64 p3,.int .i64 p4,.int .i64 p5,.int .i64 th,.int .i64 0,.int .u64 cl,.int .u64 st] 189 (0,0))) (hq:(Yw p3 th==100)=false) (h0:(s.acc p2 !=0)=true):
  Calls Tryz.prog 237 #[.pointer (some ⟨k,0,none⟩),.pointer (some ⟨a,0,none⟩)] w λ e w'=>e=.returned (.tuple #[.bool false,.int .i64 (s.acc p2)])/\Zi 137 w' a b (s.load p2)/\w'.heap[k]? =some (.cells #[.int .i64 p0,.int .i64 p1,.int .i64 p2,.int .i64 p3,.int .i64 p4,.int .i64 p5,.int .i64 th,.int .i64 0,.int .u64 (s.got p2),.int .u64 st] 189 (0,0))/\Ze [a,b,k] w w':=by
 have ha:=hM.lta;have hb:=hM.ltb;have hkl:=lt_of_block hk;have hka:k≠a:=Zp hk hM.hd (by decide);have hkb:k≠b:=Zp hk hM.ws (by decide);obtain ⟨x0,x1,x2,x3,x4,x5,x6,x7,x8,x9⟩:=Zc10a_ hk;have xf7:=Zb (i:=7) hk;have xf8:=Zb (i:=8) hk;have xf9:=Zb (i:=9) hk;go_enter func237,ntmps237;go_upto_region 3 with fail
 go_cut [6,7] (λ x y wx=>x=.int .i64 (Vh p3 th)/\y=.int .i64 (Yw p3 th)/\Zi 137 wx a b s/\wx.heap[k]? =some (.cells #[.int .i64 p0,.int .i64 p1,.int .i64 p2,.int .i64 p3,.int .i64 p4,.int .i64 p5,.int .i64 th,.int .i64 0,.int .u64 cl,.int .u64 st] 189 (0,0))/\Ze [] w wx)
 case first=>
  go_region_with (go_at_call 146;refine (Qh _ _ _ _ _ _ _ _).mono ?_;rintro e w1 ⟨rfl,rfl⟩)
  all_goals
   go_wp2_with fail;go_meet;exact ⟨rfl,rfl,by repeat (first|exact hM|refine Zi.drew ?_|refine Zi.alloc ?_ _),Zf _ hk,(by repeat (first|with_reducible exact Zr_ _ _|with_reducible assumption|with_reducible refine Ze.drew ?_|with_reducible refine Ze.alloc ?_ _|with_reducible refine Ze.setCell ?_ _ _ (.inl (by simp))))⟩
 case rest=>
  obtain ⟨rfl,rfl,M1,K1,D1⟩:=hcut;clear x0 x1 x2 x3 x4 x5 x6 x7 x8 x9 xf7 xf8 xf9;obtain ⟨y0,y1,y2,y3,y4,y5,y6,y7,y8,y9⟩:=Zc10a_ K1;have yf7:=Zb (i:=7) K1;have yf8:=Zb (i:=8) K1;have yf9:=Zb (i:=9) K1;go_wp2_with fail;refine (Vz M1 _).mono ?_;rintro e w2 ⟨rfl,M2,d2⟩;have K2:=d2.at K1 (by simp;omega);have HD:Hid (Ze [a,b,k] w w2):=(D1.weak _).then d2 (by simp)
  have HM:=Zh_ M2;clear y0 y1 y2 y3 y4 y5 y6 y7 y8 y9 yf7 yf8 yf9 D1 d2 M1 M2 K1;obtain ⟨z0,z1,z2,z3,z4,z5,z6,z7,z8,z9⟩:=Zc10a_ K2;have zf7:=Zb (i:=7) K2;have zf8:=Zb (i:=8) K2;have zf9:=Zb (i:=9) K2;go_wp2;go_ret2;exact ⟨rfl,(HM.out.other _ _ _ (Ne.symm hka) (Ne.symm hkb)),Zd _ K2,Ze.trans HD.out (by repeat (first|with_reducible exact Zr_ _ _|with_reducible refine Ze.setCell ?_ _ _ (.inl (by simp))))⟩
theorem com2ok_c {a b k:Nat} {s:Zh} {w:World} (hM:Zi 137 w a b s) (p0 p1 p2 p3 p4 p5 th cl st:Int) (hk:w.heap[k]? =some (.cells #[.int .i64 p0,.int .i64 p1,.int .i64 p2,.int .i64 p3,.int .i64 p4,.int .i64 p5,.int .i64 th,.int .i64 2,.int .u64 cl,.int .u64 st] 189 (0,0))) (hq:(Yw p3 th==100)=false) (h0:s.acc p2=0):
  Calls Tryz.prog 237 #[.pointer (some ⟨k,0,none⟩),.pointer (some ⟨a,0,none⟩)] w λ e w'=>e=.returned (.tuple #[.bool true,.int .i64 0])/\Zi 137 w' a b (s.load p2)/\w'.heap[k]? =some (.cells #[.int .i64 p0,.int .i64 p1,.int .i64 p2,.int .i64 p3,.int .i64 p4,.int .i64 p5,.int .i64 th,.int .i64 3,.int .u64 cl,.int .u64 (s.got p2)] 189 (0,0))/\Ze [a,b,k] w w':=by
 have ha:=hM.lta;have hb:=hM.ltb;have hkl:=lt_of_block hk;have hka:k≠a:=Zp hk hM.hd (by decide);have hkb:k≠b:=Zp hk hM.ws (by decide);obtain ⟨x0,x1,x2,x3,x4,x5,x6,x7,x8,x9⟩:=Zc10a_ hk;have xf7:=Zb (i:=7) hk;have xf8:=Zb (i:=8) hk;have xf9:=Zb (i:=9) hk;go_enter func237,ntmps237;go_upto_region 3 with fail
 go_cut [6,7] (λ x y wx=>x=.int .i64 (Vh p3 th)/\y=.int .i64 (Yw p3 th)/\Zi 137 wx a b s/\wx.heap[k]? =some (.cells #[.int .i64 p0,.int .i64 p1,.int .i64 p2,.int .i64 p3,.int .i64 p4,.int .i64 p5,.int .i64 th,.int .i64 2,.int .u64 cl,.int .u64 st] 189 (0,0))/\Ze [] w wx)
 case first=>
  go_region_with (go_at_call 146;refine (Qh _ _ _ _ _ _ _ _).mono ?_;rintro e w1 ⟨rfl,rfl⟩)
  all_goals
   go_wp2_with fail;go_meet;exact ⟨rfl,rfl,by repeat (first|exact hM|refine Zi.drew ?_|refine Zi.alloc ?_ _),Zf _ hk,(by repeat (first|with_reducible exact Zr_ _ _|with_reducible assumption|with_reducible refine Ze.drew ?_|with_reducible refine Ze.alloc ?_ _|with_reducible refine Ze.setCell ?_ _ _ (.inl (by simp))))⟩
 case rest=>
  obtain ⟨rfl,rfl,M1,K1,D1⟩:=hcut;clear x0 x1 x2 x3 x4 x5 x6 x7 x8 x9 xf7 xf8 xf9;obtain ⟨y0,y1,y2,y3,y4,y5,y6,y7,y8,y9⟩:=Zc10a_ K1;have yf7:=Zb (i:=7) K1;have yf8:=Zb (i:=8) K1;have yf9:=Zb (i:=9) K1;go_wp2_with fail;refine (Vz M1 _).mono ?_;rintro e w2 ⟨rfl,M2,d2⟩;have K2:=d2.at K1 (by simp;omega);have HD:Hid (Ze [a,b,k] w w2):=(D1.weak _).then d2 (by simp)
  have HM:=Zh_ M2;clear y0 y1 y2 y3 y4 y5 y6 y7 y8 y9 yf7 yf8 yf9 D1 d2 M1 M2 K1;obtain ⟨z0,z1,z2,z3,z4,z5,z6,z7,z8,z9⟩:=Zc10a_ K2;have zf7:=Zb (i:=7) K2;have zf8:=Zb (i:=8) K2;have zf9:=Zb (i:=9) K2;go_wp2;go_ret2;exact ⟨rfl,((HM.out.other _ _ _ (Ne.symm hka) (Ne.symm hkb)).other _ _ _ (Ne.symm hka) (Ne.symm hkb)),Zd _ (Zd _ K2),Ze.trans HD.out (by repeat (first|with_reducible exact Zr_ _ _|with_reducible refine Ze.setCell ?_ _ _ (.inl (by simp))))⟩
theorem Wt {a b k:Nat} {s:Zh} {w:World} (hM:Zi 137 w a b s) (p0 p1 p2 p3 p4 p5 th cl st:Int) (hk:w.heap[k]? =some (.cells #[.int .i64 p0,.int .i64 p1,.int .i64 p2,.int .i64 p3,.int .i64 p4,.int .i64 p5,.int .i64 th,.int .i64 2,.int .u64 cl,.int .u64 st] 189 (0,0))) (hq:(Yw p3 th==100)=false) (h0:(s.acc p2 !=0)=true):
  Calls Tryz.prog 237 #[.pointer (some ⟨k,0,none⟩),.pointer (some ⟨a,0,none⟩)] w λ e w'=>e=.returned (.tuple #[.bool false,.int .i64 (s.acc p2)])/\Zi 137 w' a b (s.load p2)/\w'.heap[k]? =some (.cells #[.int .i64 p0,.int .i64 p1,.int .i64 p2,.int .i64 p3,.int .i64 p4,.int .i64 p5,.int .i64 th,.int .i64 2,.int .u64 cl,.int .u64 (s.got p2)] 189 (0,0))/\Ze [a,b,k] w w':=by
 have ha:=hM.lta;have hb:=hM.ltb;have hkl:=lt_of_block hk;have hka:k≠a:=Zp hk hM.hd (by decide);have hkb:k≠b:=Zp hk hM.ws (by decide);obtain ⟨x0,x1,x2,x3,x4,x5,x6,x7,x8,x9⟩:=Zc10a_ hk;have xf7:=Zb (i:=7) hk;have xf8:=Zb (i:=8) hk;have xf9:=Zb (i:=9) hk;go_enter func237,ntmps237;go_upto_region 3 with fail
 go_cut [6,7] (λ x y wx=>x=.int .i64 (Vh p3 th)/\y=.int .i64 (Yw p3 th)/\Zi 137 wx a b s/\wx.heap[k]? =some (.cells #[.int .i64 p0,.int .i64 p1,.int .i64 p2,.int .i64 p3,.int .i64 p4,.int .i64 p5,.int .i64 th,.int .i64 2,.int .u64 cl,.int .u64 st] 189 (0,0))/\Ze [] w wx)
 case first=>
  go_region_with (go_at_call 146;refine (Qh _ _ _ _ _ _ _ _).mono ?_;rintro e w1 ⟨rfl,rfl⟩)
  all_goals
   go_wp2_with fail;go_meet;exact ⟨rfl,rfl,by repeat (first|exact hM|refine Zi.drew ?_|refine Zi.alloc ?_ _),Zf _ hk,(by repeat (first|with_reducible exact Zr_ _ _|with_reducible assumption|with_reducible refine Ze.drew ?_|with_reducible refine Ze.alloc ?_ _|with_reducible refine Ze.setCell ?_ _ _ (.inl (by simp))))⟩
 case rest=>
  obtain ⟨rfl,rfl,M1,K1,D1⟩:=hcut;clear x0 x1 x2 x3 x4 x5 x6 x7 x8 x9 xf7 xf8 xf9;obtain ⟨y0,y1,y2,y3,y4,y5,y6,y7,y8,y9⟩:=Zc10a_ K1;have yf7:=Zb (i:=7) K1;have yf8:=Zb (i:=8) K1;have yf9:=Zb (i:=9) K1;go_wp2_with fail;refine (Vz M1 _).mono ?_;rintro e w2 ⟨rfl,M2,d2⟩;have K2:=d2.at K1 (by simp;omega);have HD:Hid (Ze [a,b,k] w w2):=(D1.weak _).then d2 (by simp)
  have HM:=Zh_ M2;clear y0 y1 y2 y3 y4 y5 y6 y7 y8 y9 yf7 yf8 yf9 D1 d2 M1 M2 K1;obtain ⟨z0,z1,z2,z3,z4,z5,z6,z7,z8,z9⟩:=Zc10a_ K2;have zf7:=Zb (i:=7) K2;have zf8:=Zb (i:=8) K2;have zf9:=Zb (i:=9) K2;go_wp2;go_ret2;exact ⟨rfl,(HM.out.other _ _ _ (Ne.symm hka) (Ne.symm hkb)),Zd _ K2,Ze.trans HD.out (by repeat (first|with_reducible exact Zr_ _ _|with_reducible refine Ze.setCell ?_ _ _ (.inl (by simp))))⟩
theorem Ts {a b k:Nat} {s:Zh} {w:World} (hM:Zi 137 w a b s) (p0 p1 p2 p3 p4 p5 th cl st:Int) (hk:w.heap[k]? =some (.cells #[.int .i64 p0,.int .i64 p1,.int .i64 p2,.int .i64 p3,.int .i64 p4,.int .i64 p5,.int .i64 th,.int .i64 1,.int .u64 cl,.int .u64 st] 189 (0,0))) (he:Yw p3 th=30):
  Calls Tryz.prog 237 #[.pointer (some ⟨k,0,none⟩),.pointer (some ⟨a,0,none⟩)] w λ e w'=>e=.returned (.tuple #[.bool false,.int .i64 30])/\Zi 137 w' a b (s)/\w'.heap[k]? =some (.cells #[.int .i64 p0,.int .i64 p1,.int .i64 p2,.int .i64 p3,.int .i64 p4,.int .i64 p5,.int .i64 th,.int .i64 1,.int .u64 cl,.int .u64 st] 189 (0,0))/\Ze [a,b,k] w w':=by
 have ha:=hM.lta;have hb:=hM.ltb;have hkl:=lt_of_block hk;have hka:k≠a:=Zp hk hM.hd (by decide);have hkb:k≠b:=Zp hk hM.ws (by decide);obtain ⟨x0,x1,x2,x3,x4,x5,x6,x7,x8,x9⟩:=Zc10a_ hk;have xf7:=Zb (i:=7) hk;have xf8:=Zb (i:=8) hk;have xf9:=Zb (i:=9) hk;have He:=Zh_ he;clear he;go_enter func237,ntmps237;go_upto_region 3 with fail
 go_cut [6,7] (λ x y wx=>x=.int .i64 (Vh p3 th)/\y=.int .i64 (Yw p3 th)/\Zi 137 wx a b s/\wx.heap[k]? =some (.cells #[.int .i64 p0,.int .i64 p1,.int .i64 p2,.int .i64 p3,.int .i64 p4,.int .i64 p5,.int .i64 th,.int .i64 1,.int .u64 cl,.int .u64 st] 189 (0,0))/\Ze [] w wx)
 case first=>
  go_region_with (go_at_call 146;refine (Qh _ _ _ _ _ _ _ _).mono ?_;rintro e w1 ⟨rfl,rfl⟩)
  all_goals
   go_wp2_with fail;go_meet;exact ⟨rfl,rfl,by repeat (first|exact hM|refine Zi.drew ?_|refine Zi.alloc ?_ _),Zf _ hk,(by repeat (first|with_reducible exact Zr_ _ _|with_reducible assumption|with_reducible refine Ze.drew ?_|with_reducible refine Ze.alloc ?_ _|with_reducible refine Ze.setCell ?_ _ _ (.inl (by simp))))⟩
 case rest=>
  obtain ⟨rfl,rfl,M1,K1,D1⟩:=hcut;clear x0 x1 x2 x3 x4 x5 x6 x7 x8 x9 xf7 xf8 xf9;rw [He.out];obtain ⟨y0,y1,y2,y3,y4,y5,y6,y7,y8,y9⟩:=Zc10a_ K1;have yf7:=Zb (i:=7) K1;have yf8:=Zb (i:=8) K1;have yf9:=Zb (i:=9) K1;go_wp2;go_ret2;exact ⟨rfl,M1,K1,D1.weak _⟩
theorem com1ok_c {a b k:Nat} {s:Zh} {w:World} (hM:Zi 137 w a b s) (p0 p1 p2 p3 p4 p5 th cl st:Int) (hk:w.heap[k]? =some (.cells #[.int .i64 p0,.int .i64 p1,.int .i64 p2,.int .i64 p3,.int .i64 p4,.int .i64 p5,.int .i64 th,.int .i64 1,.int .u64 cl,.int .u64 st] 189 (0,0))) (he:Yw p3 th=0) (h0:s.acc (p3+th)=0):
  Calls Tryz.prog 237 #[.pointer (some ⟨k,0,none⟩),.pointer (some ⟨a,0,none⟩)] w λ e w'=>e=.returned (.tuple #[.bool false,.int .i64 0])/\Zi 137 w' a b (s.store (p3+th) (IntKind.u64.wrap (cl+1)))/\w'.heap[k]? =some (.cells #[.int .i64 p0,.int .i64 p1,.int .i64 p2,.int .i64 p3,.int .i64 p4,.int .i64 p5,.int .i64 th,.int .i64 2,.int .u64 cl,.int .u64 st] 189 (0,0))/\Ze [a,b,k] w w':=by
 have ha:=hM.lta;have hb:=hM.ltb;have hkl:=lt_of_block hk;have hka:k≠a:=Zp hk hM.hd (by decide);have hkb:k≠b:=Zp hk hM.ws (by decide);obtain ⟨x0,x1,x2,x3,x4,x5,x6,x7,x8,x9⟩:=Zc10a_ hk;have xf7:=Zb (i:=7) hk;have xf8:=Zb (i:=8) hk;have xf9:=Zb (i:=9) hk;have hat:Vh p3 th=p3+th:=if_pos he;have Hat:=Zh_ hat;clear hat;have He:=Zh_ he;clear he;go_enter func237,ntmps237;go_upto_region 3 with fail
 go_cut [6,7] (λ x y wx=>x=.int .i64 (Vh p3 th)/\y=.int .i64 (Yw p3 th)/\Zi 137 wx a b s/\wx.heap[k]? =some (.cells #[.int .i64 p0,.int .i64 p1,.int .i64 p2,.int .i64 p3,.int .i64 p4,.int .i64 p5,.int .i64 th,.int .i64 1,.int .u64 cl,.int .u64 st] 189 (0,0))/\Ze [] w wx)
 case first=>
  go_region_with (go_at_call 146;refine (Qh _ _ _ _ _ _ _ _).mono ?_;rintro e w1 ⟨rfl,rfl⟩)
  all_goals
   go_wp2_with fail;go_meet;exact ⟨rfl,rfl,by repeat (first|exact hM|refine Zi.drew ?_|refine Zi.alloc ?_ _),Zf _ hk,(by repeat (first|with_reducible exact Zr_ _ _|with_reducible assumption|with_reducible refine Ze.drew ?_|with_reducible refine Ze.alloc ?_ _|with_reducible refine Ze.setCell ?_ _ _ (.inl (by simp))))⟩
 case rest=>
  obtain ⟨rfl,rfl,M1,K1,D1⟩:=hcut;clear x0 x1 x2 x3 x4 x5 x6 x7 x8 x9 xf7 xf8 xf9;rw [He.out,Hat.out];obtain ⟨y0,y1,y2,y3,y4,y5,y6,y7,y8,y9⟩:=Zc10a_ K1;have yf7:=Zb (i:=7) K1;have yf8:=Zb (i:=8) K1;have yf9:=Zb (i:=9) K1;go_wp2_with fail;refine (Qx M1 _ _).mono ?_;rintro e w2 ⟨rfl,M2,d2⟩;have K2:=d2.at K1 (by simp;omega);have HD:Hid (Ze [a,b,k] w w2):=(D1.weak _).then d2 (by simp)
  have HM:=Zh_ M2;clear y0 y1 y2 y3 y4 y5 y6 y7 y8 y9 yf7 yf8 yf9 D1 d2 M1 M2 K1;obtain ⟨z0,z1,z2,z3,z4,z5,z6,z7,z8,z9⟩:=Zc10a_ K2;have zf7:=Zb (i:=7) K2;have zf8:=Zb (i:=8) K2;have zf9:=Zb (i:=9) K2;go_wp2;go_ret2;exact ⟨rfl,(HM.out.other _ _ _ (Ne.symm hka) (Ne.symm hkb)),Zd _ K2,Ze.trans HD.out (by repeat (first|with_reducible exact Zr_ _ _|with_reducible refine Ze.setCell ?_ _ _ (.inl (by simp))))⟩
theorem Wu {a b k:Nat} {s:Zh} {w:World} (hM:Zi 137 w a b s) (p0 p1 p2 p3 p4 p5 th cl st:Int) (hk:w.heap[k]? =some (.cells #[.int .i64 p0,.int .i64 p1,.int .i64 p2,.int .i64 p3,.int .i64 p4,.int .i64 p5,.int .i64 th,.int .i64 1,.int .u64 cl,.int .u64 st] 189 (0,0))) (he:Yw p3 th=0) (h0:(s.acc (p3+th) !=0)=true):
  Calls Tryz.prog 237 #[.pointer (some ⟨k,0,none⟩),.pointer (some ⟨a,0,none⟩)] w λ e w'=>e=.returned (.tuple #[.bool false,.int .i64 (s.acc (p3+th))])/\Zi 137 w' a b (s.store (p3+th) (IntKind.u64.wrap (cl+1)))/\w'.heap[k]? =some (.cells #[.int .i64 p0,.int .i64 p1,.int .i64 p2,.int .i64 p3,.int .i64 p4,.int .i64 p5,.int .i64 th,.int .i64 1,.int .u64 cl,.int .u64 st] 189 (0,0))/\Ze [a,b,k] w w':=by
 have ha:=hM.lta;have hb:=hM.ltb;have hkl:=lt_of_block hk;have hka:k≠a:=Zp hk hM.hd (by decide);have hkb:k≠b:=Zp hk hM.ws (by decide);obtain ⟨x0,x1,x2,x3,x4,x5,x6,x7,x8,x9⟩:=Zc10a_ hk;have xf7:=Zb (i:=7) hk;have xf8:=Zb (i:=8) hk;have xf9:=Zb (i:=9) hk;have hat:Vh p3 th=p3+th:=if_pos he;have Hat:=Zh_ hat;clear hat;have He:=Zh_ he;clear he;go_enter func237,ntmps237;go_upto_region 3 with fail
 go_cut [6,7] (λ x y wx=>x=.int .i64 (Vh p3 th)/\y=.int .i64 (Yw p3 th)/\Zi 137 wx a b s/\wx.heap[k]? =some (.cells #[.int .i64 p0,.int .i64 p1,.int .i64 p2,.int .i64 p3,.int .i64 p4,.int .i64 p5,.int .i64 th,.int .i64 1,.int .u64 cl,.int .u64 st] 189 (0,0))/\Ze [] w wx)
 case first=>
  go_region_with (go_at_call 146;refine (Qh _ _ _ _ _ _ _ _).mono ?_;rintro e w1 ⟨rfl,rfl⟩)
  all_goals
   go_wp2_with fail;go_meet;exact ⟨rfl,rfl,by repeat (first|exact hM|refine Zi.drew ?_|refine Zi.alloc ?_ _),Zf _ hk,(by repeat (first|with_reducible exact Zr_ _ _|with_reducible assumption|with_reducible refine Ze.drew ?_|with_reducible refine Ze.alloc ?_ _|with_reducible refine Ze.setCell ?_ _ _ (.inl (by simp))))⟩
 case rest=>
  obtain ⟨rfl,rfl,M1,K1,D1⟩:=hcut;clear x0 x1 x2 x3 x4 x5 x6 x7 x8 x9 xf7 xf8 xf9;rw [He.out,Hat.out];obtain ⟨y0,y1,y2,y3,y4,y5,y6,y7,y8,y9⟩:=Zc10a_ K1;have yf7:=Zb (i:=7) K1;have yf8:=Zb (i:=8) K1;have yf9:=Zb (i:=9) K1;go_wp2_with fail;refine (Qx M1 _ _).mono ?_;rintro e w2 ⟨rfl,M2,d2⟩;have K2:=d2.at K1 (by simp;omega);have HD:Hid (Ze [a,b,k] w w2):=(D1.weak _).then d2 (by simp)
  have HM:=Zh_ M2;clear y0 y1 y2 y3 y4 y5 y6 y7 y8 y9 yf7 yf8 yf9 D1 d2 M1 M2 K1;obtain ⟨z0,z1,z2,z3,z4,z5,z6,z7,z8,z9⟩:=Zc10a_ K2;have zf7:=Zb (i:=7) K2;have zf8:=Zb (i:=8) K2;have zf9:=Zb (i:=9) K2;go_wp2;go_ret2;exact ⟨rfl,HM.out,K2,Ze.trans HD.out (by repeat (first|with_reducible exact Zr_ _ _|with_reducible refine Ze.setCell ?_ _ _ (.inl (by simp))))⟩
end
end Go.Proofs.YtkhonmhnchdpkaaGreat

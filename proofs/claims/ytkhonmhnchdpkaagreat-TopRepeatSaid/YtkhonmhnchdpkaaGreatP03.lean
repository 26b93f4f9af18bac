/- A part of the proof; no condition. -/
import Derived.Test.YtkhonmhnchdpkaaGreatP02
import Derived.Laws.FloatArith
import Derived.Deep.RegionWith
import Derived.Laws.OwnMore
import Derived.OwnWalk
set_option maxRecDepth 100000
set_option maxHeartbeats 40000000
namespace Go.Proofs.YtkhonmhnchdpkaaGreat
open Go.RowKit _root_.Go.Proofs.Tryz
section
open Ieee
theorem cut0 (s:Bool) (n d:Nat):Toward.zero.cut s n d=n / 2 ^ d:=by
 unfold Toward.cut;simp only [Nat.shiftLeft_eq,Nat.one_mul,Bool.toNat_false,Nat.add_zero]
 by_cases h:d<=n.log2+2
 ·rw [Nat.min_eq_left h]
 ·rw [Nat.min_eq_right (by omega)];have h1:n < 2 ^ (n.log2+2):=Nat.lt_of_lt_of_le Nat.lt_log2_self (Nat.pow_le_pow_right (by decide) (by omega));rw [Nat.div_eq_of_lt h1,Nat.div_eq_of_lt (Nat.lt_of_lt_of_le h1 (Nat.pow_le_pow_right (by decide) (by omega)))]
def U3 (m:Nat) (i:Int):Nat:=(m * 2 ^ i.toNat) / 2 ^ (-i).toNat
theorem Gu (s:Bool) (m:Nat) (i:Int):(Datum.number s m i).toInt .zero=some (if s then -(U3 m i:Int) else (U3 m i:Int)):=by
 unfold Datum.toInt Datum.integral;simp only [cut0,Nat.shiftLeft_eq];unfold signed U3;simp only [Nat.shiftLeft_zero]
theorem N2 {m:Nat} {i j:Int} (hj:0<=j) (h:m * 2 ^ (i - min i j).toNat < 2 ^ 52 * 2 ^ (j - min i j).toNat):U3 m i < 2 ^ (52+j.toNat):=by
 unfold U3
 by_cases hij:j<=i
 ·rw [Int.min_eq_right hij] at h;rw [show (j - j).toNat=0 by omega] at h;rw [show (-i).toNat=0 by omega,Nat.pow_zero,Nat.div_one,show i.toNat=(i - j).toNat+j.toNat by omega,Nat.pow_add,Nat.pow_add,<-Nat.mul_assoc];exact Nat.mul_lt_mul_of_pos_right (by simpa using h) (Nat.pow_pos (by decide))
 ·rw [Int.min_eq_left (by omega)] at h;rw [show (i - i).toNat=0 by omega,Nat.pow_zero,Nat.mul_one] at h
  by_cases hi:0<=i
  ·rw [show (-i).toNat=0 by omega,Nat.pow_zero,Nat.div_one,show 52+j.toNat=52+(j - i).toNat+i.toNat by omega,Nat.pow_add,Nat.pow_add];exact Nat.mul_lt_mul_of_pos_right h (Nat.pow_pos (by decide))
  ·rw [show i.toNat=0 by omega,Nat.pow_zero,Nat.mul_one];rw [Nat.div_lt_iff_lt_mul (Nat.pow_pos (by decide))];rw [<-Nat.pow_add,show 52+j.toNat+(-i).toNat=52+(j - i).toNat by omega,Nat.pow_add];exact h
theorem cutI_one {m:Nat} {i:Int} (h:2 ^ 52 * 2 ^ (-52 - min i (-52)).toNat<=m * 2 ^ (i - min i (-52)).toNat):1<=U3 m i:=by
 unfold U3
 by_cases hij:-52<=i
 ·rw [Int.min_eq_right hij] at h;rw [show (-52 - -52:Int).toNat=0 by omega,Nat.pow_zero,Nat.mul_one] at h
  by_cases hi:0<=i
  ·rw [show (-i).toNat=0 by omega,Nat.pow_zero,Nat.div_one];have hm:0 < m:=by
    rcases Nat.eq_zero_or_pos m with rfl|hm
    ·simp at h
    ·exact hm
   exact Nat.mul_pos hm (Nat.pow_pos (by decide))
  ·rw [show i.toNat=0 by omega,Nat.pow_zero,Nat.mul_one];rw [Nat.le_div_iff_mul_le (Nat.pow_pos (by decide)),Nat.one_mul];have e:(2:Nat) ^ 52=2 ^ (-i).toNat * 2 ^ (i - -52).toNat:=by rw [<-Nat.pow_add];congr 1;omega
   rw [e] at h;exact Nat.le_of_mul_le_mul_right h (Nat.pow_pos (by decide))
 ·rw [Int.min_eq_left (by omega)] at h;rw [show (i - i).toNat=0 by omega,Nat.pow_zero,Nat.mul_one,<-Nat.pow_add] at h;rw [show i.toNat=0 by omega,Nat.pow_zero,Nat.mul_one];rw [Nat.le_div_iff_mul_le (Nat.pow_pos (by decide)),Nat.one_mul]
  rwa [show 52+(-52 - i).toNat=(-i).toNat by omega] at h
theorem read0:FloatKind.f64.format.read 0=.number false 0 (-1074):=by decide+kernel
theorem read63:FloatKind.f64.format.read 4890909195324358656=.number false (2 ^ 52) 11:=by decide+kernel
theorem read53:FloatKind.f64.format.read 4845873199050653696=.number false (2 ^ 52) 1:=by decide+kernel
theorem read1:FloatKind.f64.format.read 4607182418800017408=.number false (2 ^ 52) (-52):=by decide+kernel
theorem Jn {x B:Nat} {j:Int} (hj:0<=j) (hj11:j<=11) (hB:FloatKind.f64.format.read B=.number false (2 ^ 52) j) (h0:FloatKind.f64.format.order x 0≠some .lt) (h0':FloatKind.f64.format.order x 0≠none) (h1:FloatKind.f64.format.order x B=some .lt):
  ∃ s m i,FloatKind.f64.format.read x=.number s m i/\(s=true->m=0)/\floatToIntVal .f64 x .i64=some (U3 m i:Int)/\U3 m i < 2 ^ (52+j.toNat):=by
 unfold Format.order at h0 h0' h1;rw [read0] at h0 h0';rw [hB] at h1;cases hx:FloatKind.f64.format.read x with
 |nan s t=>rw [hx] at h0';exact absurd rfl h0'
 |infinity s=>
  rw [hx] at h0 h1;cases s
  ·simp [Datum.order] at h1
  ·simp [Datum.order] at h0
 |number s m i=>
  rw [hx] at h0 h1;simp only [Datum.order,signed,Nat.shiftLeft_eq,Option.some.injEq,ne_eq] at h0 h1;have hs:s=true->m=0:=by
   intro hs;subst hs;simp only [if_true,Nat.zero_mul] at h0;rcases Nat.eq_zero_or_pos m with h|h
   ·exact h
   ·exfalso;apply h0;rw [Int.compare_eq_lt];have:=Nat.mul_pos h (Nat.pow_pos (n:=(i - min i (-1074)).toNat) (show 0 < 2 by decide));simp only [Bool.false_eq_true,if_false];omega
  refine ⟨s,m,i,rfl,hs,?_,?_⟩
  ·have hlt:U3 m i < 2 ^ (52+j.toNat):=by
    refine N2 hj ?_;rw [Int.compare_eq_lt] at h1;cases s
    ·simp only [Bool.false_eq_true,if_false] at h1;omega
    ·rw [hs rfl,Nat.zero_mul];exact Nat.mul_pos (by decide) (Nat.pow_pos (by decide))
   have h63:U3 m i < 2 ^ 63:=Nat.lt_of_lt_of_le hlt (Nat.pow_le_pow_right (by decide) (by omega));unfold floatToIntVal FloatKind.decode;rw [hx,Gu];have he:(if s=true then -(U3 m i:Int) else (U3 m i:Int))=(U3 m i:Int):=by
    cases s
    ·rfl
    ·have:U3 m i=0:=by rw [hs rfl];unfold U3;simp
     rw [this];rfl
   simp only [he];have e1:IntKind.i64.min=-9223372036854775808:=by decide
   have e2:IntKind.i64.max=9223372036854775807:=by decide
   exact if_pos ⟨by rw [e1];omega,by rw [e2];omega⟩
  ·refine N2 hj ?_;rw [Int.compare_eq_lt] at h1;cases s
   ·simp only [Bool.false_eq_true,if_false] at h1;omega
   ·rw [hs rfl,Nat.zero_mul];exact Nat.mul_pos (by decide) (Nat.pow_pos (by decide))
theorem Nv {y:Nat} (h0:FloatKind.f64.format.order y 4607182418800017408≠some .lt) (h0':FloatKind.f64.format.order y 4607182418800017408≠none) (h1:FloatKind.f64.format.order y 4845873199050653696=some .lt):
  ∃ n:Nat,floatToIntVal .f64 y .i64=some (n:Int)/\1<=n/\n < 2 ^ 53:=by
 unfold Format.order at h0 h0' h1;rw [read1] at h0 h0';rw [read53] at h1;cases hx:FloatKind.f64.format.read y with
 |nan s t=>rw [hx] at h0';exact absurd rfl h0'
 |infinity s=>
  rw [hx] at h0 h1;cases s
  ·simp [Datum.order] at h1
  ·simp [Datum.order] at h0
 |number s m i=>
  rw [hx] at h0 h1;simp only [Datum.order,signed,Nat.shiftLeft_eq,Option.some.injEq,ne_eq] at h0 h1;have hp:0 < 2 ^ 52 * 2 ^ (-52 - min i (-52)).toNat:=Nat.mul_pos (by decide) (Nat.pow_pos (by decide));cases s with
  |true=>
   exfalso;apply h0;rw [Int.compare_eq_lt];simp only [if_true,Bool.false_eq_true,if_false];omega
  |false=>
   have h2:2 ^ 52 * 2 ^ (-52 - min i (-52)).toNat<=m * 2 ^ (i - min i (-52)).toNat:=by
    simp only [Bool.false_eq_true,if_false] at h0;rw [Int.compare_eq_lt] at h0;omega
   have h3:U3 m i < 2 ^ (52+(1:Int).toNat):=by
    refine N2 (by decide) ?_;rw [Int.compare_eq_lt] at h1;simp only [Bool.false_eq_true,if_false] at h1;omega
   refine ⟨U3 m i,?_,cutI_one h2,h3⟩;have h4:U3 m i < 2 ^ 53:=h3;unfold floatToIntVal FloatKind.decode;rw [hx,Gu];have e1:IntKind.i64.min=-9223372036854775808:=by decide
   have e2:IntKind.i64.max=9223372036854775807:=by decide
   exact if_pos ⟨by rw [e1];simp only [Bool.false_eq_true,if_false];omega,by rw [e2];simp only [Bool.false_eq_true,if_false];omega⟩
theorem Mz (t:Nat):Fb ((t % 2) * 2 ^ 63+0x7ff0000000000000+1+(t / 2) % (2 ^ 52 - 1))=true:=by
 have hu:(t / 2) % (2 ^ 52 - 1) < 2 ^ 52 - 1:=Nat.mod_lt _ (by decide);generalize (t / 2) % (2 ^ 52 - 1)=u at hu;have hr:((t % 2) * 2 ^ 63+0x7ff0000000000000+1+u) % 2 ^ 63=0x7ff0000000000000+1+u:=by omega
 have e:∃ s f,FloatKind.f64.format.read ((t % 2) * 2 ^ 63+0x7ff0000000000000+1+u)=.nan s f:=by
  unfold Format.read;have w:FloatKind.f64.format.signWeight=2 ^ 63:=by decide
  have b:FloatKind.f64.format.binade=2 ^ 52:=by decide
  have i:FloatKind.f64.format.infRung=0x7ff0000000000000:=by decide
  simp only [w,b,i,hr];rw [if_neg (by omega),if_neg (by omega),if_neg (by omega)];exact ⟨_,_,rfl⟩
 obtain ⟨s,f,e⟩:=e;unfold Fb Format.order;rw [e];rfl
theorem Vl {P:Program} (op:BinOp) (ho:op=.add\/op=.sub\/op=.mul\/op=.quo) (t:TypeId) (x y:Nat) (w:World) (h:floatBits op .f64 x y=none):
  ∃ r,(binOp op t (.float .f64 x) (.float .f64 y)).run P w=.ok (.float .f64 r) w.drew/\Fb r=true:=by
 refine ⟨_,?_,Mz (w.tape w.drawn (.nanBits .f64 x y))⟩;have key:∀ q:Question,q.forced=false->(do let r<-choose q;pure (Value.float .f64 r):Sem Value).run P w=.ok (.float .f64 (q.cut (w.tape w.drawn q))) w.drew:=by
  intro q hq;simp only [Sem.run_bind,run_choose_drew,hq,Bool.false_eq_true,if_false,Result.andThen_ok,Sem.run_pure]
 rcases ho with rfl|rfl|rfl|rfl
 all_goals
  simp only [floatBits] at h;unfold binOp Op.floatArith;simp only [h];rw [if_neg (by simp)];exact key (.nanBits .f64 x y) rfl
end
section
attribute [local go_sem] Zj
def Ku (w:World) (e:Ending) (w':World):Prop:=∃ y n,e=.returned (.float .f64 y)/\w'=w.drewN n
def FixF (z:Nat) (w:World) (e:Ending) (w':World):Prop:=∃ y n,e=.returned (.float .f64 y)/\Zt y=z/\w'=w.drewN n
def AnyI (k:IntKind) (w:World) (e:Ending) (w':World):Prop:=∃ n:Int,e=.returned (.int k n)/\w'=w
def Wh:Nat:=9221120237041090560
theorem Hq {r:Nat} (h:Fb r=true):Zt r=Wh:=if_pos h
def Hs (op:BinOp) (x y:Nat):Nat:=match floatBits op .f64 x y with|some r=>Zt r|none=>Wh
def yesF (b:Bool):Nat:=if b=true then 4607182418800017408 else 0
theorem fix_yes (b:Bool):Zt (yesF b)=yesF b:=by cases b <;> decide+kernel
theorem add_c (x y:Nat) (w:World):Calls Tryz.prog 195 #[.float .f64 x,.float .f64 y] w (FixF (Hs .add x y) w):=by
 cases hb:floatBits .add .f64 x y with
 |some r=>
  have he:Hs .add x y=Zt r:=by unfold Hs;rw [hb]
  have hr:=run_float_arith (P:=Tryz.prog) w .add 51 .f64 x y r hb;rw [he];clear hb he;go_enter func195,ntmps195;go_wp2;go_ret;exact ⟨r,0,rfl,rfl,rfl⟩
 |none=>
  have he:Hs .add x y=Wh:=by unfold Hs;rw [hb]
  obtain ⟨r,hr,hn⟩:=Vl (P:=Tryz.prog) .add (by simp) 51 x y w hb;have HN:=Zh_ hn;rw [he];clear hb he hn;go_enter func195,ntmps195;go_wp2;go_ret;exact ⟨r,1,rfl,Hq HN.out,rfl⟩
theorem sub_c (x y:Nat) (w:World):Calls Tryz.prog 196 #[.float .f64 x,.float .f64 y] w (FixF (Hs .sub x y) w):=by
 cases hb:floatBits .sub .f64 x y with
 |some r=>
  have he:Hs .sub x y=Zt r:=by unfold Hs;rw [hb]
  have hr:=run_float_arith (P:=Tryz.prog) w .sub 51 .f64 x y r hb;rw [he];clear hb he;go_enter func196,ntmps196;go_wp2;go_ret;exact ⟨r,0,rfl,rfl,rfl⟩
 |none=>
  have he:Hs .sub x y=Wh:=by unfold Hs;rw [hb]
  obtain ⟨r,hr,hn⟩:=Vl (P:=Tryz.prog) .sub (by simp) 51 x y w hb;have HN:=Zh_ hn;rw [he];clear hb he hn;go_enter func196,ntmps196;go_wp2;go_ret;exact ⟨r,1,rfl,Hq HN.out,rfl⟩
theorem mul_c (x y:Nat) (w:World):Calls Tryz.prog 197 #[.float .f64 x,.float .f64 y] w (FixF (Hs .mul x y) w):=by
 cases hb:floatBits .mul .f64 x y with
 |some r=>
  have he:Hs .mul x y=Zt r:=by unfold Hs;rw [hb]
  have hr:=run_float_arith (P:=Tryz.prog) w .mul 51 .f64 x y r hb;rw [he];clear hb he;go_enter func197,ntmps197;go_wp2;go_ret;exact ⟨r,0,rfl,rfl,rfl⟩
 |none=>
  have he:Hs .mul x y=Wh:=by unfold Hs;rw [hb]
  obtain ⟨r,hr,hn⟩:=Vl (P:=Tryz.prog) .mul (by simp) 51 x y w hb;have HN:=Zh_ hn;rw [he];clear hb he hn;go_enter func197,ntmps197;go_wp2;go_ret;exact ⟨r,1,rfl,Hq HN.out,rfl⟩
theorem quo_c (x y:Nat) (w:World):Calls Tryz.prog 198 #[.float .f64 x,.float .f64 y] w (FixF (Hs .quo x y) w):=by
 cases hb:floatBits .quo .f64 x y with
 |some r=>
  have he:Hs .quo x y=Zt r:=by unfold Hs;rw [hb]
  have hr:=run_float_arith (P:=Tryz.prog) w .quo 51 .f64 x y r hb;rw [he];clear hb he;go_enter func198,ntmps198;go_wp2;go_ret;exact ⟨r,0,rfl,rfl,rfl⟩
 |none=>
  have he:Hs .quo x y=Wh:=by unfold Hs;rw [hb]
  obtain ⟨r,hr,hn⟩:=Vl (P:=Tryz.prog) .quo (by simp) 51 x y w hb;have HN:=Zh_ hn;rw [he];clear hb he hn;go_enter func198,ntmps198;go_wp2;go_ret;exact ⟨r,1,rfl,Hq HN.out,rfl⟩
theorem Hw (b:Bool) (w:World):Calls Tryz.prog 191 #[.bool b] w λ e w'=>e=.returned (.float .f64 (yesF b))/\w'=w:=by
 cases b
 all_goals
  go_enter func191,ntmps191;go_wp2;go_ret;exact ⟨rfl,rfl⟩
theorem true_c (x:Nat) (w:World):Calls Tryz.prog 163 #[.float .f64 x] w λ e w'=>e=.returned (.bool (!Fb x&&(FloatKind.f64.format.order x 0 !=some .eq)))/\w'=w:=by
 unfold Fb;cases h1:(FloatKind.f64.format.order x x==some .eq)
 ·have h2:(FloatKind.f64.format.order x x !=some .eq)=true:=by simp [bne,h1]
  rw [h2];go_enter func163,ntmps163;go_wp2;go_ret;exact ⟨rfl,rfl⟩
 ·have h2:(FloatKind.f64.format.order x x !=some .eq)=false:=by simp [bne,h1]
  rw [h2];go_enter func163,ntmps163;go_wp2;go_ret;exact ⟨by simp,rfl⟩
theorem less_c (x y:Nat) (w:World):Calls Tryz.prog 202 #[.float .f64 x,.float .f64 y] w (FixF (yesF (FloatKind.f64.format.order x y==some .lt)) w):=by
 go_enter func202,ntmps202;go_wp2_with fail;refine (Hw _ _).mono ?_;rintro e w1 ⟨rfl,rfl⟩;go_wp2;go_ret;exact ⟨_,0,rfl,fix_yes _,rfl⟩
theorem atmost_a (x y:Nat) (w:World):Calls Tryz.prog 203 #[.float .f64 x,.float .f64 y] w (Ku w):=by
 go_enter func203,ntmps203;go_wp2_with fail;refine (Hw _ _).mono ?_;rintro e w1 ⟨rfl,rfl⟩;go_wp2;go_ret;exact ⟨_,0,rfl,rfl⟩
theorem equal_a (x y:Nat) (w:World):Calls Tryz.prog 204 #[.float .f64 x,.float .f64 y] w (Ku w):=by
 go_enter func204,ntmps204;go_wp2_with fail;refine (Hw _ _).mono ?_;rintro e w1 ⟨rfl,rfl⟩;go_wp2;go_ret;exact ⟨_,0,rfl,rfl⟩
theorem isnan_a (x:Nat) (w:World):Calls Tryz.prog 192 #[.float .f64 x] w (Ku w):=by
 go_enter func192,ntmps192;go_wp2_with fail;refine (Hw _ _).mono ?_;rintro e w1 ⟨rfl,rfl⟩;go_wp2;go_ret;exact ⟨_,0,rfl,rfl⟩
theorem not_a (x:Nat) (w:World):Calls Tryz.prog 190 #[.float .f64 x] w (Ku w):=by
 go_enter func190,ntmps190;go_wp2_with fail;refine (true_c _ _).mono ?_;rintro e w1 ⟨rfl,rfl⟩;generalize (!Fb x&&(FloatKind.f64.format.order x 0 !=some .eq))=b;cases b
 all_goals
  go_wp2_with fail;refine (Hw _ _).mono ?_;rintro e w1 ⟨rfl,rfl⟩;go_wp2;go_ret;exact ⟨_,0,rfl,rfl⟩
theorem neg_a (x:Nat) (w:World):Calls Tryz.prog 189 #[.float .f64 x] w (Ku w):=by
 have hneg:∀ w:World,(Op.unary .neg (.float .f64 x)).run Tryz.prog w=.ok (.float .f64 (Op.negFloat .f64 x)) w:=λ _=>rfl;go_enter func189,ntmps189;go_wp2;go_ret;exact ⟨_,0,rfl,rfl⟩
theorem sign_a (x:Nat) (w:World):Calls Tryz.prog 193 #[.float .f64 x] w (Ku w):=by
 cases h1:(FloatKind.f64.format.order x 0==some .gt)
 ·cases h2:(FloatKind.f64.format.order x 0==some .lt)
  all_goals
   go_enter func193,ntmps193;go_wp2;go_ret;exact ⟨_,0,rfl,rfl⟩
 ·go_enter func193,ntmps193;go_wp2;go_ret;exact ⟨_,0,rfl,rfl⟩
theorem Ju (w:World):Calls Tryz.prog 208 #[] w λ e w'=>e=.returned (.float .f64 9221120237041090561)/\w'=w:=by
 have h1:=Nr 9221120237041090561 w;rw [show (9221120237041090561:Int).toNat=9221120237041090561 from rfl] at h1;go_enter func208,ntmps208;go_wp2;go_ret;exact ⟨rfl,rfl⟩
theorem Xz (x y:Nat) (w:World):Calls Tryz.prog 131 #[.float .f64 x,.float .f64 y] w λ e w'=>e=.returned (.bool ((Zt x:Int)==(Zt y:Int)))/\w'=w:=by
 go_enter func131,ntmps131;go_wp2_with fail;refine (Gm _ _).mono ?_;rintro e w1 ⟨rfl,rfl⟩;go_wp2_with fail;refine (Gm _ _).mono ?_;rintro e w1 ⟨rfl,rfl⟩;go_wp2;go_ret;exact ⟨rfl,rfl⟩
theorem hash_a (x:Nat) (w:World):Calls Tryz.prog 194 #[.float .f64 x] w (Ku w):=by
 go_enter func194,ntmps194;go_wp2_with fail;refine (Gm _ _).mono ?_;rintro e w1 ⟨rfl,rfl⟩;go_wp2;go_ret;exact ⟨_,0,rfl,rfl⟩
theorem key_a (x:Nat) (w:World):Calls Tryz.prog 209 #[.float .f64 x] w (AnyI .u64 w):=by
 go_enter func209,ntmps209;go_wp2_with fail;refine (Gm _ _).mono ?_;rintro e w1 ⟨rfl,rfl⟩;go_wp2
 all_goals
  go_ret;exact ⟨_,rfl,rfl⟩
theorem Ff (x y:Nat) (w:World):Calls Tryz.prog 207 #[.float .f64 x,.float .f64 y] w (AnyI .i64 w):=by
 go_enter func207,ntmps207;go_wp2_with fail;refine (key_a _ _).mono ?_;rintro e w1 ⟨n1,rfl,rfl⟩;go_wp2_with fail;refine (key_a _ _).mono ?_;rintro e w1 ⟨n2,rfl,rfl⟩;go_wp2
 all_goals
  go_ret;exact ⟨_,rfl,rfl⟩
theorem ex150:Extern.find Tryz.f150=some (Extern.MathFloor.toIntegral "math.archFloor" .down):=by kernel_rfl
theorem ex187:Extern.find Tryz.f187=some (Extern.MathFloor.toIntegral "math.archTrunc" .zero):=by kernel_rfl
theorem ex152:Extern.find Tryz.f152=some Extern.MathSqrt.sqrt:=by kernel_rfl
theorem Gx {P:Program} (nm:String) (way:Ieee.Toward) (x:Nat) (w:World):∃ y n,(Extern.MathFloor.toIntegral nm way #[.float .f64 x]).run P w=.ok (.float .f64 y) (w.drewN n):=by
 have key:Extern.MathFloor.toIntegral nm way #[.float .f64 x]=(match FloatKind.f64.decode x with
  |.nan s t=>if FloatKind.f64.format.quiet t=t then pure (.float .f64 x) else do
   let kept<-choose (.extern "math.Floor,Ceil,Trunc,RoundToEven.signallingNaN kept" 2)
   pure (.float .f64 (if kept==1 then x else FloatKind.f64.encode (.nan s (FloatKind.f64.format.quiet t))))
  |d=>pure (.float .f64 (FloatKind.f64.encode (d.integral way)))):=rfl
 rw [key];split
 ·split
  ·exact ⟨x,0,rfl⟩
  ·simp only [Sem.run_bind,run_choose_drew,Question.forced];exact ⟨_,1,rfl⟩
 ·exact ⟨_,0,rfl⟩
theorem run_sqrt {P:Program} (x:Nat) (w:World):∃ y n,(Extern.MathSqrt.sqrt #[.float .f64 x]).run P w=.ok (.float .f64 y) (w.drewN n):=by
 have key:Extern.MathSqrt.sqrt #[.float .f64 x]=(match FloatKind.f64.format.sqrt x with
  |some r=>pure (.float .f64 r)
  |none=>do pure (.float .f64 (<-choose (.nanBits .f64 x x)))):=rfl
 rw [key];split
 ·exact ⟨_,0,rfl⟩
 ·simp only [Sem.run_bind,run_choose_drew,Question.forced];exact ⟨_,1,rfl⟩
theorem Rl (x:Nat) (w:World):Calls Tryz.prog 182 #[.float .f64 x] w (Ku w):=by
 obtain ⟨y,n,hy⟩:=Gx (P:=Tryz.prog) "math.archTrunc" .zero x w;have hr:(callFunc 187 #[.float .f64 x]).run Tryz.prog w=.ok (.value (.float .f64 y)) (w.drewN n):=by
  rw [run_callFunc_extern func187 (by kernel_rfl) (by kernel_rfl) (by kernel_rfl) ex187];simp only [hy,Result.andThen_ok]
 clear hy;go_enter func182,ntmps182;go_wp2;go_ret;exact ⟨_,n,rfl,rfl⟩
theorem floor_a (x:Nat) (w:World):Calls Tryz.prog 121 #[.float .f64 x] w (Ku w):=by
 obtain ⟨y,n,hy⟩:=Gx (P:=Tryz.prog) "math.archFloor" .down x w;have hr:(callFunc 150 #[.float .f64 x]).run Tryz.prog w=.ok (.value (.float .f64 y)) (w.drewN n):=by
  rw [run_callFunc_extern func150 (by kernel_rfl) (by kernel_rfl) (by kernel_rfl) ex150];simp only [hy,Result.andThen_ok]
 clear hy;go_enter func121,ntmps121;go_wp2;go_ret;exact ⟨_,n,rfl,rfl⟩
theorem sqrt_a (x:Nat) (w:World):Calls Tryz.prog 122 #[.float .f64 x] w (Ku w):=by
 obtain ⟨y,n,hy⟩:=run_sqrt (P:=Tryz.prog) x w;have hr:(callFunc 152 #[.float .f64 x]).run Tryz.prog w=.ok (.value (.float .f64 y)) (w.drewN n):=by
  rw [run_callFunc_extern func152 (by kernel_rfl) (by kernel_rfl) (by kernel_rfl) ex152];simp only [hy,Result.andThen_ok]
 clear hy;go_enter func122,ntmps122;go_wp2;go_ret;exact ⟨_,n,rfl,rfl⟩
end
section
attribute [local go_sem] Zj
theorem abs_a (x:Nat) (w:World):Calls Tryz.prog 181 #[.float .f64 x] w (Ku w):=by
 have hb:=Nq x w;have hf:=λ n=>Nr n w;go_enter func181,ntmps181;go_wp2;go_ret;exact ⟨_,0,rfl,rfl⟩
theorem same2_a (x y:Nat) (w:World):Calls Tryz.prog 205 #[.float .f64 x,.float .f64 y] w (Ku w):=by
 go_enter func205,ntmps205;go_wp2_with fail;refine (Xz _ _ _).mono ?_;rintro e w1 ⟨rfl,rfl⟩;go_wp2_with fail;refine (Hw _ _).mono ?_;rintro e w1 ⟨rfl,rfl⟩;go_wp2;go_ret;exact ⟨_,0,rfl,rfl⟩
theorem ahead2_a (x y:Nat) (w:World):Calls Tryz.prog 206 #[.float .f64 x,.float .f64 y] w (Ku w):=by
 go_enter func206,ntmps206;go_wp2_with fail;refine (Ff _ _ _).mono ?_;rintro e w1 ⟨n,rfl,rfl⟩;go_wp2_with fail;refine (Hw _ _).mono ?_;rintro e w1 ⟨rfl,rfl⟩;go_wp2;go_ret;exact ⟨_,0,rfl,rfl⟩
theorem least_a (x y:Nat) (w:World):Calls Tryz.prog 200 #[.float .f64 x,.float .f64 y] w (Ku w):=by
 cases hx:(FloatKind.f64.format.order x x !=some .eq)
 ·cases hy:(FloatKind.f64.format.order y y !=some .eq)
  ·go_enter func200,ntmps200;go_wp2_with fail;refine (Ff _ _ _).mono ?_;rintro e w1 ⟨n,rfl,rfl⟩;go_wp2
   all_goals
    go_ret;exact ⟨_,0,rfl,rfl⟩
  ·go_enter func200,ntmps200;go_wp2_with fail;refine (Ju _).mono ?_;rintro e w1 ⟨rfl,rfl⟩;go_wp2;go_ret;exact ⟨_,0,rfl,rfl⟩
 ·go_enter func200,ntmps200;go_wp2_with fail;refine (Ju _).mono ?_;rintro e w1 ⟨rfl,rfl⟩;go_wp2;go_ret;exact ⟨_,0,rfl,rfl⟩
theorem Ls (x y:Nat) (w:World):Calls Tryz.prog 201 #[.float .f64 x,.float .f64 y] w (Ku w):=by
 cases hx:(FloatKind.f64.format.order x x !=some .eq)
 ·cases hy:(FloatKind.f64.format.order y y !=some .eq)
  ·go_enter func201,ntmps201;go_wp2_with fail;refine (Ff _ _ _).mono ?_;rintro e w1 ⟨n,rfl,rfl⟩;go_wp2
   all_goals
    go_ret;exact ⟨_,0,rfl,rfl⟩
  ·go_enter func201,ntmps201;go_wp2_with fail;refine (Ju _).mono ?_;rintro e w1 ⟨rfl,rfl⟩;go_wp2;go_ret;exact ⟨_,0,rfl,rfl⟩
 ·go_enter func201,ntmps201;go_wp2_with fail;refine (Ju _).mono ?_;rintro e w1 ⟨rfl,rfl⟩;go_wp2;go_ret;exact ⟨_,0,rfl,rfl⟩
end
section
attribute [local go_sem] Zj
theorem mod_a (x y:Nat) (w:World):Calls Tryz.prog 199 #[.float .f64 x,.float .f64 y] w (Ku w):=by
 cases hx0:FloatKind.f64.format.order x 0 with
 |none=>
  go_enter func199,ntmps199;go_wp2_with fail;refine (Ju _).mono ?_;rintro e w9 ⟨rfl,hw9⟩;have hw9':=hw9.symm;subst hw9';go_wp2;go_ret
  first|exact ⟨_,0,rfl,rfl⟩|exact ⟨_,_,rfl,rfl⟩|exact ⟨_,_,rfl,by simp only [World.drewN_drewN];rfl⟩
 |some o=>
  by_cases ho:o=.lt
  ·subst ho;go_enter func199,ntmps199;go_wp2_with fail;refine (Ju _).mono ?_;rintro e w9 ⟨rfl,hw9⟩;have hw9':=hw9.symm;subst hw9';go_wp2;go_ret
   first|exact ⟨_,0,rfl,rfl⟩|exact ⟨_,_,rfl,rfl⟩|exact ⟨_,_,rfl,by simp only [World.drewN_drewN];rfl⟩
  ·cases hx1:(FloatKind.f64.format.order x 4845873199050653696==some .lt)
   ·cases o
    ·exact absurd rfl ho
    all_goals
     go_enter func199,ntmps199;go_wp2_with fail;refine (Ju _).mono ?_;rintro e w9 ⟨rfl,hw9⟩;have hw9':=hw9.symm;subst hw9';go_wp2;go_ret
     first|exact ⟨_,0,rfl,rfl⟩|exact ⟨_,_,rfl,rfl⟩|exact ⟨_,_,rfl,by simp only [World.drewN_drewN];rfl⟩
   ·cases hy0:FloatKind.f64.format.order y 4607182418800017408 with
    |none=>
     cases o
     ·exact absurd rfl ho
     all_goals
      go_enter func199,ntmps199;go_wp2_with fail;refine (Ju _).mono ?_;rintro e w9 ⟨rfl,hw9⟩;have hw9':=hw9.symm;subst hw9';go_wp2;go_ret
      first|exact ⟨_,0,rfl,rfl⟩|exact ⟨_,_,rfl,rfl⟩|exact ⟨_,_,rfl,by simp only [World.drewN_drewN];rfl⟩
    |some p=>
     by_cases hp:p=.lt
     ·subst hp;cases o
      ·exact absurd rfl ho
      all_goals
       go_enter func199,ntmps199;go_wp2_with fail;refine (Ju _).mono ?_;rintro e w9 ⟨rfl,hw9⟩;have hw9':=hw9.symm;subst hw9';go_wp2;go_ret
       first|exact ⟨_,0,rfl,rfl⟩|exact ⟨_,_,rfl,rfl⟩|exact ⟨_,_,rfl,by simp only [World.drewN_drewN];rfl⟩
     ·cases hy1:(FloatKind.f64.format.order y 4845873199050653696==some .lt)
      ·cases o
       ·exact absurd rfl ho
       all_goals
        cases p
        ·exact absurd rfl hp
        all_goals
         go_enter func199,ntmps199;go_wp2_with fail;refine (Ju _).mono ?_;rintro e w9 ⟨rfl,hw9⟩;have hw9':=hw9.symm;subst hw9';go_wp2;go_ret
         first|exact ⟨_,0,rfl,rfl⟩|exact ⟨_,_,rfl,rfl⟩|exact ⟨_,_,rfl,by simp only [World.drewN_drewN];rfl⟩
      ·have e1:FloatKind.f64.format.order x 4845873199050653696=some .lt:=by simpa using hx1
       have e2:FloatKind.f64.format.order y 4845873199050653696=some .lt:=by simpa using hy1
       obtain ⟨s,m,i,-,-,hn,hlt⟩:=Jn (j:=1) (by decide) (by decide) read53 (by rw [hx0];simpa using ho) (by rw [hx0];simp) e1;obtain ⟨n,hn2,hn1,hnlt⟩:=Nv (by rw [hy0];simpa using hp) (by rw [hy0];simp) e2;generalize U3 m i=q at hn hlt;have r1:=λ w=>run_convert_float_int (P:=Tryz.prog) w 51 3 .f64 .i64 x q (by rw [underlying51];rfl) underlying3 hn;have r2:=λ w=>run_convert_float_int (P:=Tryz.prog) w 51 3 .f64 .i64 y n (by rw [underlying51];rfl) underlying3 hn2;have hq:q < 9007199254740992:=hlt;have hnn:n < 9007199254740992:=hnlt;have hz:((n:Int)==0)=false:=by simp;omega
       clear hn hn2 hlt hnlt e1 e2;cases o
       ·exact absurd rfl ho
       all_goals
        cases p
        ·exact absurd rfl hp
        all_goals
         go_enter func199,ntmps199;go_wp2_with fail;refine (Rl _ _).mono ?_;rintro e w1 ⟨t1,n1,rfl,rfl⟩;cases h1:(FloatKind.f64.format.order t1 x !=some .eq)
         ·go_wp2_with fail;refine (Rl _ _).mono ?_;rintro e w1 ⟨t2,n2,rfl,rfl⟩;cases h2:(FloatKind.f64.format.order t2 y !=some .eq)
          ·go_wp2;go_ret
           first|exact ⟨_,0,rfl,rfl⟩|exact ⟨_,_,rfl,rfl⟩|exact ⟨_,_,rfl,by simp only [World.drewN_drewN];rfl⟩
          ·go_wp2_with fail;refine (Ju _).mono ?_;rintro e w9 ⟨rfl,hw9⟩;have hw9':=hw9.symm;subst hw9';go_wp2;go_ret
           first|exact ⟨_,0,rfl,rfl⟩|exact ⟨_,_,rfl,rfl⟩|exact ⟨_,_,rfl,by simp only [World.drewN_drewN];rfl⟩
         ·go_wp2_with fail;refine (Ju _).mono ?_;rintro e w9 ⟨rfl,hw9⟩;have hw9':=hw9.symm;subst hw9';go_wp2;go_ret
          first|exact ⟨_,0,rfl,rfl⟩|exact ⟨_,_,rfl,rfl⟩|exact ⟨_,_,rfl,by simp only [World.drewN_drewN];rfl⟩
end
section
attribute [local go_sem] Zj
def Tg (x:Nat):Nat:=FloatKind.f64.encode ((FloatKind.f64.decode x).integral .zero)
theorem Ag {P:Program} (x:Nat) (w:World) (h:FloatKind.f64.format.order x 0≠none):(Extern.MathFloor.toIntegral "math.archTrunc" .zero #[.float .f64 x]).run P w=.ok (.float .f64 (Tg x)) w:=by
 have key:Extern.MathFloor.toIntegral "math.archTrunc" .zero #[.float .f64 x]=(match FloatKind.f64.decode x with
  |.nan s t=>if FloatKind.f64.format.quiet t=t then pure (.float .f64 x) else do
   let kept<-choose (.extern "math.Floor,Ceil,Trunc,RoundToEven.signallingNaN kept" 2)
   pure (.float .f64 (if kept==1 then x else FloatKind.f64.encode (.nan s (FloatKind.f64.format.quiet t))))
  |d=>pure (.float .f64 (FloatKind.f64.encode (d.integral .zero)))):=rfl
 rw [key];have hn:∀ s t,FloatKind.f64.decode x≠.nan s t:=by
  intro s t he;apply h;have he':FloatKind.f64.format.read x=.nan s t:=he;unfold Ieee.Format.order;rw [he'];rfl
 unfold Tg;split
 ·rename_i s t he;exact absurd he (hn s t)
 ·rfl
theorem trunc_c (x:Nat) (w:World) (h:FloatKind.f64.format.order x 0≠none):Calls Tryz.prog 182 #[.float .f64 x] w λ e w'=>e=.returned (.float .f64 (Tg x))/\w'=w:=by
 have hr:(callFunc 187 #[.float .f64 x]).run Tryz.prog w=.ok (.value (.float .f64 (Tg x))) w:=by
  rw [run_callFunc_extern func187 (by kernel_rfl) (by kernel_rfl) (by kernel_rfl) ex187];simp only [Ag x w h,Result.andThen_ok]
 clear h;go_enter func182,ntmps182;go_wp2;go_ret;exact ⟨rfl,rfl⟩
def Vj (x:Nat) (n:Int):Option Int:=
 if FloatKind.f64.format.order x 0=none\/FloatKind.f64.format.order x 0=some .lt\/FloatKind.f64.format.order x 4890909195324358656≠some .lt then none
 else if FloatKind.f64.format.order (Tg x) x≠some .eq then none
 else match floatToIntVal .f64 x .i64 with
  |none=>none
  |some k=>if n<=k then none else some k
theorem Nw {x:Nat} {n k:Int} (h:Vj x n=some k):0<=k/\k < n:=by
 unfold Vj at h;split at h
 ·simp at h
 ·rename_i hc;split at h
  ·simp at h
  ·obtain ⟨s,m,i,_,_,hn,_⟩:=Jn (j:=11) (by decide) (by decide) read63 (λ e=>hc (.inr (.inl e))) (λ e=>hc (.inl e)) (Classical.not_not.mp λ e=>hc (.inr (.inr e)));rw [hn] at h;simp only at h;split at h
   ·simp at h
   ·simp at h;omega
theorem idx_c (x:Nat) (n:Int) (w:World):Calls Tryz.prog 184 #[.float .f64 x,.int .i64 n] w λ e w'=>e=.returned (.tuple #[.int .i64 ((Vj x n).getD 0),.int .i64 (if (Vj x n).isSome then 0 else 10)])/\w'=w:=by
 unfold Vj;cases hx0:FloatKind.f64.format.order x 0 with
 |none=>
  rw [if_pos (.inl rfl)];go_enter func184,ntmps184;go_wp2;go_ret2;exact ⟨rfl,rfl⟩
 |some o=>
  by_cases ho:o=.lt
  ·subst ho;rw [if_pos (.inr (.inl rfl))];go_enter func184,ntmps184;go_wp2;go_ret2;exact ⟨rfl,rfl⟩
  ·cases hx1:(FloatKind.f64.format.order x 4890909195324358656==some .lt)
   ·have e1:FloatKind.f64.format.order x 4890909195324358656≠some .lt:=by simpa using hx1
    rw [if_pos (.inr (.inr e1))];clear e1;cases o
    ·exact absurd rfl ho
    all_goals
     go_enter func184,ntmps184;go_wp2;go_ret2;exact ⟨rfl,rfl⟩
   ·have e1:FloatKind.f64.format.order x 4890909195324358656=some .lt:=by simpa using hx1
    have hc:¬ ((some o:Option Ordering)=none\/(some o:Option Ordering)=some .lt\/FloatKind.f64.format.order x 4890909195324358656≠some .lt):=by simp [ho,e1]
    rw [if_neg hc];obtain ⟨s,m,i,-,-,hn,hlt⟩:=Jn (j:=11) (by decide) (by decide) read63 (by rw [hx0];simpa using ho) (by rw [hx0];simp) e1;have HT:=λ w=>trunc_c x w (by rw [hx0];simp);rw [hn];generalize U3 m i=q at hn hlt;have r1:=λ w=>run_convert_float_int (P:=Tryz.prog) w 51 3 .f64 .i64 x q (by rw [underlying51];rfl) underlying3 hn;clear hn e1 hc hlt;cases h1:(FloatKind.f64.format.order (Tg x) x !=some .eq)
    ·have e1:¬ FloatKind.f64.format.order (Tg x) x≠some .eq:=by simpa using h1
     rw [if_neg e1];clear e1;cases o
     ·exact absurd rfl ho
     all_goals
      by_cases hq:n<=(q:Int)
      ·have hd:decide (n<=(q:Int))=true:=decide_eq_true hq;simp only [if_pos hq];go_enter func184,ntmps184;go_wp2_with fail;refine (HT _).mono ?_;rintro e w1 ⟨rfl,rfl⟩;go_wp2;go_ret2;exact ⟨rfl,rfl⟩
      ·have hd:decide (n<=(q:Int))=false:=decide_eq_false hq;simp only [if_neg hq];go_enter func184,ntmps184;go_wp2_with fail;refine (HT _).mono ?_;rintro e w1 ⟨rfl,rfl⟩;go_wp2;go_ret2;exact ⟨rfl,rfl⟩
    ·have e1:FloatKind.f64.format.order (Tg x) x≠some .eq:=by simpa using h1
     rw [if_pos e1];clear e1;cases o
     ·exact absurd rfl ho
     all_goals
      go_enter func184,ntmps184;go_wp2_with fail;refine (HT _).mono ?_;rintro e w1 ⟨rfl,rfl⟩;go_wp2;go_ret2;exact ⟨rfl,rfl⟩
end
section
attribute [local go_sem] Zj
def N8 (w:World) (e:Ending) (w':World):Prop:=∃ ν,e=.returned (.tuple #[.float .f64 (Zt ν),.int .i64 0])/\Ze [] w w'
theorem J4 (w:World):Calls Tryz.prog 185 #[] w λ e w'=>∃ tb,e=.returned (.slice (some ⟨tb,0,none⟩) 9 9)/\w'.heap[tb]? =some (.cells #[.nilFunc,.func (.func 189) #[] #[],.func (.func 181) #[] #[],.func (.func 121) #[] #[],.func (.func 122) #[] #[],.func (.func 190) #[] #[],.func (.func 192) #[] #[],.func (.func 193) #[] #[],.func (.func 194) #[] #[]] 96 (0,0))/\Ze [] w w':=by
 go_enter func185,ntmps185;go_wp2;go_ret;exact ⟨_,rfl,Zc _ _,(Zr_ _ _).alloc _⟩
theorem Vx (w:World):Calls Tryz.prog 186 #[] w λ e w'=>∃ tb,e=.returned (.slice (some ⟨tb,0,none⟩) 13 13)/\w'.heap[tb]? =some (.cells #[.nilFunc,.func (.func 195) #[] #[],.func (.func 196) #[] #[],.func (.func 197) #[] #[],.func (.func 198) #[] #[],.func (.func 199) #[] #[],.func (.func 200) #[] #[],.func (.func 201) #[] #[],.func (.func 202) #[] #[],.func (.func 203) #[] #[],.func (.func 204) #[] #[],.func (.func 205) #[] #[],.func (.func 206) #[] #[]] 219 (0,0))/\Ze [] w w':=by
 go_enter func186,ntmps186;go_wp2;go_ret;exact ⟨_,rfl,Zc _ _,(Zr_ _ _).alloc _⟩
theorem one1_c (x:Nat) (w:World):Calls Tryz.prog 179 #[.int .i64 1,.float .f64 x] w (N8 w):=by
 go_enter func179,ntmps179;go_wp2_with fail;refine (J4 _).mono ?_;rintro e w1 ⟨tb,rfl,K,D1⟩;have c1:w1.cell? ⟨tb,1,none⟩=some (.func (.func 189) #[] #[]):=Za K rfl;clear K;go_wp2_with fail
 go_region_held3 (λ wx=>wx.cell? ⟨tb,1,none⟩=some (.func (.func 189) #[] #[])) (first|exact c1|assumption)
  (first
   |(go_at_call 73;refine (Yp _ _).mono ?_;rintro e w2 ⟨rfl,rfl⟩)
   |(go_at_call 189;refine (neg_a _ _).mono ?_;rintro e w2 ⟨y,n,rfl,rfl⟩))
 all_goals
  go_wp2;go_ret2;exact ⟨_,rfl,D1.drewN _⟩
theorem one2_c (x:Nat) (w:World):Calls Tryz.prog 179 #[.int .i64 2,.float .f64 x] w (N8 w):=by
 go_enter func179,ntmps179;go_wp2_with fail;refine (J4 _).mono ?_;rintro e w1 ⟨tb,rfl,K,D1⟩;have c1:w1.cell? ⟨tb,2,none⟩=some (.func (.func 181) #[] #[]):=Za K rfl;clear K;go_wp2_with fail
 go_region_held3 (λ wx=>wx.cell? ⟨tb,2,none⟩=some (.func (.func 181) #[] #[])) (first|exact c1|assumption)
  (first
   |(go_at_call 73;refine (Yp _ _).mono ?_;rintro e w2 ⟨rfl,rfl⟩)
   |(go_at_call 181;refine (abs_a _ _).mono ?_;rintro e w2 ⟨y,n,rfl,rfl⟩))
 all_goals
  go_wp2;go_ret2;exact ⟨_,rfl,D1.drewN _⟩
theorem one3_c (x:Nat) (w:World):Calls Tryz.prog 179 #[.int .i64 3,.float .f64 x] w (N8 w):=by
 go_enter func179,ntmps179;go_wp2_with fail;refine (J4 _).mono ?_;rintro e w1 ⟨tb,rfl,K,D1⟩;have c1:w1.cell? ⟨tb,3,none⟩=some (.func (.func 121) #[] #[]):=Za K rfl;clear K;go_wp2_with fail
 go_region_held3 (λ wx=>wx.cell? ⟨tb,3,none⟩=some (.func (.func 121) #[] #[])) (first|exact c1|assumption)
  (first
   |(go_at_call 73;refine (Yp _ _).mono ?_;rintro e w2 ⟨rfl,rfl⟩)
   |(go_at_call 121;refine (floor_a _ _).mono ?_;rintro e w2 ⟨y,n,rfl,rfl⟩))
 all_goals
  go_wp2;go_ret2;exact ⟨_,rfl,D1.drewN _⟩
theorem one4_c (x:Nat) (w:World):Calls Tryz.prog 179 #[.int .i64 4,.float .f64 x] w (N8 w):=by
 go_enter func179,ntmps179;go_wp2_with fail;refine (J4 _).mono ?_;rintro e w1 ⟨tb,rfl,K,D1⟩;have c1:w1.cell? ⟨tb,4,none⟩=some (.func (.func 122) #[] #[]):=Za K rfl;clear K;go_wp2_with fail
 go_region_held3 (λ wx=>wx.cell? ⟨tb,4,none⟩=some (.func (.func 122) #[] #[])) (first|exact c1|assumption)
  (first
   |(go_at_call 73;refine (Yp _ _).mono ?_;rintro e w2 ⟨rfl,rfl⟩)
   |(go_at_call 122;refine (sqrt_a _ _).mono ?_;rintro e w2 ⟨y,n,rfl,rfl⟩))
 all_goals
  go_wp2;go_ret2;exact ⟨_,rfl,D1.drewN _⟩
theorem one5_c (x:Nat) (w:World):Calls Tryz.prog 179 #[.int .i64 5,.float .f64 x] w (N8 w):=by
 go_enter func179,ntmps179;go_wp2_with fail;refine (J4 _).mono ?_;rintro e w1 ⟨tb,rfl,K,D1⟩;have c1:w1.cell? ⟨tb,5,none⟩=some (.func (.func 190) #[] #[]):=Za K rfl;clear K;go_wp2_with fail
 go_region_held3 (λ wx=>wx.cell? ⟨tb,5,none⟩=some (.func (.func 190) #[] #[])) (first|exact c1|assumption)
  (first
   |(go_at_call 73;refine (Yp _ _).mono ?_;rintro e w2 ⟨rfl,rfl⟩)
   |(go_at_call 190;refine (not_a _ _).mono ?_;rintro e w2 ⟨y,n,rfl,rfl⟩))
 all_goals
  go_wp2;go_ret2;exact ⟨_,rfl,D1.drewN _⟩
theorem one6_c (x:Nat) (w:World):Calls Tryz.prog 179 #[.int .i64 6,.float .f64 x] w (N8 w):=by
 go_enter func179,ntmps179;go_wp2_with fail;refine (J4 _).mono ?_;rintro e w1 ⟨tb,rfl,K,D1⟩;have c1:w1.cell? ⟨tb,6,none⟩=some (.func (.func 192) #[] #[]):=Za K rfl;clear K;go_wp2_with fail
 go_region_held3 (λ wx=>wx.cell? ⟨tb,6,none⟩=some (.func (.func 192) #[] #[])) (first|exact c1|assumption)
  (first
   |(go_at_call 73;refine (Yp _ _).mono ?_;rintro e w2 ⟨rfl,rfl⟩)
   |(go_at_call 192;refine (isnan_a _ _).mono ?_;rintro e w2 ⟨y,n,rfl,rfl⟩))
 all_goals
  go_wp2;go_ret2;exact ⟨_,rfl,D1.drewN _⟩
theorem one7_c (x:Nat) (w:World):Calls Tryz.prog 179 #[.int .i64 7,.float .f64 x] w (N8 w):=by
 go_enter func179,ntmps179;go_wp2_with fail;refine (J4 _).mono ?_;rintro e w1 ⟨tb,rfl,K,D1⟩;have c1:w1.cell? ⟨tb,7,none⟩=some (.func (.func 193) #[] #[]):=Za K rfl;clear K;go_wp2_with fail
 go_region_held3 (λ wx=>wx.cell? ⟨tb,7,none⟩=some (.func (.func 193) #[] #[])) (first|exact c1|assumption)
  (first
   |(go_at_call 73;refine (Yp _ _).mono ?_;rintro e w2 ⟨rfl,rfl⟩)
   |(go_at_call 193;refine (sign_a _ _).mono ?_;rintro e w2 ⟨y,n,rfl,rfl⟩))
 all_goals
  go_wp2;go_ret2;exact ⟨_,rfl,D1.drewN _⟩
theorem one8_c (x:Nat) (w:World):Calls Tryz.prog 179 #[.int .i64 8,.float .f64 x] w (N8 w):=by
 go_enter func179,ntmps179;go_wp2_with fail;refine (J4 _).mono ?_;rintro e w1 ⟨tb,rfl,K,D1⟩;have c1:w1.cell? ⟨tb,8,none⟩=some (.func (.func 194) #[] #[]):=Za K rfl;clear K;go_wp2_with fail
 go_region_held3 (λ wx=>wx.cell? ⟨tb,8,none⟩=some (.func (.func 194) #[] #[])) (first|exact c1|assumption)
  (first
   |(go_at_call 73;refine (Yp _ _).mono ?_;rintro e w2 ⟨rfl,rfl⟩)
   |(go_at_call 194;refine (hash_a _ _).mono ?_;rintro e w2 ⟨y,n,rfl,rfl⟩))
 all_goals
  go_wp2;go_ret2;exact ⟨_,rfl,D1.drewN _⟩
theorem one_c (k:Int) (h1:1<=k) (h2:k<=8) (x:Nat) (w:World):Calls Tryz.prog 179 #[.int .i64 k,.float .f64 x] w (N8 w):=by
 rcases (show k=1\/k=2\/k=3\/k=4\/k=5\/k=6\/k=7\/k=8 by omega) with rfl|rfl|rfl|rfl|rfl|rfl|rfl|rfl
 ·exact one1_c x w
 ·exact one2_c x w
 ·exact one3_c x w
 ·exact one4_c x w
 ·exact one5_c x w
 ·exact one6_c x w
 ·exact one7_c x w
 ·exact one8_c x w
def Cf (op:Int) (x y v:Nat):Nat:=
 if op=1 then Hs .add x y else if op=2 then Hs .sub x y else if op=3 then Hs .mul x y else if op=4 then Hs .quo x y else if op=8 then yesF (FloatKind.f64.format.order x y==some .lt) else Zt v
def Fm (op:Int) (x y:Nat) (w:World) (e:Ending) (w':World):Prop:=∃ v,e=.returned (.tuple #[.float .f64 (Cf op (Zt x) (Zt y) v),.int .i64 0])/\Ze [] w w'
end
section
attribute [local go_sem] Zj
structure Xj where
 order:List Int
 last:Int->Option Nat
 most:Int
def Xj.val (s:Xj) (k:Int):Nat:=(s.last k).getD 0
def Xj.known (s:Xj) (k:Int):Bool:=(s.last k).isSome
def Xj.all (s:Xj):List (Int×Nat):=s.order.map (λ k=>(k,s.val k))
def Xj.put (s:Xj) (k:Int) (x:Nat):Xj:={s with order:=if s.known k then s.order else s.order++[k],last:=J1 s.last k (Zt x)}
def Yh (l:List (Int×Nat)):List Value:=l.flatMap (λ p=>[Value.int .i64 p.1,Value.float .f64 p.2])
variable {w w':World} {bb mb:Nat} {v:Value} {s:Xj}
structure Vd (w:World) (bb mb:Nat) (v:Value) (s:Xj):Prop where
 hd:w.heap[bb]? =some (.cells #[.map (some mb),v,.int .i64 s.most] 200 (0,0))
 map:Qt w mb s.order.length (λ k=>(s.last k).map (Value.float .f64))
 row:w.ownsRow 0 3 1 v s.order.length (s.order.map (Value.int .i64))
 ne:bb≠mb
 own:∀ g,v.ownBlock=some g->g≠bb/\g≠mb
 room:(s.order.length:Int)<=s.most
 most:s.most<=32
theorem Vd.mod {S:List Nat} (h:Vd w bb mb v s) (m:Ze S w w') (h1:bb∉S) (h2:mb∉S) (h3:∀ g,v.ownBlock=some g->g∉S):Vd w' bb mb v s:=
 ⟨m.at h.hd h1,h.map.mod m h2,V5 h.row m h3,h.ne,h.own,h.room,h.most⟩
theorem Vd.drewN (h:Vd w bb mb v s) (n:Nat):Vd (w.drewN n) bb mb v s:=⟨h.hd,h.map.drewN n,Bz h.row n,h.ne,h.own,h.room,h.most⟩
theorem Jf (w:World):(zeroValue 51).run Tryz.prog w=.ok (.float .f64 0) w:=by kernel_rfl
theorem buf_new (n:Int) (h1:1<=n) (h2:n<=32) (w:World):Calls Tryz.prog 84 #[.int .i64 n] w λ e w'=>∃ bb mb v,e=.returned (.tuple #[.pointer (some ⟨bb,0,none⟩),.int .i64 0])/\Vd w' bb mb v ⟨[],λ _=>none,n⟩/\v.ownBlock=none/\w.heap.size<=bb/\w.heap.size<=mb/\Ze [] w w':=by
 have d1:decide (n < 1)=false:=decide_eq_false (by omega);have d2:decide (32 < n)=false:=decide_eq_false (by omega);have hm:=λ w=>run_makeMap (P:=Tryz.prog) 198 w;go_enter func84,ntmps84;go_wp2;go_ret2;refine ⟨_,_,.slice none 0 0,rfl,⟨by rw [show w.heap.size+1=(w.alloc (.map #[] 0)).heap.size by simp];exact Zc _ _,(Qt.made w).alloc _,World.ownsRow_nil _ _ _ _,by simp,by simp [Value.ownBlock],by simp;omega,h2⟩,rfl,by simp,Nat.le_refl _,((Zr_ _ _).alloc _).alloc _⟩
theorem Sg (h:Vd w bb mb v s) (k:Int) (hk:(Lit.int .i64 k).wf=true):Calls Tryz.prog 174 #[.pointer (some ⟨bb,0,none⟩),.int .i64 k] w λ e w'=>e=.returned (.tuple #[.float .f64 (s.val k),.bool (s.known k)])/\∃ n,w'=w.drewN n:=by
 have r0:w.cell? ⟨bb,0,none⟩=some (.map (some mb)):=Za h.hd rfl;have hl:=λ n=>(h.map.drewN n).look (t:=198) (e:=51) underlying198 Jf hk;have hl0:=h.map.look (t:=198) (e:=51) underlying198 Jf hk;have e1:(Option.map (Value.float .f64) (s.last k)).getD (.float .f64 0)=.float .f64 (s.val k):=by unfold Xj.val;cases s.last k <;> rfl
 have e2:(Option.map (Value.float .f64) (s.last k)).isSome=s.known k:=by unfold Xj.known;cases s.last k <;> rfl
 simp only [e1,e2] at hl hl0;clear e1 e2 h;go_enter func174,ntmps174;go_wp2_with fail;go_wp2;go_ret2;exact ⟨rfl,0,rfl⟩
theorem buf_full (h:Vd w bb mb v s) (k:Int) (hk:(Lit.int .i64 k).wf=true) (hkn:s.known k=false) (hf:(s.order.length:Int)=s.most) (x:Nat):Calls Tryz.prog 176 #[.pointer (some ⟨bb,0,none⟩),.int .i64 k,.float .f64 x] w λ e w'=>e=.returned (.tuple #[.bool false,.int .i64 70])/\∃ n,w'=w.drewN n:=by
 have hl:=λ n=>(h.map.drewN n).look (t:=198) (e:=51) underlying198 Jf hk;have hl0:=h.map.look (t:=198) (e:=51) underlying198 Jf hk;have e1:(Option.map (Value.float .f64) (s.last k)).getD (.float .f64 0)=.float .f64 (s.val k):=by unfold Xj.val;cases s.last k <;> rfl
 have e2:(Option.map (Value.float .f64) (s.last k)).isSome=s.known k:=by unfold Xj.known;cases s.last k <;> rfl
 simp only [e1,e2,hkn] at hl hl0;obtain ⟨a,cap,rfl⟩:=Zo h.row;have r0:w.cell? ⟨bb,0,none⟩=some (.map (some mb)):=Za h.hd rfl;have r1:w.cell? ⟨bb,1,none⟩=some (.slice a s.order.length cap):=Za h.hd rfl;have r2:w.cell? ⟨bb,2,none⟩=some (.int .i64 s.most):=Za h.hd rfl;have hb:((s.order.length:Int)==s.most)=true:=by simp [hf]
 clear e1 e2 h hf hkn hl;go_enter func176,ntmps176;go_wp2_with fail;go_quiet (fail);go_wp2;go_ret2;exact ⟨rfl,_,rfl⟩
theorem Dg (h:Vd w bb mb v s) (k:Int) (hk:(Lit.int .i64 k).wf=true) (hkn:s.known k=true) (x:Nat):Calls Tryz.prog 176 #[.pointer (some ⟨bb,0,none⟩),.int .i64 k,.float .f64 x] w λ e w'=>e=.returned (.tuple #[.bool false,.int .i64 0])/\Vd w' bb mb v (s.put k x)/\Ze [mb] w w':=by
 have hl:=λ n=>(h.map.drewN n).look (t:=198) (e:=51) underlying198 Jf hk;have hl0:=h.map.look (t:=198) (e:=51) underlying198 Jf hk;have e1:(Option.map (Value.float .f64) (s.last k)).getD (.float .f64 0)=.float .f64 (s.val k):=by unfold Xj.val;cases s.last k <;> rfl
 have e2:(Option.map (Value.float .f64) (s.last k)).isSome=s.known k:=by unfold Xj.known;cases s.last k <;> rfl
 simp only [e1,e2,hkn] at hl hl0;obtain ⟨a,cap,rfl⟩:=Zo h.row;have r0:w.cell? ⟨bb,0,none⟩=some (.map (some mb)):=Za h.hd rfl;have HH:=Zh_ h;clear e1 e2 h hl;have HKN:=Zh_ hkn;clear hkn;go_enter func176,ntmps176;go_wp2_with fail;have hm:Qt w.drew mb s.order.length (λ k=>(s.last k).map (Value.float .f64)):=HH.out.map;obtain ⟨w2,hup,F2,D2⟩:=hm.set (t:=198) (e:=51) underlying198 (by have h1:=HH.out.room;have h2:=HH.out.most;unfold maxLen;omega) hk (.float .f64 (Zt x));have HF:=Zh_ F2;have HD:=Zh_ D2;clear F2 D2 hm
 go_region_with (first|(go_at_call 73;refine (Yp _ _).mono ?_;rintro e w2 ⟨rfl,rfl⟩))
 all_goals
  go_wp2;go_ret2;have H:=HH.out;have DD:Ze [mb] w w2:=((Zr_ [mb] w).drew).trans HD.out;have F:=HF.out;rw [if_pos (by simpa [Xj.known] using HKN.out)] at F;refine ⟨rfl,?_,DD⟩;have eo:(s.put k x).order=s.order:=by unfold Xj.put;rw [HKN.out];rfl
  have em:(s.put k x).most=s.most:=rfl;refine ⟨?_,?_,?_,H.ne,H.own,by rw [eo,em];exact H.room,H.most⟩
  ·rw [em];exact DD.at H.hd (by simp [H.ne])
  ·rw [eo];have e3:(λ k'=>Option.map (Value.float .f64) ((s.put k x).last k'))=J1 (λ k=>Option.map (Value.float .f64) (s.last k)) k (.float .f64 (Zt x)):=by
    funext i;unfold Xj.put J1;by_cases hi:i=k <;> simp [hi]
   rw [e3];exact F
  ·rw [eo];exact V5 H.row DD (λ g hg=>by simp [(H.own g hg).2])
theorem Tw (h:Vd w bb mb v s) (k:Int) (hk:(Lit.int .i64 k).wf=true) (hkn:s.known k=false) (hf:(s.order.length:Int) < s.most) (x:Nat):Calls Tryz.prog 176 #[.pointer (some ⟨bb,0,none⟩),.int .i64 k,.float .f64 x] w λ e w'=>e=.returned (.tuple #[.bool true,.int .i64 0])/\∃ v',Vd w' bb mb v' (s.put k x)/\Us w v v'/\Ze (bb :: mb :: v.ownBlock.toList) w w':=by
 have hl:=λ n=>(h.map.drewN n).look (t:=198) (e:=51) underlying198 Jf hk;have hl0:=h.map.look (t:=198) (e:=51) underlying198 Jf hk;have e1:(Option.map (Value.float .f64) (s.last k)).getD (.float .f64 0)=.float .f64 (s.val k):=by unfold Xj.val;cases s.last k <;> rfl
 have e2:(Option.map (Value.float .f64) (s.last k)).isSome=s.known k:=by unfold Xj.known;cases s.last k <;> rfl
 simp only [e1,e2,hkn] at hl hl0;obtain ⟨a,cap,rfl⟩:=Zo h.row;have r0:w.cell? ⟨bb,0,none⟩=some (.map (some mb)):=Za h.hd rfl;have r1:w.cell? ⟨bb,1,none⟩=some (.slice a s.order.length cap):=Za h.hd rfl;have r2:w.cell? ⟨bb,2,none⟩=some (.int .i64 s.most):=Za h.hd rfl;have hb:((s.order.length:Int)==s.most)=false:=by simp;omega
 have hh:=h;clear e1 e2 hl h;go_enter func176,ntmps176;go_wp2_with fail;go_quiet (fail);have h1:=hh.drewN nq;have HKN:=Zh_ hkn;have D1:Ze (bb :: mb :: (Value.slice a s.order.length cap).ownBlock.toList) w (w.drewN nq):=(Zr_ _ _).drewN nq;have z1:Hid (w.heap.size<=(w.drewN nq).heap.size):=Zh_ (Nat.le_refl _);clear r0 r1 r2 hl0 hh hkn;generalize w.drewN nq=w1 at *
 have r1:w1.cell? ⟨bb,1,none⟩=some (.slice a s.order.length cap):=Za h1.hd rfl;obtain ⟨i0,hi0,hz0,hz1,hz2⟩:=info_parts info3;go_wp2_with (at_builtin;refine wpList_append_own_at _ rfl _ _ 34 rfl 0 3 i0 (.int .i64 0) 1 8 underlying34 hi0 hz0 hz1 hz2 rfl (by decide) _ _ _ rfl (h1.row.alloc _) ⟨w1.heap.size,0,none⟩ 1 1 [Value.int .i64 k] rfl rfl ?CA ?CB ?CC ?CD ?CE ?_)
 case CA=>exact cell_one_new _ _ _
 case CB=>intro u hu;simp at hu;subst hu;rfl
 case CC=>have e1:=h1.room;have e2:=h1.most;unfold maxLen;omega
 case CD=>have e1:=h1.room;have e2:=h1.most;omega
 case CE=>exact Nat.zero_le _
 intro u' w5 ho5 hg5 _ hat;obtain ⟨g5,cap5,rfl,-⟩:=Yd ho5 (by omega);have hltb:=lt_of_block h1.hd;have hltm:=h1.map.lt;have D5:Ze (bb :: mb :: (Value.slice a s.order.length cap).ownBlock.toList) w w5:=(D1.alloc _).grown hg5 (λ g hg=>.inl (by simp [hg]));have E5:Ze (Value.slice a s.order.length cap).ownBlock.toList w1 w5:=((Zr_ _ _).alloc _).grown hg5 (λ g hg=>.inl (by simp [hg]));have hown:=h1.own;have K5:w5.heap[bb]? =some (.cells #[.map (some mb),.slice a s.order.length cap,.int .i64 s.most] 200 (0,0)):=E5.at h1.hd (λ hg=>(hown bb (by simpa [eq_comm] using hg)).1 rfl);have M5:Qt w5 mb s.order.length (λ k=>(s.last k).map (Value.float .f64)):=h1.map.mod E5 (λ hg=>(hown mb (by simpa [eq_comm] using hg)).2 rfl);have hg5':g5≠bb/\g5≠mb:=by
  rcases hat with e|e
  ·exact hown g5 e.symm
  ·simp [Value.ownBlock] at e;omega
 have hon:Us w (.slice a s.order.length cap) (.slice (some ⟨g5,0,none⟩) (s.order.length+1) cap5):=by
  rcases hat with e|e
  ·exact .inl e
  ·exact .inr ⟨_,e,by have:=z1.out;first|omega|(rw [World.size_alloc];omega)⟩
 have HON:=Zh_ hon;have HG:=Zh_ hg5';have HO:=Zh_ ho5;have HE:=Zh_ h1;have HKB:=Zh_ K5;have z8:=Zb (i:=1) K5;have r8:w5.cell? ⟨bb,1,none⟩=some (.slice a s.order.length cap):=Za K5 rfl;have r9:w5.cell? ⟨bb,0,none⟩=some (.map (some mb)):=Za K5 rfl;clear hat hon hg5 ho5 h1 D1 r1 hg5' hown E5 K5;have M6:Qt (w5.setCell ⟨bb,1,none⟩ (.slice (some ⟨g5,0,none⟩) (s.order.length+1) cap5)).drew mb s.order.length (λ k=>(s.last k).map (Value.float .f64)):=(M5.mod ((Zr_ [bb] _).setCell ⟨bb,1,none⟩ _ (.inl (by simp))) (by simp;exact Ne.symm HE.out.ne):Qt (w5.setCell ⟨bb,1,none⟩ (.slice (some ⟨g5,0,none⟩) (s.order.length+1) cap5)) mb s.order.length (λ k=>(s.last k).map (Value.float .f64)));obtain ⟨w2,hup,F2,D2⟩:=M6.set (t:=198) (e:=51) underlying198 (by have h1:=HE.out.room;have h2:=HE.out.most;unfold maxLen;omega) hk (.float .f64 (Zt x));have HF:=Zh_ F2;have HD:=Zh_ D2;clear F2 D2 M6 M5;go_wp2_with fail
 go_region_with (first|(go_at_call 73;refine (Yp _ _).mono ?_;rintro e w2 ⟨rfl,rfl⟩))
 all_goals
  go_wp2;go_ret2;have H:=HE.out;have F:=HF.out;rw [if_neg (by simpa [Xj.known] using HKN.out)] at F;have eo:(s.put k x).order=s.order++[k]:=by unfold Xj.put;rw [HKN.out];rfl
  have em:(s.put k x).most=s.most:=rfl;have D8:Ze [bb,mb] w5 w2:=((((Zr_ [bb,mb] w5).setCell ⟨bb,1,none⟩ (.slice (some ⟨g5,0,none⟩) (s.order.length+1) cap5) (.inl (by simp))).drew)).then HD.out (by simp)
  have K8:w2.heap[bb]? =some (.cells #[.map (some mb),.slice (some ⟨g5,0,none⟩) (s.order.length+1) cap5,.int .i64 s.most] 200 (0,0)):=HD.out.at (show (w5.setCell ⟨bb,1,none⟩ _).heap[bb]? =_ from Zd (i:=1) _ HKB.out) (by simp [H.ne]);refine ⟨rfl,_,⟨by rw [em];exact K8,?_,?_,H.ne,λ g hg=>?_,by rw [eo,em];simp;omega,H.most⟩,HON.out,D5.then D8 (by simp)⟩
  ·rw [eo];have e3:(λ k'=>Option.map (Value.float .f64) ((s.put k x).last k'))=J1 (λ k=>Option.map (Value.float .f64) (s.last k)) k (.float .f64 (Zt x)):=by
    funext i;unfold Xj.put J1;by_cases hi:i=k <;> simp [hi]
   rw [e3,List.length_append];exact F
  ·rw [eo];have:=V5 HO.out D8 (λ g hg=>by simp [Value.ownBlock] at hg;subst hg;simp [HG.out]);simpa using this
  ·simp [Value.ownBlock] at hg;subst hg;exact HG.out
end
section
attribute [local go_sem] Zj
variable {w w':World} {bb mb:Nat} {v:Value} {s:Xj}
theorem Pr:(Tryz.prog.info? 53).map (λ i=>(i.zero,i.size,i.bytes))=some (some (.agg #[.int .i64 0,.float .f64 0]),2,16):=by kernel_rfl
def Kw (l:List (Int×Nat)) (zs:List Value) (i:Nat):List Value:=Yh (l.take i)++zs.drop (i * 2)
theorem H7 (l:List (Int×Nat)):(Yh l).length=l.length * 2:=by
 induction l with
 |nil=>rfl
 |cons p l ih=>simp [Yh] at ih ⊢;omega
theorem Gc (l m:List (Int×Nat)):Yh (l++m)=Yh l++Yh m:=by simp [Yh]
theorem Wo {l:List (Int×Nat)} {zs:List Value} {i:Nat} {c:Int} {x:Nat} (hz:zs.length=l.length * 2) (hi:l[i]? =some (c,x)):((Kw l zs i).set (i * 2) (.int .i64 c)).set (i * 2+1) (.float .f64 x)=Kw l zs (i+1):=by
 obtain ⟨hlt,he⟩:=List.getElem?_eq_some_iff.1 hi;unfold Kw;have h1:(Yh (l.take i)).length=i * 2:=by rw [H7];simp;omega
 rw [List.set_append_right _ _ (by omega),h1,Nat.sub_self,List.set_append_right _ _ (by omega),h1,show i * 2+1 - i * 2=1 by omega];rw [List.take_succ_eq_append_getElem hlt,he,Gc,List.append_assoc];congr 1
 rw [List.drop_eq_getElem_cons (by omega),List.drop_eq_getElem_cons (i:=i * 2+1) (by omega),show (i+1) * 2=i * 2+1+1 by omega];rfl
theorem fill_all {l:List (Int×Nat)} {zs:List Value} (hz:zs.length=l.length * 2):Kw l zs l.length=Yh l:=by
 unfold Kw;rw [List.take_length,<-hz,List.drop_length,List.append_nil]
theorem buf_all (h:Vd w bb mb v s) (hw:∀ k∈s.order,(Lit.int .i64 k).wf=true):Calls Tryz.prog 147 #[.pointer (some ⟨bb,0,none⟩)] w λ e w'=>∃ u,e=.returned u/\w'.ownsRow 0 53 2 u s.order.length (Yh s.all)/\u.ownBlock=some w.heap.size/\Ze [] w w':=by
 obtain ⟨a,cap,rfl⟩:=Zo h.row;have r0:w.cell? ⟨bb,0,none⟩=some (.map (some mb)):=Za h.hd rfl;have r1:w.cell? ⟨bb,1,none⟩=some (.slice a s.order.length cap):=Za h.hd rfl;have hlen:s.order.length<=32:=by have:=h.room;have:=h.most;omega
 obtain ⟨i0,hi0,hz0,hz1,hz2⟩:=info_parts Pr;go_enter func147,ntmps147;go_wp2_with (first|(at_make;refine wpList_make_full _ rfl _ _ 46 rfl 0 53 i0 (.agg #[.int .i64 0,.float .f64 0]) 2 underlying46 hi0 hz0 hz1 _ _ _ _ s.order.length rfl rfl rfl rfl (by rw [hz2];omega) (by unfold maxLen;omega) (Nat.zero_le _) ?_))
 intro w1 ho1 hg1;have H1:=h.mod (show Ze [] w w1 from (Zr_ _ _).grown hg1 (by simp)) (by simp) (by simp) (by simp);have D1:Ze [] w w1:=(Zr_ _ _).grown hg1 (by simp);have hsz:(madeCells #[Value.int .i64 0,Value.float .f64 0] (s.order.length * 2)).toList.length=s.order.length * 2:=ho1.1;generalize (madeCells #[Value.int .i64 0,Value.float .f64 0] (s.order.length * 2)).toList=zs at *
 have e0:Kw s.all zs 0=zs:=by simp [Kw,Yh]
 have q1:w1.cell? ⟨bb,1,none⟩=some (.slice a s.order.length cap):=Za H1.hd rfl;have HB:=Zh_ h;clear r0 r1 hg1 h;go_wp2_with fail
 go_loopw [17] (λ i wr=>∃ k:Nat,k<=s.order.length/\i=.int .i64 k/\wr.ownsRow 0 53 2 (.slice (some ⟨w.heap.size,0,none⟩) s.order.length s.order.length) s.order.length (Kw s.all zs k)/\Vd wr bb mb (.slice a s.order.length cap) s/\Ze [] w wr) (λ i _=>s.order.length - (intOf i).toNat)
 case atStart=>exact ⟨0,Nat.zero_le _,rfl,by rw [e0];exact ho1,H1,D1⟩
 case round=>
  clear ho1 H1 D1 q1;obtain ⟨k,hk,rfl,hown,B,D⟩:=hrel
  by_cases hlt:k < s.order.length
  ·obtain ⟨g,cap',hv,-⟩:=Yd B.row (by omega);simp only [Value.slice.injEq,true_and] at hv;obtain ⟨rfl,rfl⟩:=hv;obtain ⟨c,hc⟩:∃ c,s.order[k]? =some c:=⟨_,List.getElem?_eq_getElem hlt⟩;have hcw:=hw c (List.mem_of_getElem? hc);have q2:wr.cell? ⟨g,k,none⟩=some (.int .i64 c):=Ki B.row rfl (by simp [hc]);have q0:wr.cell? ⟨bb,0,none⟩=some (.map (some mb)):=Za B.hd rfl;have hl:=B.map.get (t:=198) (e:=51) underlying198 Jf hcw;have e1:(Option.map (Value.float .f64) (s.last c)).getD (.float .f64 0)=.float .f64 (s.val c):=by unfold Xj.val;cases s.last c <;> rfl
   simp only [e1] at hl;clear e1;have z0:=hown.frozenAt (k * 2);have z1:=hown.frozenAt (k * 2+1);have hlen2:(Kw s.all zs k).length=s.order.length * 2:=hown.1;obtain ⟨y0,y0h⟩:∃ y,wr.cell? ⟨w.heap.size,k * 2,none⟩=some y:=by rw [hown.cellAt _ (by omega)];exact ⟨_,List.getElem?_eq_getElem (by omega)⟩
   obtain ⟨y1,y1h⟩:∃ y,wr.cell? ⟨w.heap.size,k * 2+1,none⟩=some y:=by rw [hown.cellAt _ (by omega)];exact ⟨_,List.getElem?_eq_getElem (by omega)⟩
   have HW:=Zh_ hown;have HBB:=Zh_ B;have HD:=Zh_ D;have HC:=Zh_ hc;have HL:=Zh_ hlen2;clear hown B D hc hlen2;go_wp2;have hcl:s.all[k]? =some (c,s.val c):=by unfold Xj.all;rw [List.getElem?_map,HC.out];rfl
   have hzz:zs.length=s.all.length * 2:=by simpa [Xj.all] using hsz
   have hb1:=lt_of_block HB.out.hd;have hb2:=HB.out.map.lt;have hb3:∀ g',(Value.slice (some ⟨g,0,none⟩) s.order.length cap).ownBlock=some g'->g' < w.heap.size:=λ g' hg'=>(HB.out.row.lt g' hg').2;have d1:Ze [w.heap.size] wr ((wr.setCell ⟨w.heap.size,k * 2,none⟩ (.int .i64 c)).setCell ⟨w.heap.size,k * 2+1,none⟩ (.float .f64 (s.val c))):=((Zr_ _ _).setCell _ _ (.inl (by simp))).setCell _ _ (.inl (by simp));refine ⟨⟨k+1,by omega,by congr 1,?_,HBB.out.mod d1 (by simp;omega) (by simp;omega) (λ g' hg'=>by have:=hb3 g' hg';simp;omega),(HD.out.setCell _ _ (.inr (Nat.le_refl _))).setCell _ _ (.inr (Nat.le_refl _))⟩,by simp [intOf];omega⟩;rw [<-Wo hzz hcl];exact ((HW.out.stored (k * 2) (.int .i64 c)).1.stored (k * 2+1) (.float .f64 (s.val c))).1
  ·obtain rfl:k=s.order.length:=by omega
   have hz:zs.length=s.all.length * 2:=by simpa [Xj.all] using hsz
   have e:Kw s.all zs s.order.length=Yh s.all:=by rw [<-fill_all hz];simp [Xj.all]
   rw [e] at hown;go_wp2;go_ret;exact ⟨_,rfl,hown,rfl,D⟩
end
end Go.Proofs.YtkhonmhnchdpkaaGreat

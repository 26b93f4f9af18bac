/- A part of the proof; no condition. -/
import Derived.Test.YtkhonmhnchdpkaaGreatB00
import Derived.Laws.FloatArith
import Derived.Deep.RegionWith
import Derived.Laws.OwnMore
import Derived.OwnWalk
set_option maxRecDepth 100000
set_option maxHeartbeats 40000000
namespace Go.Proofs.YtkhonmhnchdpkaaGreat
open Go.RowKit _root_.Go.Proofs.Tryz
open Go renaming World→W
open Value renaming int→U,pointer→E,slice→L,float→Z,agg→A9
open IntKind renaming i64→Y
open FloatKind renaming f64→V
open Obj renaming cells→X
open Option renaming some→I,none→O
open Ending renaming returned→R9
open _root_.Go.Proofs.Tryz renaming prog→N
section
open Ieee
theorem cut0 (s:Bool) (n d:Nat):Toward.zero.cut s n d=n / 2 ^ d:=by
 unfold Toward.cut;simp only [Nat.shiftLeft_eq,Nat.one_mul,Bool.toNat_false,Nat.add_zero]
 by_cases h:d<=n.log2+2
 ·rw [Nat.min_eq_left h]
 ·rw [Nat.min_eq_right (by omega)];have h1:n < 2 ^ (n.log2+2):=Nat.lt_of_lt_of_le Nat.lt_log2_self (Nat.pow_le_pow_right (by decide) (by omega));rw [Nat.div_eq_of_lt h1,Nat.div_eq_of_lt (Nat.lt_of_lt_of_le h1 (Nat.pow_le_pow_right (by decide) (by omega)))]
def Ju (m:Nat) (i:Int):Nat:=(m * 2 ^ i.toNat) / 2 ^ (-i).toNat
theorem Fh (s:Bool) (m:Nat) (i:Int):(Datum.number s m i).toInt .zero=I (if s then -(Ju m i:Int) else (Ju m i:Int)):=by
 unfold Datum.toInt Datum.integral;simp only [cut0,Nat.shiftLeft_eq];unfold signed Ju;simp only [Nat.shiftLeft_zero]
theorem Cf {m:Nat} {i j:Int} (hj:0<=j) (h:m * 2 ^ (i - min i j).toNat < 2 ^ 52 * 2 ^ (j - min i j).toNat):Ju m i < 2 ^ (52+j.toNat):=by
 unfold Ju
 by_cases hij:j<=i
 ·rw [Int.min_eq_right hij] at h;rw [show (j - j).toNat=0 by omega] at h;rw [show (-i).toNat=0 by omega,Nat.pow_zero,Nat.div_one,show i.toNat=(i - j).toNat+j.toNat by omega,Nat.pow_add,Nat.pow_add,<-Nat.mul_assoc];exact Nat.mul_lt_mul_of_pos_right (by simpa using h) (Nat.pow_pos (by decide))
 ·rw [Int.min_eq_left (by omega)] at h;rw [show (i - i).toNat=0 by omega,Nat.pow_zero,Nat.mul_one] at h
  by_cases hi:0<=i
  ·rw [show (-i).toNat=0 by omega,Nat.pow_zero,Nat.div_one,show 52+j.toNat=52+(j - i).toNat+i.toNat by omega,Nat.pow_add,Nat.pow_add];exact Nat.mul_lt_mul_of_pos_right h (Nat.pow_pos (by decide))
  ·rw [show i.toNat=0 by omega,Nat.pow_zero,Nat.mul_one];rw [Nat.div_lt_iff_lt_mul (Nat.pow_pos (by decide))];rw [<-Nat.pow_add,show 52+j.toNat+(-i).toNat=52+(j - i).toNat by omega,Nat.pow_add];exact h
theorem cutI_one {m:Nat} {i:Int} (h:2 ^ 52 * 2 ^ (-52 - min i (-52)).toNat<=m * 2 ^ (i - min i (-52)).toNat):1<=Ju m i:=by
 unfold Ju
 by_cases hij:-52<=i
 ·rw [Int.min_eq_right hij] at h;rw [show (-52 - -52:Int).toNat=0 by omega,Nat.pow_zero,Nat.mul_one] at h
  by_cases hi:0<=i
  ·rw [show (-i).toNat=0 by omega,Nat.pow_zero,Nat.div_one];have hm:0 < m:=by
    rcases Nat.eq_zero_or_pos m with rfl|hm
    ·simp at h
    ·exact hm
   exact Nat.mul_pos hm (Nat.pow_pos (by decide))
  ·rw [show i.toNat=0 by omega,Nat.pow_zero,Nat.mul_one];rw [Nat.le_div_iff_mul_le (Nat.pow_pos (by decide)),Nat.one_mul];have e:(2:Nat) ^ 52=2 ^ (-i).toNat * 2 ^ (i - -52).toNat:=by rw [<-Nat.pow_add];congr 1;omega
   rw [e] at h;exact Nat.le_of_mul_le_mul_right h (Nat.pow_pos (by decide))
 ·rw [Int.min_eq_left (by omega)] at h;rw [show (i - i).toNat=0 by omega,Nat.pow_zero,Nat.mul_one,<-Nat.pow_add] at h;rw [show i.toNat=0 by omega,Nat.pow_zero,Nat.mul_one];rw [Nat.le_div_iff_mul_le (Nat.pow_pos (by decide)),Nat.one_mul]
  rwa [show 52+(-52 - i).toNat=(-i).toNat by omega] at h
theorem read0:FloatKind.f64.format.read 0=.number false 0 (-1074):=by decide+kernel
theorem read63:FloatKind.f64.format.read 4890909195324358656=.number false (2 ^ 52) 11:=by decide+kernel
theorem read53:FloatKind.f64.format.read 4845873199050653696=.number false (2 ^ 52) 1:=by decide+kernel
theorem read1:FloatKind.f64.format.read 4607182418800017408=.number false (2 ^ 52) (-52):=by decide+kernel
theorem Kh {x B:Nat} {j:Int} (hj:0<=j) (hj11:j<=11) (hB:FloatKind.f64.format.read B=.number false (2 ^ 52) j) (h0:FloatKind.f64.format.order x 0≠I .lt) (h0':FloatKind.f64.format.order x 0≠O) (h1:FloatKind.f64.format.order x B=I .lt):
  ∃ s m i,FloatKind.f64.format.read x=.number s m i/\(s=true->m=0)/\floatToIntVal .f64 x .i64=I (Ju m i:Int)/\Ju m i < 2 ^ (52+j.toNat):=by
 unfold Format.order at h0 h0' h1;rw [read0] at h0 h0';rw [hB] at h1;cases hx:FloatKind.f64.format.read x with
 |nan s t=>rw [hx] at h0';exact absurd J h0'
 |infinity s=>
  rw [hx] at h0 h1;cases s
  ·simp [Datum.order] at h1
  ·simp [Datum.order] at h0
 |number s m i=>
  rw [hx] at h0 h1;simp only [Datum.order,signed,Nat.shiftLeft_eq,Option.some.injEq,ne_eq] at h0 h1;have hs:s=true->m=0:=by
   intro hs;subst hs;simp only [if_true,Nat.zero_mul] at h0;rcases Nat.eq_zero_or_pos m with h|h
   ·exact h
   ·exfalso;apply h0;rw [Int.compare_eq_lt];have:=Nat.mul_pos h (Nat.pow_pos (n:=(i - min i (-1074)).toNat) (show 0 < 2 by decide));simp only [Bool.false_eq_true,if_false];omega
  refine ⟨s,m,i,J,hs,?_,?_⟩
  ·have hlt:Ju m i < 2 ^ (52+j.toNat):=by
    refine Cf hj ?_;rw [Int.compare_eq_lt] at h1;cases s
    ·simp only [Bool.false_eq_true,if_false] at h1;omega
    ·rw [hs rfl,Nat.zero_mul];exact Nat.mul_pos (by decide) (Nat.pow_pos (by decide))
   have h63:Ju m i < 2 ^ 63:=Nat.lt_of_lt_of_le hlt (Nat.pow_le_pow_right (by decide) (by omega));unfold floatToIntVal FloatKind.decode;rw [hx,Fh];have he:(if s=true then -(Ju m i:Int) else (Ju m i:Int))=(Ju m i:Int):=by
    cases s
    ·rfl
    ·have:Ju m i=0:=by rw [hs rfl];unfold Ju;simp
     rw [this];rfl
   simp only [he];have e1:IntKind.i64.min=-9223372036854775808:=by decide
   have e2:IntKind.i64.max=9223372036854775807:=by decide
   exact P9 ⟨by rw [e1];omega,by rw [e2];omega⟩
  ·refine Cf hj ?_;rw [Int.compare_eq_lt] at h1;cases s
   ·simp only [Bool.false_eq_true,if_false] at h1;omega
   ·rw [hs rfl,Nat.zero_mul];exact Nat.mul_pos (by decide) (Nat.pow_pos (by decide))
theorem T3 {y:Nat} (h0:FloatKind.f64.format.order y 4607182418800017408≠I .lt) (h0':FloatKind.f64.format.order y 4607182418800017408≠O) (h1:FloatKind.f64.format.order y 4845873199050653696=I .lt):
  ∃ n:Nat,floatToIntVal .f64 y .i64=I (n:Int)/\1<=n/\n < 2 ^ 53:=by
 unfold Format.order at h0 h0' h1;rw [read1] at h0 h0';rw [read53] at h1;cases hx:FloatKind.f64.format.read y with
 |nan s t=>rw [hx] at h0';exact absurd J h0'
 |infinity s=>
  rw [hx] at h0 h1;cases s
  ·simp [Datum.order] at h1
  ·simp [Datum.order] at h0
 |number s m i=>
  rw [hx] at h0 h1;simp only [Datum.order,signed,Nat.shiftLeft_eq,Option.some.injEq,ne_eq] at h0 h1;have hp:0 < 2 ^ 52 * 2 ^ (-52 - min i (-52)).toNat:=Nat.mul_pos (by decide) (Nat.pow_pos (by decide));cases s with
  |true=>
   exfalso;apply h0;rw [Int.compare_eq_lt];simp only [if_true,Bool.false_eq_true,if_false];omega
  |false=>
   have h2:2 ^ 52 * 2 ^ (-52 - min i (-52)).toNat<=m * 2 ^ (i - min i (-52)).toNat:=by
    simp only [Bool.false_eq_true,if_false] at h0;rw [Int.compare_eq_lt] at h0;omega
   have h3:Ju m i < 2 ^ (52+(1:Int).toNat):=by
    refine Cf (by decide) ?_;rw [Int.compare_eq_lt] at h1;simp only [Bool.false_eq_true,if_false] at h1;omega
   refine ⟨Ju m i,?_,cutI_one h2,h3⟩;have h4:Ju m i < 2 ^ 53:=h3;unfold floatToIntVal FloatKind.decode;rw [hx,Fh];have e1:IntKind.i64.min=-9223372036854775808:=by decide
   have e2:IntKind.i64.max=9223372036854775807:=by decide
   exact P9 ⟨by rw [e1];simp only [Bool.false_eq_true,if_false];omega,by rw [e2];simp only [Bool.false_eq_true,if_false];omega⟩
theorem Ln (t:Nat):Ft ((t % 2) * 2 ^ 63+0x7ff0000000000000+1+(t / 2) % (2 ^ 52 - 1))=true:=by
 have hu:(t / 2) % (2 ^ 52 - 1) < 2 ^ 52 - 1:=Nat.mod_lt _ (by decide);generalize (t / 2) % (2 ^ 52 - 1)=u at hu;have hr:((t % 2) * 2 ^ 63+0x7ff0000000000000+1+u) % 2 ^ 63=0x7ff0000000000000+1+u:=by omega
 have e:∃ s f,FloatKind.f64.format.read ((t % 2) * 2 ^ 63+0x7ff0000000000000+1+u)=.nan s f:=by
  unfold Format.read;have w:FloatKind.f64.format.signWeight=2 ^ 63:=by decide
  have b:FloatKind.f64.format.binade=2 ^ 52:=by decide
  have i:FloatKind.f64.format.infRung=0x7ff0000000000000:=by decide
  simp only [w,b,i,hr];rw [Q9 (by omega),Q9 (by omega),Q9 (by omega)];exact ⟨_,_,J⟩
 obtain ⟨s,f,e⟩:=e;unfold Ft Format.order;rw [e];rfl
theorem Ub {P:Program} (op:BinOp) (ho:op=.add\/op=.sub\/op=.mul\/op=.quo) (t:TypeId) (x y:Nat) (w:W) (h:floatBits op .f64 x y=O):
  ∃ r,(binOp op t (Z V x) (Z V y)).run P w=.ok (Z V r) w.drew/\Ft r=true:=by
 refine ⟨_,?_,Ln (w.tape w.drawn (.nanBits .f64 x y))⟩;have key:∀ q:Question,q.forced=false->(do let r<-choose q;pure (Z V r):Sem Value).run P w=.ok (Z V (q.cut (w.tape w.drawn q))) w.drew:=by
  intro q hq;simp only [Sem.run_bind,run_choose_drew,hq,Bool.false_eq_true,if_false,Result.andThen_ok,Sem.run_pure]
 rcases ho with rfl|rfl|rfl|rfl
 all_goals
  simp only [floatBits] at h;unfold binOp Op.floatArith;simp only [h];rw [Q9 (by simp)];exact key (.nanBits .f64 x y) J
end
section
attribute [local go_sem] Zi
def Bh (w:W) (e:Ending) (w':W):Prop:=∃ y n,e=R9 (Z V y)/\w'=w.drewN n
def FixF (z:Nat) (w:W) (e:Ending) (w':W):Prop:=∃ y n,e=R9 (Z V y)/\Zq y=z/\w'=w.drewN n
def AnyI (k:IntKind) (w:W) (e:Ending) (w':W):Prop:=∃ n:Int,e=R9 (.int k n)/\w'=w
def Ib:Nat:=9221120237041090560
theorem Dl {r:Nat} (h:Ft r=true):Zq r=Ib:=P9 h
def Pt (op:BinOp) (x y:Nat):Nat:=match floatBits op .f64 x y with|some r=>Zq r|none=>Ib
def Cm (b:Bool):Nat:=if b=true then 4607182418800017408 else 0
theorem fix_yes (b:Bool):Zq (Cm b)=Cm b:=by cases b <;> decide+kernel
theorem add_c (x y:Nat) (w:W):Calls N 195 #[Z V x,Z V y] w (FixF (Pt .add x y) w):=by
 cases hb:floatBits .add .f64 x y with
 |some r=>
  have he:Pt .add x y=Zq r:=by unfold Pt;rw [hb]
  have hr:=run_float_arith (P:=N) w .add 51 .f64 x y r hb;rw [he];clear hb he;go_enter func195,ntmps195;go_wp2;go_ret;exact ⟨r,0,J,J,J⟩
 |none=>
  have he:Pt .add x y=Ib:=by unfold Pt;rw [hb]
  obtain ⟨r,hr,hn⟩:=Ub (P:=N) .add (by simp) 51 x y w hb;have HN:=Zh_ hn;rw [he];clear hb he hn;go_enter func195,ntmps195;go_wp2;go_ret;exact ⟨r,1,J,Dl HN.out,J⟩
theorem sub_c (x y:Nat) (w:W):Calls N 196 #[Z V x,Z V y] w (FixF (Pt .sub x y) w):=by
 cases hb:floatBits .sub .f64 x y with
 |some r=>
  have he:Pt .sub x y=Zq r:=by unfold Pt;rw [hb]
  have hr:=run_float_arith (P:=N) w .sub 51 .f64 x y r hb;rw [he];clear hb he;go_enter func196,ntmps196;go_wp2;go_ret;exact ⟨r,0,J,J,J⟩
 |none=>
  have he:Pt .sub x y=Ib:=by unfold Pt;rw [hb]
  obtain ⟨r,hr,hn⟩:=Ub (P:=N) .sub (by simp) 51 x y w hb;have HN:=Zh_ hn;rw [he];clear hb he hn;go_enter func196,ntmps196;go_wp2;go_ret;exact ⟨r,1,J,Dl HN.out,J⟩
theorem mul_c (x y:Nat) (w:W):Calls N 197 #[Z V x,Z V y] w (FixF (Pt .mul x y) w):=by
 cases hb:floatBits .mul .f64 x y with
 |some r=>
  have he:Pt .mul x y=Zq r:=by unfold Pt;rw [hb]
  have hr:=run_float_arith (P:=N) w .mul 51 .f64 x y r hb;rw [he];clear hb he;go_enter func197,ntmps197;go_wp2;go_ret;exact ⟨r,0,J,J,J⟩
 |none=>
  have he:Pt .mul x y=Ib:=by unfold Pt;rw [hb]
  obtain ⟨r,hr,hn⟩:=Ub (P:=N) .mul (by simp) 51 x y w hb;have HN:=Zh_ hn;rw [he];clear hb he hn;go_enter func197,ntmps197;go_wp2;go_ret;exact ⟨r,1,J,Dl HN.out,J⟩
theorem quo_c (x y:Nat) (w:W):Calls N 198 #[Z V x,Z V y] w (FixF (Pt .quo x y) w):=by
 cases hb:floatBits .quo .f64 x y with
 |some r=>
  have he:Pt .quo x y=Zq r:=by unfold Pt;rw [hb]
  have hr:=run_float_arith (P:=N) w .quo 51 .f64 x y r hb;rw [he];clear hb he;go_enter func198,ntmps198;go_wp2;go_ret;exact ⟨r,0,J,J,J⟩
 |none=>
  have he:Pt .quo x y=Ib:=by unfold Pt;rw [hb]
  obtain ⟨r,hr,hn⟩:=Ub (P:=N) .quo (by simp) 51 x y w hb;have HN:=Zh_ hn;rw [he];clear hb he hn;go_enter func198,ntmps198;go_wp2;go_ret;exact ⟨r,1,J,Dl HN.out,J⟩
theorem Du (b:Bool) (w:W):Calls N 191 #[.bool b] w λ e w'=>e=R9 (Z V (Cm b))/\w'=w:=by
 cases b
 all_goals
  go_enter func191,ntmps191;go_wp2;go_ret;exact ⟨J,J⟩
theorem true_c (x:Nat) (w:W):Calls N 163 #[Z V x] w λ e w'=>e=R9 (.bool (!Ft x&&(FloatKind.f64.format.order x 0 !=I .eq)))/\w'=w:=by
 unfold Ft;cases h1:(FloatKind.f64.format.order x x==I .eq)
 ·have h2:(FloatKind.f64.format.order x x !=I .eq)=true:=by simp [bne,h1]
  rw [h2];go_enter func163,ntmps163;go_wp2;go_ret;exact ⟨J,J⟩
 ·have h2:(FloatKind.f64.format.order x x !=I .eq)=false:=by simp [bne,h1]
  rw [h2];go_enter func163,ntmps163;go_wp2;go_ret;exact ⟨by simp,rfl⟩
theorem less_c (x y:Nat) (w:W):Calls N 202 #[Z V x,Z V y] w (FixF (Cm (FloatKind.f64.format.order x y==I .lt)) w):=by
 go_enter func202,ntmps202;go_wp2_with fail;refine (Du _ _).mono ?_;rintro e w1 ⟨rfl,rfl⟩;go_wp2;go_ret;exact ⟨_,0,J,fix_yes _,J⟩
theorem atmost_a (x y:Nat) (w:W):Calls N 203 #[Z V x,Z V y] w (Bh w):=by
 go_enter func203,ntmps203;go_wp2_with fail;refine (Du _ _).mono ?_;rintro e w1 ⟨rfl,rfl⟩;go_wp2;go_ret;exact ⟨_,0,J,J⟩
theorem equal_a (x y:Nat) (w:W):Calls N 204 #[Z V x,Z V y] w (Bh w):=by
 go_enter func204,ntmps204;go_wp2_with fail;refine (Du _ _).mono ?_;rintro e w1 ⟨rfl,rfl⟩;go_wp2;go_ret;exact ⟨_,0,J,J⟩
theorem isnan_a (x:Nat) (w:W):Calls N 192 #[Z V x] w (Bh w):=by
 go_enter func192,ntmps192;go_wp2_with fail;refine (Du _ _).mono ?_;rintro e w1 ⟨rfl,rfl⟩;go_wp2;go_ret;exact ⟨_,0,J,J⟩
theorem not_a (x:Nat) (w:W):Calls N 190 #[Z V x] w (Bh w):=by
 go_enter func190,ntmps190;go_wp2_with fail;refine (true_c _ _).mono ?_;rintro e w1 ⟨rfl,rfl⟩;generalize (!Ft x&&(FloatKind.f64.format.order x 0 !=I .eq))=b;cases b
 all_goals
  go_wp2_with fail;refine (Du _ _).mono ?_;rintro e w1 ⟨rfl,rfl⟩;go_wp2;go_ret;exact ⟨_,0,J,J⟩
theorem neg_a (x:Nat) (w:W):Calls N 189 #[Z V x] w (Bh w):=by
 have hneg:∀ w:W,(Op.unary .neg (Z V x)).run N w=.ok (Z V (Op.negFloat .f64 x)) w:=λ _=>J;go_enter func189,ntmps189;go_wp2;go_ret;exact ⟨_,0,J,J⟩
theorem sign_a (x:Nat) (w:W):Calls N 193 #[Z V x] w (Bh w):=by
 cases h1:(FloatKind.f64.format.order x 0==I .gt)
 ·cases h2:(FloatKind.f64.format.order x 0==I .lt)
  all_goals
   go_enter func193,ntmps193;go_wp2;go_ret;exact ⟨_,0,J,J⟩
 ·go_enter func193,ntmps193;go_wp2;go_ret;exact ⟨_,0,J,J⟩
theorem Kn (w:W):Calls N 208 #[] w λ e w'=>e=R9 (Z V 9221120237041090561)/\w'=w:=by
 have h1:=Tw 9221120237041090561 w;rw [show (9221120237041090561:Int).toNat=9221120237041090561 from J] at h1;go_enter func208,ntmps208;go_wp2;go_ret;exact ⟨J,J⟩
theorem Qe (x y:Nat) (w:W):Calls N 131 #[Z V x,Z V y] w λ e w'=>e=R9 (.bool ((Zq x:Int)==(Zq y:Int)))/\w'=w:=by
 go_enter func131,ntmps131;go_wp2_with fail;refine (Fe _ _).mono ?_;rintro e w1 ⟨rfl,rfl⟩;go_wp2_with fail;refine (Fe _ _).mono ?_;rintro e w1 ⟨rfl,rfl⟩;go_wp2;go_ret;exact ⟨J,J⟩
theorem hash_a (x:Nat) (w:W):Calls N 194 #[Z V x] w (Bh w):=by
 go_enter func194,ntmps194;go_wp2_with fail;refine (Fe _ _).mono ?_;rintro e w1 ⟨rfl,rfl⟩;go_wp2;go_ret;exact ⟨_,0,J,J⟩
theorem key_a (x:Nat) (w:W):Calls N 209 #[Z V x] w (AnyI .u64 w):=by
 go_enter func209,ntmps209;go_wp2_with fail;refine (Fe _ _).mono ?_;rintro e w1 ⟨rfl,rfl⟩;go_wp2
 all_goals
  go_ret;exact ⟨_,J,J⟩
theorem H6 (x y:Nat) (w:W):Calls N 207 #[Z V x,Z V y] w (AnyI .i64 w):=by
 go_enter func207,ntmps207;go_wp2_with fail;refine (key_a _ _).mono ?_;rintro e w1 ⟨n1,rfl,rfl⟩;go_wp2_with fail;refine (key_a _ _).mono ?_;rintro e w1 ⟨n2,rfl,rfl⟩;go_wp2
 all_goals
  go_ret;exact ⟨_,J,J⟩
theorem ex150:Extern.find Tryz.f150=I (Extern.MathFloor.toIntegral "math.archFloor" .down):=by kernel_rfl
theorem ex187:Extern.find Tryz.f187=I (Extern.MathFloor.toIntegral "math.archTrunc" .zero):=by kernel_rfl
theorem ex152:Extern.find Tryz.f152=I Extern.MathSqrt.sqrt:=by kernel_rfl
theorem Fk {P:Program} (nm:String) (way:Ieee.Toward) (x:Nat) (w:W):∃ y n,(Extern.MathFloor.toIntegral nm way #[Z V x]).run P w=.ok (Z V y) (w.drewN n):=by
 have key:Extern.MathFloor.toIntegral nm way #[Z V x]=(match FloatKind.f64.decode x with
  |.nan s t=>if FloatKind.f64.format.quiet t=t then pure (Z V x) else do
   let kept<-choose (.extern "math.Floor,Ceil,Trunc,RoundToEven.signallingNaN kept" 2)
   pure (Z V (if kept==1 then x else FloatKind.f64.encode (.nan s (FloatKind.f64.format.quiet t))))
  |d=>pure (Z V (FloatKind.f64.encode (d.integral way)))):=J
 rw [key];split
 ·split
  ·exact ⟨x,0,J⟩
  ·simp only [Sem.run_bind,run_choose_drew,Question.forced];exact ⟨_,1,J⟩
 ·exact ⟨_,0,J⟩
theorem run_sqrt {P:Program} (x:Nat) (w:W):∃ y n,(Extern.MathSqrt.sqrt #[Z V x]).run P w=.ok (Z V y) (w.drewN n):=by
 have key:Extern.MathSqrt.sqrt #[Z V x]=(match FloatKind.f64.format.sqrt x with
  |some r=>pure (Z V r)
  |none=>do pure (Z V (<-choose (.nanBits .f64 x x)))):=J
 rw [key];split
 ·exact ⟨_,0,J⟩
 ·simp only [Sem.run_bind,run_choose_drew,Question.forced];exact ⟨_,1,J⟩
theorem Wb (x:Nat) (w:W):Calls N 182 #[Z V x] w (Bh w):=by
 obtain ⟨y,n,hy⟩:=Fk (P:=N) "math.archTrunc" .zero x w;have hr:(callFunc 187 #[Z V x]).run N w=.ok (.value (Z V y)) (w.drewN n):=by
  rw [run_callFunc_extern func187 (by kernel_rfl) (by kernel_rfl) (by kernel_rfl) ex187];simp only [hy,Result.andThen_ok]
 clear hy;go_enter func182,ntmps182;go_wp2;go_ret;exact ⟨_,n,J,J⟩
theorem floor_a (x:Nat) (w:W):Calls N 121 #[Z V x] w (Bh w):=by
 obtain ⟨y,n,hy⟩:=Fk (P:=N) "math.archFloor" .down x w;have hr:(callFunc 150 #[Z V x]).run N w=.ok (.value (Z V y)) (w.drewN n):=by
  rw [run_callFunc_extern func150 (by kernel_rfl) (by kernel_rfl) (by kernel_rfl) ex150];simp only [hy,Result.andThen_ok]
 clear hy;go_enter func121,ntmps121;go_wp2;go_ret;exact ⟨_,n,J,J⟩
theorem sqrt_a (x:Nat) (w:W):Calls N 122 #[Z V x] w (Bh w):=by
 obtain ⟨y,n,hy⟩:=run_sqrt (P:=N) x w;have hr:(callFunc 152 #[Z V x]).run N w=.ok (.value (Z V y)) (w.drewN n):=by
  rw [run_callFunc_extern func152 (by kernel_rfl) (by kernel_rfl) (by kernel_rfl) ex152];simp only [hy,Result.andThen_ok]
 clear hy;go_enter func122,ntmps122;go_wp2;go_ret;exact ⟨_,n,J,J⟩
end
section
attribute [local go_sem] Zi
theorem abs_a (x:Nat) (w:W):Calls N 181 #[Z V x] w (Bh w):=by
 have hb:=Sf x w;have hf:=λ n=>Tw n w;go_enter func181,ntmps181;go_wp2;go_ret;exact ⟨_,0,J,J⟩
theorem same2_a (x y:Nat) (w:W):Calls N 205 #[Z V x,Z V y] w (Bh w):=by
 go_enter func205,ntmps205;go_wp2_with fail;refine (Qe _ _ _).mono ?_;rintro e w1 ⟨rfl,rfl⟩;go_wp2_with fail;refine (Du _ _).mono ?_;rintro e w1 ⟨rfl,rfl⟩;go_wp2;go_ret;exact ⟨_,0,J,J⟩
theorem ahead2_a (x y:Nat) (w:W):Calls N 206 #[Z V x,Z V y] w (Bh w):=by
 go_enter func206,ntmps206;go_wp2_with fail;refine (H6 _ _ _).mono ?_;rintro e w1 ⟨n,rfl,rfl⟩;go_wp2_with fail;refine (Du _ _).mono ?_;rintro e w1 ⟨rfl,rfl⟩;go_wp2;go_ret;exact ⟨_,0,J,J⟩
theorem least_a (x y:Nat) (w:W):Calls N 200 #[Z V x,Z V y] w (Bh w):=by
 cases hx:(FloatKind.f64.format.order x x !=I .eq)
 ·cases hy:(FloatKind.f64.format.order y y !=I .eq)
  ·go_enter func200,ntmps200;go_wp2_with fail;refine (H6 _ _ _).mono ?_;rintro e w1 ⟨n,rfl,rfl⟩;go_wp2
   all_goals
    go_ret;exact ⟨_,0,J,J⟩
  ·go_enter func200,ntmps200;go_wp2_with fail;refine (Kn _).mono ?_;rintro e w1 ⟨rfl,rfl⟩;go_wp2;go_ret;exact ⟨_,0,J,J⟩
 ·go_enter func200,ntmps200;go_wp2_with fail;refine (Kn _).mono ?_;rintro e w1 ⟨rfl,rfl⟩;go_wp2;go_ret;exact ⟨_,0,J,J⟩
theorem Aa (x y:Nat) (w:W):Calls N 201 #[Z V x,Z V y] w (Bh w):=by
 cases hx:(FloatKind.f64.format.order x x !=I .eq)
 ·cases hy:(FloatKind.f64.format.order y y !=I .eq)
  ·go_enter func201,ntmps201;go_wp2_with fail;refine (H6 _ _ _).mono ?_;rintro e w1 ⟨n,rfl,rfl⟩;go_wp2
   all_goals
    go_ret;exact ⟨_,0,J,J⟩
  ·go_enter func201,ntmps201;go_wp2_with fail;refine (Kn _).mono ?_;rintro e w1 ⟨rfl,rfl⟩;go_wp2;go_ret;exact ⟨_,0,J,J⟩
 ·go_enter func201,ntmps201;go_wp2_with fail;refine (Kn _).mono ?_;rintro e w1 ⟨rfl,rfl⟩;go_wp2;go_ret;exact ⟨_,0,J,J⟩
end
section
attribute [local go_sem] Zi
theorem mod_a (x y:Nat) (w:W):Calls N 199 #[Z V x,Z V y] w (Bh w):=by
 cases hx0:FloatKind.f64.format.order x 0 with
 |none=>
  go_enter func199,ntmps199;go_wp2_with fail;refine (Kn _).mono ?_;rintro e w9 ⟨rfl,hw9⟩;have hw9':=hw9.symm;subst hw9';go_wp2;go_ret
  first|exact ⟨_,0,J,J⟩|exact ⟨_,_,J,J⟩|exact ⟨_,_,J,by simp only [World.drewN_drewN];rfl⟩
 |some o=>
  by_cases ho:o=.lt
  ·subst ho;go_enter func199,ntmps199;go_wp2_with fail;refine (Kn _).mono ?_;rintro e w9 ⟨rfl,hw9⟩;have hw9':=hw9.symm;subst hw9';go_wp2;go_ret
   first|exact ⟨_,0,J,J⟩|exact ⟨_,_,J,J⟩|exact ⟨_,_,J,by simp only [World.drewN_drewN];rfl⟩
  ·cases hx1:(FloatKind.f64.format.order x 4845873199050653696==I .lt)
   ·cases o
    ·exact absurd J ho
    all_goals
     go_enter func199,ntmps199;go_wp2_with fail;refine (Kn _).mono ?_;rintro e w9 ⟨rfl,hw9⟩;have hw9':=hw9.symm;subst hw9';go_wp2;go_ret
     first|exact ⟨_,0,J,J⟩|exact ⟨_,_,J,J⟩|exact ⟨_,_,J,by simp only [World.drewN_drewN];rfl⟩
   ·cases hy0:FloatKind.f64.format.order y 4607182418800017408 with
    |none=>
     cases o
     ·exact absurd J ho
     all_goals
      go_enter func199,ntmps199;go_wp2_with fail;refine (Kn _).mono ?_;rintro e w9 ⟨rfl,hw9⟩;have hw9':=hw9.symm;subst hw9';go_wp2;go_ret
      first|exact ⟨_,0,J,J⟩|exact ⟨_,_,J,J⟩|exact ⟨_,_,J,by simp only [World.drewN_drewN];rfl⟩
    |some p=>
     by_cases hp:p=.lt
     ·subst hp;cases o
      ·exact absurd J ho
      all_goals
       go_enter func199,ntmps199;go_wp2_with fail;refine (Kn _).mono ?_;rintro e w9 ⟨rfl,hw9⟩;have hw9':=hw9.symm;subst hw9';go_wp2;go_ret
       first|exact ⟨_,0,J,J⟩|exact ⟨_,_,J,J⟩|exact ⟨_,_,J,by simp only [World.drewN_drewN];rfl⟩
     ·cases hy1:(FloatKind.f64.format.order y 4845873199050653696==I .lt)
      ·cases o
       ·exact absurd J ho
       all_goals
        cases p
        ·exact absurd J hp
        all_goals
         go_enter func199,ntmps199;go_wp2_with fail;refine (Kn _).mono ?_;rintro e w9 ⟨rfl,hw9⟩;have hw9':=hw9.symm;subst hw9';go_wp2;go_ret
         first|exact ⟨_,0,J,J⟩|exact ⟨_,_,J,J⟩|exact ⟨_,_,J,by simp only [World.drewN_drewN];rfl⟩
      ·have e1:FloatKind.f64.format.order x 4845873199050653696=I .lt:=by simpa using hx1
       have e2:FloatKind.f64.format.order y 4845873199050653696=I .lt:=by simpa using hy1
       obtain ⟨s,m,i,-,-,hn,hlt⟩:=Kh (j:=1) (by decide) (by decide) read53 (by rw [hx0];simpa using ho) (by rw [hx0];simp) e1;obtain ⟨n,hn2,hn1,hnlt⟩:=T3 (by rw [hy0];simpa using hp) (by rw [hy0];simp) e2;generalize Ju m i=q at hn hlt;have r1:=λ w=>run_convert_float_int (P:=N) w 51 3 .f64 .i64 x q (by rw [underlying51];rfl) underlying3 hn;have r2:=λ w=>run_convert_float_int (P:=N) w 51 3 .f64 .i64 y n (by rw [underlying51];rfl) underlying3 hn2;have hq:q < 9007199254740992:=hlt;have hnn:n < 9007199254740992:=hnlt;have hz:((n:Int)==0)=false:=by simp;omega
       clear hn hn2 hlt hnlt e1 e2;cases o
       ·exact absurd J ho
       all_goals
        cases p
        ·exact absurd J hp
        all_goals
         go_enter func199,ntmps199;go_wp2_with fail;refine (Wb _ _).mono ?_;rintro e w1 ⟨t1,n1,rfl,rfl⟩;cases h1:(FloatKind.f64.format.order t1 x !=I .eq)
         ·go_wp2_with fail;refine (Wb _ _).mono ?_;rintro e w1 ⟨t2,n2,rfl,rfl⟩;cases h2:(FloatKind.f64.format.order t2 y !=I .eq)
          ·go_wp2;go_ret
           first|exact ⟨_,0,J,J⟩|exact ⟨_,_,J,J⟩|exact ⟨_,_,J,by simp only [World.drewN_drewN];rfl⟩
          ·go_wp2_with fail;refine (Kn _).mono ?_;rintro e w9 ⟨rfl,hw9⟩;have hw9':=hw9.symm;subst hw9';go_wp2;go_ret
           first|exact ⟨_,0,J,J⟩|exact ⟨_,_,J,J⟩|exact ⟨_,_,J,by simp only [World.drewN_drewN];rfl⟩
         ·go_wp2_with fail;refine (Kn _).mono ?_;rintro e w9 ⟨rfl,hw9⟩;have hw9':=hw9.symm;subst hw9';go_wp2;go_ret
          first|exact ⟨_,0,J,J⟩|exact ⟨_,_,J,J⟩|exact ⟨_,_,J,by simp only [World.drewN_drewN];rfl⟩
end
section
attribute [local go_sem] Zi
def T6 (x:Nat):Nat:=FloatKind.f64.encode ((FloatKind.f64.decode x).integral .zero)
theorem Ef {P:Program} (x:Nat) (w:W) (h:FloatKind.f64.format.order x 0≠O):(Extern.MathFloor.toIntegral "math.archTrunc" .zero #[Z V x]).run P w=.ok (Z V (T6 x)) w:=by
 have key:Extern.MathFloor.toIntegral "math.archTrunc" .zero #[Z V x]=(match FloatKind.f64.decode x with
  |.nan s t=>if FloatKind.f64.format.quiet t=t then pure (Z V x) else do
   let kept<-choose (.extern "math.Floor,Ceil,Trunc,RoundToEven.signallingNaN kept" 2)
   pure (Z V (if kept==1 then x else FloatKind.f64.encode (.nan s (FloatKind.f64.format.quiet t))))
  |d=>pure (Z V (FloatKind.f64.encode (d.integral .zero)))):=J
 rw [key];have hn:∀ s t,FloatKind.f64.decode x≠.nan s t:=by
  intro s t he;apply h;have he':FloatKind.f64.format.read x=.nan s t:=he;unfold Ieee.Format.order;rw [he'];rfl
 unfold T6;split
 ·rename_i s t he;exact absurd he (hn s t)
 ·rfl
theorem trunc_c (x:Nat) (w:W) (h:FloatKind.f64.format.order x 0≠O):Calls N 182 #[Z V x] w λ e w'=>e=R9 (Z V (T6 x))/\w'=w:=by
 have hr:(callFunc 187 #[Z V x]).run N w=.ok (.value (Z V (T6 x))) w:=by
  rw [run_callFunc_extern func187 (by kernel_rfl) (by kernel_rfl) (by kernel_rfl) ex187];simp only [Ef x w h,Result.andThen_ok]
 clear h;go_enter func182,ntmps182;go_wp2;go_ret;exact ⟨J,J⟩
def Vf (x:Nat) (n:Int):Option Int:=
 if FloatKind.f64.format.order x 0=O\/FloatKind.f64.format.order x 0=I .lt\/FloatKind.f64.format.order x 4890909195324358656≠I .lt then O
 else if FloatKind.f64.format.order (T6 x) x≠I .eq then O
 else match floatToIntVal .f64 x .i64 with
  |none=>O
  |some k=>if n<=k then O else I k
theorem T9 {x:Nat} {n k:Int} (h:Vf x n=I k):0<=k/\k < n:=by
 unfold Vf at h;split at h
 ·simp at h
 ·rename_i hc;split at h
  ·simp at h
  ·obtain ⟨s,m,i,_,_,hn,_⟩:=Kh (j:=11) (by decide) (by decide) read63 (λ e=>hc (.inr (.inl e))) (λ e=>hc (.inl e)) (Classical.not_not.mp λ e=>hc (.inr (.inr e)));rw [hn] at h;simp only at h;split at h
   ·simp at h
   ·simp at h;omega
theorem idx_c (x:Nat) (n:Int) (w:W):Calls N 184 #[Z V x,U Y n] w λ e w'=>e=R9 (.tuple #[U Y ((Vf x n).getD 0),U Y (if (Vf x n).isSome then 0 else 10)])/\w'=w:=by
 unfold Vf;cases hx0:FloatKind.f64.format.order x 0 with
 |none=>
  rw [P9 (.inl rfl)];go_enter func184,ntmps184;go_wp2;go_ret2;exact ⟨J,J⟩
 |some o=>
  by_cases ho:o=.lt
  ·subst ho;rw [P9 (.inr (.inl rfl))];go_enter func184,ntmps184;go_wp2;go_ret2;exact ⟨J,J⟩
  ·cases hx1:(FloatKind.f64.format.order x 4890909195324358656==I .lt)
   ·have e1:FloatKind.f64.format.order x 4890909195324358656≠I .lt:=by simpa using hx1
    rw [P9 (.inr (.inr e1))];clear e1;cases o
    ·exact absurd J ho
    all_goals
     go_enter func184,ntmps184;go_wp2;go_ret2;exact ⟨J,J⟩
   ·have e1:FloatKind.f64.format.order x 4890909195324358656=I .lt:=by simpa using hx1
    have hc:¬ ((I o:Option Ordering)=O\/(I o:Option Ordering)=I .lt\/FloatKind.f64.format.order x 4890909195324358656≠I .lt):=by simp [ho,e1]
    rw [Q9 hc];obtain ⟨s,m,i,-,-,hn,hlt⟩:=Kh (j:=11) (by decide) (by decide) read63 (by rw [hx0];simpa using ho) (by rw [hx0];simp) e1;have HT:=λ w=>trunc_c x w (by rw [hx0];simp);rw [hn];generalize Ju m i=q at hn hlt;have r1:=λ w=>run_convert_float_int (P:=N) w 51 3 .f64 .i64 x q (by rw [underlying51];rfl) underlying3 hn;clear hn e1 hc hlt;cases h1:(FloatKind.f64.format.order (T6 x) x !=I .eq)
    ·have e1:¬ FloatKind.f64.format.order (T6 x) x≠I .eq:=by simpa using h1
     rw [Q9 e1];clear e1;cases o
     ·exact absurd J ho
     all_goals
      by_cases hq:n<=(q:Int)
      ·have hd:decide (n<=(q:Int))=true:=decide_eq_true hq;simp only [P9 hq];go_enter func184,ntmps184;go_wp2_with fail;refine (HT _).mono ?_;rintro e w1 ⟨rfl,rfl⟩;go_wp2;go_ret2;exact ⟨J,J⟩
      ·have hd:decide (n<=(q:Int))=false:=D9 hq;simp only [Q9 hq];go_enter func184,ntmps184;go_wp2_with fail;refine (HT _).mono ?_;rintro e w1 ⟨rfl,rfl⟩;go_wp2;go_ret2;exact ⟨J,J⟩
    ·have e1:FloatKind.f64.format.order (T6 x) x≠I .eq:=by simpa using h1
     rw [P9 e1];clear e1;cases o
     ·exact absurd J ho
     all_goals
      go_enter func184,ntmps184;go_wp2_with fail;refine (HT _).mono ?_;rintro e w1 ⟨rfl,rfl⟩;go_wp2;go_ret2;exact ⟨J,J⟩
end
section
attribute [local go_sem] Zi
def Cl (w:W) (e:Ending) (w':W):Prop:=∃ ν,e=R9 (.tuple #[Z V (Zq ν),U Y 0])/\Ze [] w w'
theorem Gd (w:W):Calls N 185 #[] w λ e w'=>∃ tb,e=R9 (L (I ⟨tb,0,O⟩) 9 9)/\w'.heap[tb]? =I (X #[.nilFunc,.func (.func 189) #[] #[],.func (.func 181) #[] #[],.func (.func 121) #[] #[],.func (.func 122) #[] #[],.func (.func 190) #[] #[],.func (.func 192) #[] #[],.func (.func 193) #[] #[],.func (.func 194) #[] #[]] 96 (0,0))/\Ze [] w w':=by
 go_enter func185,ntmps185;go_wp2;go_ret;exact ⟨_,J,Zc _ _,(Zr_ _ _).alloc _⟩
theorem Uk (w:W):Calls N 186 #[] w λ e w'=>∃ tb,e=R9 (L (I ⟨tb,0,O⟩) 13 13)/\w'.heap[tb]? =I (X #[.nilFunc,.func (.func 195) #[] #[],.func (.func 196) #[] #[],.func (.func 197) #[] #[],.func (.func 198) #[] #[],.func (.func 199) #[] #[],.func (.func 200) #[] #[],.func (.func 201) #[] #[],.func (.func 202) #[] #[],.func (.func 203) #[] #[],.func (.func 204) #[] #[],.func (.func 205) #[] #[],.func (.func 206) #[] #[]] 219 (0,0))/\Ze [] w w':=by
 go_enter func186,ntmps186;go_wp2;go_ret;exact ⟨_,J,Zc _ _,(Zr_ _ _).alloc _⟩
theorem one1_c (x:Nat) (w:W):Calls N 179 #[U Y 1,Z V x] w (Cl w):=by
 go_enter func179,ntmps179;go_wp2_with fail;refine (Gd _).mono ?_;rintro e w1 ⟨tb,rfl,K,D1⟩;have c1:=Za (i:=1) K J;clear K;go_wp2_with fail
 go_region_held3 (λ wx=>wx.cell? ⟨tb,1,O⟩=I (.func (.func 189) #[] #[])) (first|exact c1|assumption)
  (first
   |(go_at_call 73;refine (Yq _ _).mono ?_;rintro e w2 ⟨rfl,rfl⟩)
   |(go_at_call 189;refine (neg_a _ _).mono ?_;rintro e w2 ⟨y,n,rfl,rfl⟩))
 all_goals
  go_wp2;go_ret2;exact ⟨_,J,D1.drewN _⟩
theorem one2_c (x:Nat) (w:W):Calls N 179 #[U Y 2,Z V x] w (Cl w):=by
 go_enter func179,ntmps179;go_wp2_with fail;refine (Gd _).mono ?_;rintro e w1 ⟨tb,rfl,K,D1⟩;have c1:=Za (i:=2) K J;clear K;go_wp2_with fail
 go_region_held3 (λ wx=>wx.cell? ⟨tb,2,O⟩=I (.func (.func 181) #[] #[])) (first|exact c1|assumption)
  (first
   |(go_at_call 73;refine (Yq _ _).mono ?_;rintro e w2 ⟨rfl,rfl⟩)
   |(go_at_call 181;refine (abs_a _ _).mono ?_;rintro e w2 ⟨y,n,rfl,rfl⟩))
 all_goals
  go_wp2;go_ret2;exact ⟨_,J,D1.drewN _⟩
theorem one3_c (x:Nat) (w:W):Calls N 179 #[U Y 3,Z V x] w (Cl w):=by
 go_enter func179,ntmps179;go_wp2_with fail;refine (Gd _).mono ?_;rintro e w1 ⟨tb,rfl,K,D1⟩;have c1:=Za (i:=3) K J;clear K;go_wp2_with fail
 go_region_held3 (λ wx=>wx.cell? ⟨tb,3,O⟩=I (.func (.func 121) #[] #[])) (first|exact c1|assumption)
  (first
   |(go_at_call 73;refine (Yq _ _).mono ?_;rintro e w2 ⟨rfl,rfl⟩)
   |(go_at_call 121;refine (floor_a _ _).mono ?_;rintro e w2 ⟨y,n,rfl,rfl⟩))
 all_goals
  go_wp2;go_ret2;exact ⟨_,J,D1.drewN _⟩
theorem one4_c (x:Nat) (w:W):Calls N 179 #[U Y 4,Z V x] w (Cl w):=by
 go_enter func179,ntmps179;go_wp2_with fail;refine (Gd _).mono ?_;rintro e w1 ⟨tb,rfl,K,D1⟩;have c1:=Za (i:=4) K J;clear K;go_wp2_with fail
 go_region_held3 (λ wx=>wx.cell? ⟨tb,4,O⟩=I (.func (.func 122) #[] #[])) (first|exact c1|assumption)
  (first
   |(go_at_call 73;refine (Yq _ _).mono ?_;rintro e w2 ⟨rfl,rfl⟩)
   |(go_at_call 122;refine (sqrt_a _ _).mono ?_;rintro e w2 ⟨y,n,rfl,rfl⟩))
 all_goals
  go_wp2;go_ret2;exact ⟨_,J,D1.drewN _⟩
theorem one5_c (x:Nat) (w:W):Calls N 179 #[U Y 5,Z V x] w (Cl w):=by
 go_enter func179,ntmps179;go_wp2_with fail;refine (Gd _).mono ?_;rintro e w1 ⟨tb,rfl,K,D1⟩;have c1:=Za (i:=5) K J;clear K;go_wp2_with fail
 go_region_held3 (λ wx=>wx.cell? ⟨tb,5,O⟩=I (.func (.func 190) #[] #[])) (first|exact c1|assumption)
  (first
   |(go_at_call 73;refine (Yq _ _).mono ?_;rintro e w2 ⟨rfl,rfl⟩)
   |(go_at_call 190;refine (not_a _ _).mono ?_;rintro e w2 ⟨y,n,rfl,rfl⟩))
 all_goals
  go_wp2;go_ret2;exact ⟨_,J,D1.drewN _⟩
theorem one6_c (x:Nat) (w:W):Calls N 179 #[U Y 6,Z V x] w (Cl w):=by
 go_enter func179,ntmps179;go_wp2_with fail;refine (Gd _).mono ?_;rintro e w1 ⟨tb,rfl,K,D1⟩;have c1:=Za (i:=6) K J;clear K;go_wp2_with fail
 go_region_held3 (λ wx=>wx.cell? ⟨tb,6,O⟩=I (.func (.func 192) #[] #[])) (first|exact c1|assumption)
  (first
   |(go_at_call 73;refine (Yq _ _).mono ?_;rintro e w2 ⟨rfl,rfl⟩)
   |(go_at_call 192;refine (isnan_a _ _).mono ?_;rintro e w2 ⟨y,n,rfl,rfl⟩))
 all_goals
  go_wp2;go_ret2;exact ⟨_,J,D1.drewN _⟩
theorem one7_c (x:Nat) (w:W):Calls N 179 #[U Y 7,Z V x] w (Cl w):=by
 go_enter func179,ntmps179;go_wp2_with fail;refine (Gd _).mono ?_;rintro e w1 ⟨tb,rfl,K,D1⟩;have c1:=Za (i:=7) K J;clear K;go_wp2_with fail
 go_region_held3 (λ wx=>wx.cell? ⟨tb,7,O⟩=I (.func (.func 193) #[] #[])) (first|exact c1|assumption)
  (first
   |(go_at_call 73;refine (Yq _ _).mono ?_;rintro e w2 ⟨rfl,rfl⟩)
   |(go_at_call 193;refine (sign_a _ _).mono ?_;rintro e w2 ⟨y,n,rfl,rfl⟩))
 all_goals
  go_wp2;go_ret2;exact ⟨_,J,D1.drewN _⟩
theorem one8_c (x:Nat) (w:W):Calls N 179 #[U Y 8,Z V x] w (Cl w):=by
 go_enter func179,ntmps179;go_wp2_with fail;refine (Gd _).mono ?_;rintro e w1 ⟨tb,rfl,K,D1⟩;have c1:=Za (i:=8) K J;clear K;go_wp2_with fail
 go_region_held3 (λ wx=>wx.cell? ⟨tb,8,O⟩=I (.func (.func 194) #[] #[])) (first|exact c1|assumption)
  (first
   |(go_at_call 73;refine (Yq _ _).mono ?_;rintro e w2 ⟨rfl,rfl⟩)
   |(go_at_call 194;refine (hash_a _ _).mono ?_;rintro e w2 ⟨y,n,rfl,rfl⟩))
 all_goals
  go_wp2;go_ret2;exact ⟨_,J,D1.drewN _⟩
theorem one_c (k:Int) (h1:1<=k) (h2:k<=8) (x:Nat) (w:W):Calls N 179 #[U Y k,Z V x] w (Cl w):=by
 rcases (show k=1\/k=2\/k=3\/k=4\/k=5\/k=6\/k=7\/k=8 by omega) with rfl|rfl|rfl|rfl|rfl|rfl|rfl|rfl
 ·exact one1_c x w
 ·exact one2_c x w
 ·exact one3_c x w
 ·exact one4_c x w
 ·exact one5_c x w
 ·exact one6_c x w
 ·exact one7_c x w
 ·exact one8_c x w
def J9 (op:Int) (x y v:Nat):Nat:=
 if op=1 then Pt .add x y else if op=2 then Pt .sub x y else if op=3 then Pt .mul x y else if op=4 then Pt .quo x y else if op=8 then Cm (FloatKind.f64.format.order x y==I .lt) else Zq v
def Pf (op:Int) (x y:Nat) (w:W) (e:Ending) (w':W):Prop:=∃ v,e=R9 (.tuple #[Z V (J9 op (Zq x) (Zq y) v),U Y 0])/\Ze [] w w'
end
section
attribute [local go_sem] Zi
structure Xc where
 order:List Int
 last:Int->Option Nat
 qy:Int
def Xc.val (s:Xc) (k:Int):Nat:=(s.last k).getD 0
def Xc.known (s:Xc) (k:Int):Bool:=(s.last k).isSome
def Xc.all (s:Xc):List (Int×Nat):=s.order.map (λ k=>(k,s.val k))
def Xc.put (s:Xc) (k:Int) (x:Nat):Xc:={s with order:=if s.known k then s.order else s.order++[k],last:=Kq s.last k (Zq x)}
def Yj (l:List (Int×Nat)):List Value:=l.flatMap (λ p=>[Value.int .i64 p.1,Z V p.2])
variable {w w':W} {bb mb:Nat} {v:Value} {s:Xc}
structure V3 (w:W) (bb mb:Nat) (v:Value) (s:Xc):Prop where
 hd:w.heap[bb]? =I (X #[.map (I mb),v,.int .i64 s.qy] 200 (0,0))
 map:Vg w mb s.order.length (λ k=>(s.last k).map (Z V))
 row:w.ownsRow 0 3 1 v s.order.length (s.order.map (Value.int .i64))
 ne:bb≠mb
 own:∀ g,v.ownBlock=I g->g≠bb/\g≠mb
 room:(s.order.length:Int)<=s.qy
 qy:s.qy<=32
theorem V3.mod {S:List Nat} (h:V3 w bb mb v s) (m:Ze S w w') (h1:bb∉S) (h2:mb∉S) (h3:∀ g,v.ownBlock=I g->g∉S):V3 w' bb mb v s:=
 ⟨m.at h.hd h1,h.map.mod m h2,Uv h.row m h3,h.ne,h.own,h.room,h.qy⟩
theorem V3.drewN (h:V3 w bb mb v s) (n:Nat):V3 (w.drewN n) bb mb v s:=⟨h.hd,h.map.drewN n,Hs h.row n,h.ne,h.own,h.room,h.qy⟩
theorem J5 (w:W):(zeroValue 51).run N w=.ok (Z V 0) w:=by kernel_rfl
theorem buf_new (n:Int) (h1:1<=n) (h2:n<=32) (w:W):Calls N 84 #[.int .i64 n] w λ e w'=>∃ bb mb v,e=R9 (.tuple #[E (I ⟨bb,0,O⟩),.int .i64 0])/\V3 w' bb mb v ⟨[],λ _=>O,n⟩/\v.ownBlock=O/\w.heap.size<=bb/\w.heap.size<=mb/\Ze [] w w':=by
 have d1:decide (n < 1)=false:=D9 (by omega);have d2:decide (32 < n)=false:=D9 (by omega);have hm:=λ w=>run_makeMap (P:=N) 198 w;go_enter func84,ntmps84;go_wp2;go_ret2;refine ⟨_,_,L O 0 0,J,⟨by rw [show w.heap.size+1=(w.alloc (.map #[] 0)).heap.size by simp];exact Zc _ _,(Vg.made w).alloc _,World.ownsRow_nil _ _ _ _,by simp,by simp [Value.ownBlock],by simp;omega,h2⟩,J,by simp,Nat.le_refl _,((Zr_ _ _).alloc _).alloc _⟩
theorem Ob (h:V3 w bb mb v s) (k:Int) (hk:(Lit.int .i64 k).wf=true):Calls N 174 #[E (I ⟨bb,0,O⟩),.int .i64 k] w λ e w'=>e=R9 (.tuple #[Z V (s.val k),.bool (s.known k)])/\∃ n,w'=w.drewN n:=by
 have r0:w.cell? ⟨bb,0,O⟩=I (.map (I mb)):=Za h.hd J;have hl:=λ n=>(h.map.drewN n).look (t:=198) (e:=51) underlying198 J5 hk;have hl0:=h.map.look (t:=198) (e:=51) underlying198 J5 hk;have e1:(Option.map (Z V) (s.last k)).getD (Z V 0)=Z V (s.val k):=by unfold Xc.val;cases s.last k <;> rfl
 have e2:(Option.map (Z V) (s.last k)).isSome=s.known k:=by unfold Xc.known;cases s.last k <;> rfl
 simp only [e1,e2] at hl hl0;clear e1 e2 h;go_enter func174,ntmps174;go_wp2_with fail;go_wp2;go_ret2;exact ⟨J,0,J⟩
theorem buf_full (h:V3 w bb mb v s) (k:Int) (hk:(Lit.int .i64 k).wf=true) (hkn:s.known k=false) (hf:(s.order.length:Int)=s.qy) (x:Nat):Calls N 176 #[E (I ⟨bb,0,O⟩),.int .i64 k,Z V x] w λ e w'=>e=R9 (.tuple #[.bool false,.int .i64 70])/\∃ n,w'=w.drewN n:=by
 have hl:=λ n=>(h.map.drewN n).look (t:=198) (e:=51) underlying198 J5 hk;have hl0:=h.map.look (t:=198) (e:=51) underlying198 J5 hk;have e1:(Option.map (Z V) (s.last k)).getD (Z V 0)=Z V (s.val k):=by unfold Xc.val;cases s.last k <;> rfl
 have e2:(Option.map (Z V) (s.last k)).isSome=s.known k:=by unfold Xc.known;cases s.last k <;> rfl
 simp only [e1,e2,hkn] at hl hl0;obtain ⟨a,cap,rfl⟩:=Zo h.row;have r0:w.cell? ⟨bb,0,O⟩=I (.map (I mb)):=Za h.hd J;have r1:w.cell? ⟨bb,1,O⟩=I (L a s.order.length cap):=Za h.hd J;have r2:w.cell? ⟨bb,2,O⟩=I (.int .i64 s.qy):=Za h.hd J;have hb:((s.order.length:Int)==s.qy)=true:=by simp [hf]
 clear e1 e2 h hf hkn hl;go_enter func176,ntmps176;go_wp2_with fail;go_quiet (fail);go_wp2;go_ret2;exact ⟨J,_,J⟩
theorem Mp (h:V3 w bb mb v s) (k:Int) (hk:(Lit.int .i64 k).wf=true) (hkn:s.known k=true) (x:Nat):Calls N 176 #[E (I ⟨bb,0,O⟩),.int .i64 k,Z V x] w λ e w'=>e=R9 (.tuple #[.bool false,.int .i64 0])/\V3 w' bb mb v (s.put k x)/\Ze [mb] w w':=by
 have hl:=λ n=>(h.map.drewN n).look (t:=198) (e:=51) underlying198 J5 hk;have hl0:=h.map.look (t:=198) (e:=51) underlying198 J5 hk;have e1:(Option.map (Z V) (s.last k)).getD (Z V 0)=Z V (s.val k):=by unfold Xc.val;cases s.last k <;> rfl
 have e2:(Option.map (Z V) (s.last k)).isSome=s.known k:=by unfold Xc.known;cases s.last k <;> rfl
 simp only [e1,e2,hkn] at hl hl0;obtain ⟨a,cap,rfl⟩:=Zo h.row;have r0:w.cell? ⟨bb,0,O⟩=I (.map (I mb)):=Za h.hd J;have HH:=Zh_ h;clear e1 e2 h hl;have HKN:=Zh_ hkn;clear hkn;go_enter func176,ntmps176;go_wp2_with fail;have hm:Vg w.drew mb s.order.length (λ k=>(s.last k).map (Z V)):=HH.out.map;obtain ⟨w2,hup,F2,D2⟩:=hm.set (t:=198) (e:=51) underlying198 (by have h1:=HH.out.room;have h2:=HH.out.qy;unfold maxLen;omega) hk (Z V (Zq x));have HF:=Zh_ F2;have HD:=Zh_ D2;clear F2 D2 hm
 go_region_with (first|(go_at_call 73;refine (Yq _ _).mono ?_;rintro e w2 ⟨rfl,rfl⟩))
 all_goals
  go_wp2;go_ret2;have H:=HH.out;have DD:Ze [mb] w w2:=((Zr_ [mb] w).drew).trans HD.out;have F:=HF.out;rw [P9 (by simpa [Xc.known] using HKN.out)] at F;refine ⟨J,?_,DD⟩;have eo:(s.put k x).order=s.order:=by unfold Xc.put;rw [HKN.out];rfl
  have em:(s.put k x).qy=s.qy:=J;refine ⟨?_,?_,?_,H.ne,H.own,by rw [eo,em];exact H.room,H.qy⟩
  ·rw [em];exact DD.at H.hd (by simp [H.ne])
  ·rw [eo];have e3:(λ k'=>Option.map (Z V) ((s.put k x).last k'))=Kq (λ k=>Option.map (Z V) (s.last k)) k (Z V (Zq x)):=by
    funext i;unfold Xc.put Kq;by_cases hi:i=k <;> simp [hi]
   rw [e3];exact F
  ·rw [eo];exact Uv H.row DD (λ g hg=>by simp [(H.own g hg).2])
theorem Ra (h:V3 w bb mb v s) (k:Int) (hk:(Lit.int .i64 k).wf=true) (hkn:s.known k=false) (hf:(s.order.length:Int) < s.qy) (x:Nat):Calls N 176 #[E (I ⟨bb,0,O⟩),.int .i64 k,Z V x] w λ e w'=>e=R9 (.tuple #[.bool true,.int .i64 0])/\∃ v',V3 w' bb mb v' (s.put k x)/\Jn w v v'/\Ze (bb :: mb :: v.ownBlock.toList) w w':=by
 have hl:=λ n=>(h.map.drewN n).look (t:=198) (e:=51) underlying198 J5 hk;have hl0:=h.map.look (t:=198) (e:=51) underlying198 J5 hk;have e1:(Option.map (Z V) (s.last k)).getD (Z V 0)=Z V (s.val k):=by unfold Xc.val;cases s.last k <;> rfl
 have e2:(Option.map (Z V) (s.last k)).isSome=s.known k:=by unfold Xc.known;cases s.last k <;> rfl
 simp only [e1,e2,hkn] at hl hl0;obtain ⟨a,cap,rfl⟩:=Zo h.row;have r0:w.cell? ⟨bb,0,O⟩=I (.map (I mb)):=Za h.hd J;have r1:w.cell? ⟨bb,1,O⟩=I (L a s.order.length cap):=Za h.hd J;have r2:w.cell? ⟨bb,2,O⟩=I (.int .i64 s.qy):=Za h.hd J;have hb:((s.order.length:Int)==s.qy)=false:=by simp;omega
 have hh:=h;clear e1 e2 hl h;go_enter func176,ntmps176;go_wp2_with fail;go_quiet (fail);have h1:=hh.drewN nq;have HKN:=Zh_ hkn;have D1:Ze (bb :: mb :: (L a s.order.length cap).ownBlock.toList) w (w.drewN nq):=(Zr_ _ _).drewN nq;have z1:Hid (w.heap.size<=(w.drewN nq).heap.size):=Zh_ (Nat.le_refl _);clear r0 r1 r2 hl0 hh hkn;generalize w.drewN nq=w1 at *
 have r1:w1.cell? ⟨bb,1,O⟩=I (L a s.order.length cap):=Za h1.hd J;obtain ⟨i0,hi0,hz0,hz1,hz2⟩:=info_parts W1;go_wp2_with (at_builtin;refine wpList_append_own_at _ J _ _ 34 J 0 3 i0 (.int .i64 0) 1 8 underlying34 hi0 hz0 hz1 hz2 J (by decide) _ _ _ J (h1.row.alloc _) ⟨w1.heap.size,0,O⟩ 1 1 [Value.int .i64 k] J J ?CA ?CB ?CC ?CD ?CE ?_)
 case CA=>exact cell_one_new _ _ _
 case CB=>intro u hu;simp at hu;subst hu;rfl
 case CC=>have e1:=h1.room;have e2:=h1.qy;unfold maxLen;omega
 case CD=>have e1:=h1.room;have e2:=h1.qy;omega
 case CE=>exact Nat.zero_le _
 intro u' w5 ho5 hg5 _ hat;obtain ⟨g5,cap5,rfl,-⟩:=Ya ho5 (by omega);have hltb:=B9 h1.hd;have hltm:=h1.map.lt;have D5:Ze (bb :: mb :: (L a s.order.length cap).ownBlock.toList) w w5:=(D1.alloc _).grown hg5 (λ g hg=>.inl (by simp [hg]));have E5:Ze (L a s.order.length cap).ownBlock.toList w1 w5:=((Zr_ _ _).alloc _).grown hg5 (λ g hg=>.inl (by simp [hg]));have hown:=h1.own;have K5:w5.heap[bb]? =I (X #[.map (I mb),L a s.order.length cap,.int .i64 s.qy] 200 (0,0)):=E5.at h1.hd (λ hg=>(hown bb (by simpa [eq_comm] using hg)).1 J);have M5:Vg w5 mb s.order.length (λ k=>(s.last k).map (Z V)):=h1.map.mod E5 (λ hg=>(hown mb (by simpa [eq_comm] using hg)).2 J);have hg5':g5≠bb/\g5≠mb:=by
  rcases hat with e|e
  ·exact hown g5 e.symm
  ·simp [Value.ownBlock] at e;omega
 have hon:Jn w (L a s.order.length cap) (L (I ⟨g5,0,O⟩) (s.order.length+1) cap5):=by
  rcases hat with e|e
  ·exact .inl e
  ·exact .inr ⟨_,e,by have:=z1.out;first|omega|(rw [World.size_alloc];omega)⟩
 have HON:=Zh_ hon;have HG:=Zh_ hg5';have HO:=Zh_ ho5;have HE:=Zh_ h1;have HKB:=Zh_ K5;have z8:=Zb (i:=1) K5;have r8:=Za (i:=1) K5 J;have r9:=Za (i:=0) K5 J;clear hat hon hg5 ho5 h1 D1 r1 hg5' hown E5 K5;have M6:Vg (w5.setCell ⟨bb,1,O⟩ (L (I ⟨g5,0,O⟩) (s.order.length+1) cap5)).drew mb s.order.length (λ k=>(s.last k).map (Z V)):=(M5.mod ((Zr_ [bb] _).setCell ⟨bb,1,O⟩ _ (.inl (by simp))) (by simp;exact Ne.symm HE.out.ne):Vg (w5.setCell ⟨bb,1,O⟩ (L (I ⟨g5,0,O⟩) (s.order.length+1) cap5)) mb s.order.length (λ k=>(s.last k).map (Z V)));obtain ⟨w2,hup,F2,D2⟩:=M6.set (t:=198) (e:=51) underlying198 (by have h1:=HE.out.room;have h2:=HE.out.qy;unfold maxLen;omega) hk (Z V (Zq x));have HF:=Zh_ F2;have HD:=Zh_ D2;clear F2 D2 M6 M5;go_wp2_with fail
 go_region_with (first|(go_at_call 73;refine (Yq _ _).mono ?_;rintro e w2 ⟨rfl,rfl⟩))
 all_goals
  go_wp2;go_ret2;have H:=HE.out;have F:=HF.out;rw [Q9 (by simpa [Xc.known] using HKN.out)] at F;have eo:(s.put k x).order=s.order++[k]:=by unfold Xc.put;rw [HKN.out];rfl
  have em:(s.put k x).qy=s.qy:=J;have D8:Ze [bb,mb] w5 w2:=((((Zr_ [bb,mb] w5).setCell ⟨bb,1,O⟩ (L (I ⟨g5,0,O⟩) (s.order.length+1) cap5) (.inl (by simp))).drew)).then HD.out (by simp)
  have K8:w2.heap[bb]? =I (X #[.map (I mb),L (I ⟨g5,0,O⟩) (s.order.length+1) cap5,.int .i64 s.qy] 200 (0,0)):=HD.out.at (show (w5.setCell ⟨bb,1,O⟩ _).heap[bb]? =_ from Zd (i:=1) _ HKB.out) (by simp [H.ne]);refine ⟨J,_,⟨by rw [em];exact K8,?_,?_,H.ne,λ g hg=>?_,by rw [eo,em];simp;omega,H.qy⟩,HON.out,D5.then D8 (by simp)⟩
  ·rw [eo];have e3:(λ k'=>Option.map (Z V) ((s.put k x).last k'))=Kq (λ k=>Option.map (Z V) (s.last k)) k (Z V (Zq x)):=by
    funext i;unfold Xc.put Kq;by_cases hi:i=k <;> simp [hi]
   rw [e3,List.length_append];exact F
  ·rw [eo];have:=Uv HO.out D8 (λ g hg=>by simp [Value.ownBlock] at hg;subst hg;simp [HG.out]);simpa using this
  ·simp [Value.ownBlock] at hg;subst hg;exact HG.out
end
section
attribute [local go_sem] Zi
variable {w w':W} {bb mb:Nat} {v:Value} {s:Xc}
theorem N4:(N.info? 53).map (λ i=>(i.zero,i.size,i.bytes))=I (I (A9 #[.int .i64 0,Z V 0]),2,16):=by kernel_rfl
def Bn (l:List (Int×Nat)) (zs:List Value) (i:Nat):List Value:=Yj (l.take i)++zs.drop (i * 2)
theorem Nh (l:List (Int×Nat)):(Yj l).length=l.length * 2:=by
 induction l with
 |nil=>rfl
 |cons p l ih=>simp [Yj] at ih ⊢;omega
theorem Bt (l m:List (Int×Nat)):Yj (l++m)=Yj l++Yj m:=by simp [Yj]
theorem Ii {l:List (Int×Nat)} {zs:List Value} {i:Nat} {c:Int} {x:Nat} (hz:zs.length=l.length * 2) (hi:l[i]? =I (c,x)):((Bn l zs i).set (i * 2) (.int .i64 c)).set (i * 2+1) (Z V x)=Bn l zs (i+1):=by
 obtain ⟨hlt,he⟩:=List.getElem?_eq_some_iff.1 hi;unfold Bn;have h1:(Yj (l.take i)).length=i * 2:=by rw [Nh];simp;omega
 rw [List.set_append_right _ _ (by omega),h1,Nat.sub_self,List.set_append_right _ _ (by omega),h1,show i * 2+1 - i * 2=1 by omega];rw [List.take_succ_eq_append_getElem hlt,he,Bt,List.append_assoc];congr 1
 rw [List.drop_eq_getElem_cons (by omega),List.drop_eq_getElem_cons (i:=i * 2+1) (by omega),show (i+1) * 2=i * 2+1+1 by omega];rfl
theorem fill_all {l:List (Int×Nat)} {zs:List Value} (hz:zs.length=l.length * 2):Bn l zs l.length=Yj l:=by
 unfold Bn;rw [List.take_length,<-hz,List.drop_length,List.append_nil]
theorem buf_all (h:V3 w bb mb v s) (hw:∀ k∈s.order,(Lit.int .i64 k).wf=true):Calls N 147 #[E (I ⟨bb,0,O⟩)] w λ e w'=>∃ u,e=R9 u/\w'.ownsRow 0 53 2 u s.order.length (Yj s.all)/\u.ownBlock=I w.heap.size/\Ze [] w w':=by
 obtain ⟨a,cap,rfl⟩:=Zo h.row;have r0:w.cell? ⟨bb,0,O⟩=I (.map (I mb)):=Za h.hd J;have r1:w.cell? ⟨bb,1,O⟩=I (L a s.order.length cap):=Za h.hd J;have hlen:s.order.length<=32:=by have:=h.room;have:=h.qy;omega
 obtain ⟨i0,hi0,hz0,hz1,hz2⟩:=info_parts N4;go_enter func147,ntmps147;go_wp2_with (first|(at_make;refine wpList_make_full _ J _ _ 46 J 0 53 i0 (A9 #[.int .i64 0,Z V 0]) 2 underlying46 hi0 hz0 hz1 _ _ _ _ s.order.length J J J J (by rw [hz2];omega) (by unfold maxLen;omega) (Nat.zero_le _) ?_))
 intro w1 ho1 hg1;have H1:=h.mod (show Ze [] w w1 from (Zr_ _ _).grown hg1 (by simp)) (by simp) (by simp) (by simp);have D1:Ze [] w w1:=(Zr_ _ _).grown hg1 (by simp);have hsz:(madeCells #[Value.int .i64 0,Z V 0] (s.order.length * 2)).toList.length=s.order.length * 2:=ho1.1;generalize (madeCells #[Value.int .i64 0,Z V 0] (s.order.length * 2)).toList=zs at *
 have e0:Bn s.all zs 0=zs:=by simp [Bn,Yj]
 have q1:w1.cell? ⟨bb,1,O⟩=I (L a s.order.length cap):=Za H1.hd J;have HB:=Zh_ h;clear r0 r1 hg1 h;go_wp2_with fail
 go_loopw [17] (λ i wr=>∃ k:Nat,k<=s.order.length/\i=.int .i64 k/\wr.ownsRow 0 53 2 (L (I ⟨w.heap.size,0,O⟩) s.order.length s.order.length) s.order.length (Bn s.all zs k)/\V3 wr bb mb (L a s.order.length cap) s/\Ze [] w wr) (λ i _=>s.order.length - (intOf i).toNat)
 case atStart=>exact ⟨0,Nat.zero_le _,J,by rw [e0];exact ho1,H1,D1⟩
 case round=>
  clear ho1 H1 D1 q1;obtain ⟨k,hk,rfl,hown,B,D⟩:=hrel
  by_cases hlt:k < s.order.length
  ·obtain ⟨g,cap',hv,-⟩:=Ya B.row (by omega);simp only [Value.slice.injEq,true_and] at hv;obtain ⟨rfl,rfl⟩:=hv;obtain ⟨c,hc⟩:∃ c,s.order[k]? =I c:=⟨_,List.getElem?_eq_getElem hlt⟩;have hcw:=hw c (List.mem_of_getElem? hc);have q2:wr.cell? ⟨g,k,O⟩=I (.int .i64 c):=Gt B.row J (by simp [hc]);have q0:wr.cell? ⟨bb,0,O⟩=I (.map (I mb)):=Za B.hd J;have hl:=B.map.get (t:=198) (e:=51) underlying198 J5 hcw;have e1:(Option.map (Z V) (s.last c)).getD (Z V 0)=Z V (s.val c):=by unfold Xc.val;cases s.last c <;> rfl
   simp only [e1] at hl;clear e1;have z0:=hown.frozenAt (k * 2);have z1:=hown.frozenAt (k * 2+1);have hlen2:(Bn s.all zs k).length=s.order.length * 2:=hown.1;obtain ⟨y0,y0h⟩:∃ y,wr.cell? ⟨w.heap.size,k * 2,O⟩=I y:=by rw [hown.cellAt _ (by omega)];exact ⟨_,List.getElem?_eq_getElem (by omega)⟩
   obtain ⟨y1,y1h⟩:∃ y,wr.cell? ⟨w.heap.size,k * 2+1,O⟩=I y:=by rw [hown.cellAt _ (by omega)];exact ⟨_,List.getElem?_eq_getElem (by omega)⟩
   have HW:=Zh_ hown;have HBB:=Zh_ B;have HD:=Zh_ D;have HC:=Zh_ hc;have HL:=Zh_ hlen2;clear hown B D hc hlen2;go_wp2;have hcl:s.all[k]? =I (c,s.val c):=by unfold Xc.all;rw [List.getElem?_map,HC.out];rfl
   have hzz:zs.length=s.all.length * 2:=by simpa [Xc.all] using hsz
   have hb1:=B9 HB.out.hd;have hb2:=HB.out.map.lt;have hb3:∀ g',(L (I ⟨g,0,O⟩) s.order.length cap).ownBlock=I g'->g' < w.heap.size:=λ g' hg'=>(HB.out.row.lt g' hg').2;have d1:Ze [w.heap.size] wr ((wr.setCell ⟨w.heap.size,k * 2,O⟩ (.int .i64 c)).setCell ⟨w.heap.size,k * 2+1,O⟩ (Z V (s.val c))):=((Zr_ _ _).setCell _ _ (.inl (by simp))).setCell _ _ (.inl (by simp));refine ⟨⟨k+1,by omega,by congr 1,?_,HBB.out.mod d1 (by simp;omega) (by simp;omega) (λ g' hg'=>by have:=hb3 g' hg';simp;omega),(HD.out.setCell _ _ (.inr (Nat.le_refl _))).setCell _ _ (.inr (Nat.le_refl _))⟩,by simp [intOf];omega⟩;rw [<-Ii hzz hcl];exact ((HW.out.stored (k * 2) (.int .i64 c)).1.stored (k * 2+1) (Z V (s.val c))).1
  ·obtain rfl:k=s.order.length:=by omega
   have hz:zs.length=s.all.length * 2:=by simpa [Xc.all] using hsz
   have e:Bn s.all zs s.order.length=Yj s.all:=by rw [<-fill_all hz];simp [Xc.all]
   rw [e] at hown;go_wp2;go_ret;exact ⟨_,J,hown,J,D⟩
end
end Go.Proofs.YtkhonmhnchdpkaaGreat

/- A part of the proof; no condition. -/
import Derived.Test.YtkhonmhnchdpkaaGreatB01
import Derived.Deep.WholeRow
set_option maxRecDepth 100000
set_option maxHeartbeats 40000000
namespace Go.Proofs.YtkhonmhnchdpkaaGreat
open Go.RowKit _root_.Go.Proofs.Tryz
open Go renaming World→W
open Value renaming int→U,slice→L,float→Z,agg→A9
open IntKind renaming i64→Y
open FloatKind renaming f64→V
open Obj renaming cells→X
open Option renaming some→I,none→O
open Ending renaming returned→R9
open _root_.Go.Proofs.Tryz renaming prog→N
section
attribute [local go_sem] Zi
theorem two1_c (x y:Nat) (w:W):Calls N 180 #[U Y 1,Z V x,Z V y] w (Pf 1 x y w):=by
 go_enter func180,ntmps180;go_wp2_with fail;refine (Uk _).mono ?_;rintro e w1 ⟨tb,rfl,K,D1⟩;have c1:=Za (i:=1) K J;clear K;go_wp2_with fail
 go_region_held3 (λ wx=>wx.cell? ⟨tb,1,O⟩=I (.func (.func 195) #[] #[])) (first|exact c1|assumption)
  (first
   |(go_at_call_of 73 (Z V x);refine (Yq _ _).mono ?_;rintro e w2 ⟨rfl,rfl⟩)
   |(go_at_call_of 73 (Z V y);refine (Yq _ _).mono ?_;rintro e w2 ⟨rfl,rfl⟩)
   |(go_at_call 195;refine (add_c _ _ _).mono ?_;rintro e w2 ⟨y2,n,rfl,hy,rfl⟩)
   |(go_at_call 73;refine (Yq _ _).mono ?_;rintro e w2 ⟨rfl,rfl⟩))
 all_goals
  go_wp2;go_ret2;exact ⟨0,J,D1.drewN _⟩
theorem two2_c (x y:Nat) (w:W):Calls N 180 #[U Y 2,Z V x,Z V y] w (Pf 2 x y w):=by
 go_enter func180,ntmps180;go_wp2_with fail;refine (Uk _).mono ?_;rintro e w1 ⟨tb,rfl,K,D1⟩;have c1:=Za (i:=2) K J;clear K;go_wp2_with fail
 go_region_held3 (λ wx=>wx.cell? ⟨tb,2,O⟩=I (.func (.func 196) #[] #[])) (first|exact c1|assumption)
  (first
   |(go_at_call_of 73 (Z V x);refine (Yq _ _).mono ?_;rintro e w2 ⟨rfl,rfl⟩)
   |(go_at_call_of 73 (Z V y);refine (Yq _ _).mono ?_;rintro e w2 ⟨rfl,rfl⟩)
   |(go_at_call 196;refine (sub_c _ _ _).mono ?_;rintro e w2 ⟨y2,n,rfl,hy,rfl⟩)
   |(go_at_call 73;refine (Yq _ _).mono ?_;rintro e w2 ⟨rfl,rfl⟩))
 all_goals
  go_wp2;go_ret2;exact ⟨0,J,D1.drewN _⟩
theorem two3_c (x y:Nat) (w:W):Calls N 180 #[U Y 3,Z V x,Z V y] w (Pf 3 x y w):=by
 go_enter func180,ntmps180;go_wp2_with fail;refine (Uk _).mono ?_;rintro e w1 ⟨tb,rfl,K,D1⟩;have c1:=Za (i:=3) K J;clear K;go_wp2_with fail
 go_region_held3 (λ wx=>wx.cell? ⟨tb,3,O⟩=I (.func (.func 197) #[] #[])) (first|exact c1|assumption)
  (first
   |(go_at_call_of 73 (Z V x);refine (Yq _ _).mono ?_;rintro e w2 ⟨rfl,rfl⟩)
   |(go_at_call_of 73 (Z V y);refine (Yq _ _).mono ?_;rintro e w2 ⟨rfl,rfl⟩)
   |(go_at_call 197;refine (mul_c _ _ _).mono ?_;rintro e w2 ⟨y2,n,rfl,hy,rfl⟩)
   |(go_at_call 73;refine (Yq _ _).mono ?_;rintro e w2 ⟨rfl,rfl⟩))
 all_goals
  go_wp2;go_ret2;exact ⟨0,J,D1.drewN _⟩
theorem two4_c (x y:Nat) (w:W):Calls N 180 #[U Y 4,Z V x,Z V y] w (Pf 4 x y w):=by
 go_enter func180,ntmps180;go_wp2_with fail;refine (Uk _).mono ?_;rintro e w1 ⟨tb,rfl,K,D1⟩;have c1:=Za (i:=4) K J;clear K;go_wp2_with fail
 go_region_held3 (λ wx=>wx.cell? ⟨tb,4,O⟩=I (.func (.func 198) #[] #[])) (first|exact c1|assumption)
  (first
   |(go_at_call_of 73 (Z V x);refine (Yq _ _).mono ?_;rintro e w2 ⟨rfl,rfl⟩)
   |(go_at_call_of 73 (Z V y);refine (Yq _ _).mono ?_;rintro e w2 ⟨rfl,rfl⟩)
   |(go_at_call 198;refine (quo_c _ _ _).mono ?_;rintro e w2 ⟨y2,n,rfl,hy,rfl⟩)
   |(go_at_call 73;refine (Yq _ _).mono ?_;rintro e w2 ⟨rfl,rfl⟩))
 all_goals
  go_wp2;go_ret2;exact ⟨0,J,D1.drewN _⟩
theorem two5_c (x y:Nat) (w:W):Calls N 180 #[U Y 5,Z V x,Z V y] w (Pf 5 x y w):=by
 go_enter func180,ntmps180;go_wp2_with fail;refine (Uk _).mono ?_;rintro e w1 ⟨tb,rfl,K,D1⟩;have c1:=Za (i:=5) K J;clear K;go_wp2_with fail
 go_region_held3 (λ wx=>wx.cell? ⟨tb,5,O⟩=I (.func (.func 199) #[] #[])) (first|exact c1|assumption)
  (first
   |(go_at_call_of 73 (Z V x);refine (Yq _ _).mono ?_;rintro e w2 ⟨rfl,rfl⟩)
   |(go_at_call_of 73 (Z V y);refine (Yq _ _).mono ?_;rintro e w2 ⟨rfl,rfl⟩)
   |(go_at_call 199;refine (mod_a _ _ _).mono ?_;rintro e w2 ⟨y2,n,rfl,rfl⟩)
   |(go_at_call 73;refine (Yq _ _).mono ?_;rintro e w2 ⟨rfl,rfl⟩))
 all_goals
  go_wp2;go_ret2;exact ⟨_,J,D1.drewN _⟩
theorem two6_c (x y:Nat) (w:W):Calls N 180 #[U Y 6,Z V x,Z V y] w (Pf 6 x y w):=by
 go_enter func180,ntmps180;go_wp2_with fail;refine (Uk _).mono ?_;rintro e w1 ⟨tb,rfl,K,D1⟩;have c1:=Za (i:=6) K J;clear K;go_wp2_with fail
 go_region_held3 (λ wx=>wx.cell? ⟨tb,6,O⟩=I (.func (.func 200) #[] #[])) (first|exact c1|assumption)
  (first
   |(go_at_call_of 73 (Z V x);refine (Yq _ _).mono ?_;rintro e w2 ⟨rfl,rfl⟩)
   |(go_at_call_of 73 (Z V y);refine (Yq _ _).mono ?_;rintro e w2 ⟨rfl,rfl⟩)
   |(go_at_call 200;refine (least_a _ _ _).mono ?_;rintro e w2 ⟨y2,n,rfl,rfl⟩)
   |(go_at_call 73;refine (Yq _ _).mono ?_;rintro e w2 ⟨rfl,rfl⟩))
 all_goals
  go_wp2;go_ret2;exact ⟨_,J,D1.drewN _⟩
theorem two7_c (x y:Nat) (w:W):Calls N 180 #[U Y 7,Z V x,Z V y] w (Pf 7 x y w):=by
 go_enter func180,ntmps180;go_wp2_with fail;refine (Uk _).mono ?_;rintro e w1 ⟨tb,rfl,K,D1⟩;have c1:=Za (i:=7) K J;clear K;go_wp2_with fail
 go_region_held3 (λ wx=>wx.cell? ⟨tb,7,O⟩=I (.func (.func 201) #[] #[])) (first|exact c1|assumption)
  (first
   |(go_at_call_of 73 (Z V x);refine (Yq _ _).mono ?_;rintro e w2 ⟨rfl,rfl⟩)
   |(go_at_call_of 73 (Z V y);refine (Yq _ _).mono ?_;rintro e w2 ⟨rfl,rfl⟩)
   |(go_at_call 201;refine (Aa _ _ _).mono ?_;rintro e w2 ⟨y2,n,rfl,rfl⟩)
   |(go_at_call 73;refine (Yq _ _).mono ?_;rintro e w2 ⟨rfl,rfl⟩))
 all_goals
  go_wp2;go_ret2;exact ⟨_,J,D1.drewN _⟩
theorem two8_c (x y:Nat) (w:W):Calls N 180 #[U Y 8,Z V x,Z V y] w (Pf 8 x y w):=by
 go_enter func180,ntmps180;go_wp2_with fail;refine (Uk _).mono ?_;rintro e w1 ⟨tb,rfl,K,D1⟩;have c1:=Za (i:=8) K J;clear K;go_wp2_with fail
 go_region_held3 (λ wx=>wx.cell? ⟨tb,8,O⟩=I (.func (.func 202) #[] #[])) (first|exact c1|assumption)
  (first
   |(go_at_call_of 73 (Z V x);refine (Yq _ _).mono ?_;rintro e w2 ⟨rfl,rfl⟩)
   |(go_at_call_of 73 (Z V y);refine (Yq _ _).mono ?_;rintro e w2 ⟨rfl,rfl⟩)
   |(go_at_call 202;refine (less_c _ _ _).mono ?_;rintro e w2 ⟨y2,n,rfl,hy,rfl⟩)
   |(go_at_call 73;refine (Yq _ _).mono ?_;rintro e w2 ⟨rfl,rfl⟩))
 all_goals
  go_wp2;go_ret2;exact ⟨0,J,D1.drewN _⟩
theorem two9_c (x y:Nat) (w:W):Calls N 180 #[U Y 9,Z V x,Z V y] w (Pf 9 x y w):=by
 go_enter func180,ntmps180;go_wp2_with fail;refine (Uk _).mono ?_;rintro e w1 ⟨tb,rfl,K,D1⟩;have c1:=Za (i:=9) K J;clear K;go_wp2_with fail
 go_region_held3 (λ wx=>wx.cell? ⟨tb,9,O⟩=I (.func (.func 203) #[] #[])) (first|exact c1|assumption)
  (first
   |(go_at_call_of 73 (Z V x);refine (Yq _ _).mono ?_;rintro e w2 ⟨rfl,rfl⟩)
   |(go_at_call_of 73 (Z V y);refine (Yq _ _).mono ?_;rintro e w2 ⟨rfl,rfl⟩)
   |(go_at_call 203;refine (atmost_a _ _ _).mono ?_;rintro e w2 ⟨y2,n,rfl,rfl⟩)
   |(go_at_call 73;refine (Yq _ _).mono ?_;rintro e w2 ⟨rfl,rfl⟩))
 all_goals
  go_wp2;go_ret2;exact ⟨_,J,D1.drewN _⟩
theorem two10_c (x y:Nat) (w:W):Calls N 180 #[U Y 10,Z V x,Z V y] w (Pf 10 x y w):=by
 go_enter func180,ntmps180;go_wp2_with fail;refine (Uk _).mono ?_;rintro e w1 ⟨tb,rfl,K,D1⟩;have c1:=Za (i:=10) K J;clear K;go_wp2_with fail
 go_region_held3 (λ wx=>wx.cell? ⟨tb,10,O⟩=I (.func (.func 204) #[] #[])) (first|exact c1|assumption)
  (first
   |(go_at_call_of 73 (Z V x);refine (Yq _ _).mono ?_;rintro e w2 ⟨rfl,rfl⟩)
   |(go_at_call_of 73 (Z V y);refine (Yq _ _).mono ?_;rintro e w2 ⟨rfl,rfl⟩)
   |(go_at_call 204;refine (equal_a _ _ _).mono ?_;rintro e w2 ⟨y2,n,rfl,rfl⟩)
   |(go_at_call 73;refine (Yq _ _).mono ?_;rintro e w2 ⟨rfl,rfl⟩))
 all_goals
  go_wp2;go_ret2;exact ⟨_,J,D1.drewN _⟩
theorem two11_c (x y:Nat) (w:W):Calls N 180 #[U Y 11,Z V x,Z V y] w (Pf 11 x y w):=by
 go_enter func180,ntmps180;go_wp2_with fail;refine (Uk _).mono ?_;rintro e w1 ⟨tb,rfl,K,D1⟩;have c1:=Za (i:=11) K J;clear K;go_wp2_with fail
 go_region_held3 (λ wx=>wx.cell? ⟨tb,11,O⟩=I (.func (.func 205) #[] #[])) (first|exact c1|assumption)
  (first
   |(go_at_call_of 73 (Z V x);refine (Yq _ _).mono ?_;rintro e w2 ⟨rfl,rfl⟩)
   |(go_at_call_of 73 (Z V y);refine (Yq _ _).mono ?_;rintro e w2 ⟨rfl,rfl⟩)
   |(go_at_call 205;refine (same2_a _ _ _).mono ?_;rintro e w2 ⟨y2,n,rfl,rfl⟩)
   |(go_at_call 73;refine (Yq _ _).mono ?_;rintro e w2 ⟨rfl,rfl⟩))
 all_goals
  go_wp2;go_ret2;exact ⟨_,J,D1.drewN _⟩
theorem two12_c (x y:Nat) (w:W):Calls N 180 #[U Y 12,Z V x,Z V y] w (Pf 12 x y w):=by
 go_enter func180,ntmps180;go_wp2_with fail;refine (Uk _).mono ?_;rintro e w1 ⟨tb,rfl,K,D1⟩;have c1:=Za (i:=12) K J;clear K;go_wp2_with fail
 go_region_held3 (λ wx=>wx.cell? ⟨tb,12,O⟩=I (.func (.func 206) #[] #[])) (first|exact c1|assumption)
  (first
   |(go_at_call_of 73 (Z V x);refine (Yq _ _).mono ?_;rintro e w2 ⟨rfl,rfl⟩)
   |(go_at_call_of 73 (Z V y);refine (Yq _ _).mono ?_;rintro e w2 ⟨rfl,rfl⟩)
   |(go_at_call 206;refine (ahead2_a _ _ _).mono ?_;rintro e w2 ⟨y2,n,rfl,rfl⟩)
   |(go_at_call 73;refine (Yq _ _).mono ?_;rintro e w2 ⟨rfl,rfl⟩))
 all_goals
  go_wp2;go_ret2;exact ⟨_,J,D1.drewN _⟩
theorem two_c (k:Int) (h1:1<=k) (h2:k<=12) (x y:Nat) (w:W):Calls N 180 #[U Y k,Z V x,Z V y] w (Pf k x y w):=by
 rcases (show k=1\/k=2\/k=3\/k=4\/k=5\/k=6\/k=7\/k=8\/k=9\/k=10\/k=11\/k=12 by omega) with rfl|rfl|rfl|rfl|rfl|rfl|rfl|rfl|rfl|rfl|rfl|rfl
 ·exact two1_c x y w
 ·exact two2_c x y w
 ·exact two3_c x y w
 ·exact two4_c x y w
 ·exact two5_c x y w
 ·exact two6_c x y w
 ·exact two7_c x y w
 ·exact two8_c x y w
 ·exact two9_c x y w
 ·exact two10_c x y w
 ·exact two11_c x y w
 ·exact two12_c x y w
end
section
attribute [local go_sem] Zi
def Nm:Array Value:=#[.string {data:=#[]},U Y 0,U Y 0,U Y 0,.string {data:=#[112,117,115,104]},U Y (-2),U Y 0,U Y 1,.string {data:=#[100,114,111,112]},U Y (-2),U Y 1,U Y 0,.string {data:=#[100,117,112]},U Y (-2),U Y 1,U Y 2,.string {data:=#[115,119,97,112]},U Y (-2),U Y 2,U Y 2,.string {data:=#[112,105,99,107]},U Y 63,U Y 0,U Y 1,.string {data:=#[97,114,103]},U Y 7,U Y 0,U Y 1,.string {data:=#[103,101,116]},U Y 7,U Y 0,U Y 1,.string {data:=#[115,101,116]},U Y 7,U Y 1,U Y 0,.string {data:=#[]},U Y 8,U Y 1,U Y 1,.string {data:=#[]},U Y 12,U Y 2,U Y 1,.string {data:=#[106,117,109,112]},U Y (-1),U Y 0,U Y 0,.string {data:=#[105,102]},U Y (-1),U Y 1,U Y 0,.string {data:=#[117,110,108,101,115,115]},U Y (-1),U Y 1,U Y 0,.string {data:=#[99,97,108,108]},U Y (-1),U Y 0,U Y 0,.string {data:=#[114,101,116]},U Y (-2),U Y 0,U Y 0,.string {data:=#[114,101,97,100]},U Y (-2),U Y 1,U Y 1,.string {data:=#[119,114,105,116,101]},U Y (-2),U Y 2,U Y 0,.string {data:=#[101,109,105,116]},U Y (-2),U Y 1,U Y 0,.string {data:=#[97,98,111,114,116]},U Y 99,U Y 0,U Y 0,.string {data:=#[104,97,108,116]},U Y (-2),U Y 0,U Y 0]
def Vh:Value:=.agg Nm
def Um (op:Int):Int:=match op with|1=>(-2)|2=>(-2)|3=>(-2)|4=>(-2)|5=>63|6=>7|7=>7|8=>7|9=>8|10=>12|11=>(-1)|12=>(-1)|13=>(-1)|14=>(-1)|15=>(-2)|16=>(-2)|17=>(-2)|18=>(-2)|19=>99|20=>(-2)|_=>0
def Xe (op:Int):Int:=match op with|1=>0|2=>1|3=>1|4=>2|5=>0|6=>0|7=>0|8=>1|9=>1|10=>2|11=>0|12=>1|13=>1|14=>0|15=>0|16=>1|17=>2|18=>1|19=>0|20=>0|_=>0
def Qr (op:Int):Int:=match op with|1=>1|2=>0|3=>2|4=>2|5=>1|6=>1|7=>1|8=>0|9=>1|10=>1|11=>0|12=>0|13=>0|14=>0|15=>0|16=>1|17=>0|18=>0|19=>0|20=>0|_=>0
structure Xg where
 op:Int
 n:Int
 x:Nat
def Xg.val (i:Xg):Value:=A9 #[U Y i.op,U Y i.n,Z V i.x]
def Xg.may (i:Xg) (len:Int):Bool:=
 if i.op<=0\/20 < i.op then false else if i.op≠1/\Zq i.x≠0 then false
 else if Um i.op=-2 then i.n==0
 else if Um i.op=-1 then decide (0<=i.n)&&decide (i.n < len)
 else if i.op=9\/i.op=10 then decide (1<=i.n)&&decide (i.n<=Um i.op)
 else decide (0<=i.n)&&decide (i.n<=Um i.op)
theorem Yo (w:W):Calls N 132 #[] w λ e w'=>e=R9 Vh/\Ze [] w w':=by
 go_enter func132,ntmps132;go_wp2;have hst:∀ l,l=Nm.toList->(storeCells ⟨w.heap.size,0,O⟩ l 0).run N (w.alloc (.cells Tryz.zeroCells228 228))=.ok () (w.alloc (.cells Nm 228)):=by
  rintro _ rfl;exact run_storeCells_new w 228 _ _ (by kernel_rfl) (by kernel_rfl) (by kernel_rfl)
 rw [hst _ (by kernel_rfl)];clear hst;have hD:Ze [] w (w.alloc (.cells Nm 228)):=(Zr_ _ _).alloc _;have hr:=λ tmps h0=>results_cell_row (P:=N) (fn:=Tryz.f132) (p:=0) (ty:=228) J tmps (w.alloc (.cells Nm 228)) w.heap.size 228 Nm (0,0) _ h0 (Zc _ _) underlying228 J (by kernel_rfl);generalize w.alloc (.cells Nm 228)=w1 at *
 go_wp2;refine bodyPost_ret (v:=Vh) ?_ J ⟨J,hD⟩;exact hr _ J
end
section
attribute [local go_sem] Zi
theorem rix1 (w:W):(Instr.index 228 Vh (U Y 1)).run N w=.ok (A9 #[.string {data:=#[112,117,115,104]},U Y (-2),U Y 0,U Y 1]) w:=by kernel_rfl
theorem eff1 (w:W):Calls N 158 #[U Y 1] w λ e w'=>e=R9 (.tuple #[U Y 0,U Y 1,U Y 0])/\Ze [] w w':=by
 have hx:=rix1;go_enter func158,ntmps158;go_wp2_with fail;refine (Yo _).mono ?_;rintro e w1 ⟨rfl,D1⟩;go_wp2_with fail;go_region
 all_goals
  go_wp2
  go_ret3
  exact ⟨J,(D1.alloc _).drew⟩
theorem rix2 (w:W):(Instr.index 228 Vh (U Y 2)).run N w=.ok (A9 #[.string {data:=#[100,114,111,112]},U Y (-2),U Y 1,U Y 0]) w:=by kernel_rfl
theorem eff2 (w:W):Calls N 158 #[U Y 2] w λ e w'=>e=R9 (.tuple #[U Y 1,U Y 0,U Y 0])/\Ze [] w w':=by
 have hx:=rix2;go_enter func158,ntmps158;go_wp2_with fail;refine (Yo _).mono ?_;rintro e w1 ⟨rfl,D1⟩;go_wp2_with fail;go_region
 all_goals
  go_wp2
  go_ret3
  exact ⟨J,(D1.alloc _).drew⟩
theorem rix3 (w:W):(Instr.index 228 Vh (U Y 3)).run N w=.ok (A9 #[.string {data:=#[100,117,112]},U Y (-2),U Y 1,U Y 2]) w:=by kernel_rfl
theorem eff3 (w:W):Calls N 158 #[U Y 3] w λ e w'=>e=R9 (.tuple #[U Y 1,U Y 2,U Y 0])/\Ze [] w w':=by
 have hx:=rix3;go_enter func158,ntmps158;go_wp2_with fail;refine (Yo _).mono ?_;rintro e w1 ⟨rfl,D1⟩;go_wp2_with fail;go_region
 all_goals
  go_wp2
  go_ret3
  exact ⟨J,(D1.alloc _).drew⟩
theorem rix4 (w:W):(Instr.index 228 Vh (U Y 4)).run N w=.ok (A9 #[.string {data:=#[115,119,97,112]},U Y (-2),U Y 2,U Y 2]) w:=by kernel_rfl
theorem eff4 (w:W):Calls N 158 #[U Y 4] w λ e w'=>e=R9 (.tuple #[U Y 2,U Y 2,U Y 0])/\Ze [] w w':=by
 have hx:=rix4;go_enter func158,ntmps158;go_wp2_with fail;refine (Yo _).mono ?_;rintro e w1 ⟨rfl,D1⟩;go_wp2_with fail;go_region
 all_goals
  go_wp2
  go_ret3
  exact ⟨J,(D1.alloc _).drew⟩
theorem rix5 (w:W):(Instr.index 228 Vh (U Y 5)).run N w=.ok (A9 #[.string {data:=#[112,105,99,107]},U Y 63,U Y 0,U Y 1]) w:=by kernel_rfl
theorem eff5 (w:W):Calls N 158 #[U Y 5] w λ e w'=>e=R9 (.tuple #[U Y 0,U Y 1,U Y 0])/\Ze [] w w':=by
 have hx:=rix5;go_enter func158,ntmps158;go_wp2_with fail;refine (Yo _).mono ?_;rintro e w1 ⟨rfl,D1⟩;go_wp2_with fail;go_region
 all_goals
  go_wp2
  go_ret3
  exact ⟨J,(D1.alloc _).drew⟩
theorem rix6 (w:W):(Instr.index 228 Vh (U Y 6)).run N w=.ok (A9 #[.string {data:=#[97,114,103]},U Y 7,U Y 0,U Y 1]) w:=by kernel_rfl
theorem eff6 (w:W):Calls N 158 #[U Y 6] w λ e w'=>e=R9 (.tuple #[U Y 0,U Y 1,U Y 0])/\Ze [] w w':=by
 have hx:=rix6;go_enter func158,ntmps158;go_wp2_with fail;refine (Yo _).mono ?_;rintro e w1 ⟨rfl,D1⟩;go_wp2_with fail;go_region
 all_goals
  go_wp2
  go_ret3
  exact ⟨J,(D1.alloc _).drew⟩
theorem rix7 (w:W):(Instr.index 228 Vh (U Y 7)).run N w=.ok (A9 #[.string {data:=#[103,101,116]},U Y 7,U Y 0,U Y 1]) w:=by kernel_rfl
theorem eff7 (w:W):Calls N 158 #[U Y 7] w λ e w'=>e=R9 (.tuple #[U Y 0,U Y 1,U Y 0])/\Ze [] w w':=by
 have hx:=rix7;go_enter func158,ntmps158;go_wp2_with fail;refine (Yo _).mono ?_;rintro e w1 ⟨rfl,D1⟩;go_wp2_with fail;go_region
 all_goals
  go_wp2
  go_ret3
  exact ⟨J,(D1.alloc _).drew⟩
theorem rix8 (w:W):(Instr.index 228 Vh (U Y 8)).run N w=.ok (A9 #[.string {data:=#[115,101,116]},U Y 7,U Y 1,U Y 0]) w:=by kernel_rfl
theorem eff8 (w:W):Calls N 158 #[U Y 8] w λ e w'=>e=R9 (.tuple #[U Y 1,U Y 0,U Y 0])/\Ze [] w w':=by
 have hx:=rix8;go_enter func158,ntmps158;go_wp2_with fail;refine (Yo _).mono ?_;rintro e w1 ⟨rfl,D1⟩;go_wp2_with fail;go_region
 all_goals
  go_wp2
  go_ret3
  exact ⟨J,(D1.alloc _).drew⟩
theorem rix9 (w:W):(Instr.index 228 Vh (U Y 9)).run N w=.ok (A9 #[.string {data:=#[]},U Y 8,U Y 1,U Y 1]) w:=by kernel_rfl
theorem eff9 (w:W):Calls N 158 #[U Y 9] w λ e w'=>e=R9 (.tuple #[U Y 1,U Y 1,U Y 0])/\Ze [] w w':=by
 have hx:=rix9;go_enter func158,ntmps158;go_wp2_with fail;refine (Yo _).mono ?_;rintro e w1 ⟨rfl,D1⟩;go_wp2_with fail;go_region
 all_goals
  go_wp2
  go_ret3
  exact ⟨J,(D1.alloc _).drew⟩
theorem rix10 (w:W):(Instr.index 228 Vh (U Y 10)).run N w=.ok (A9 #[.string {data:=#[]},U Y 12,U Y 2,U Y 1]) w:=by kernel_rfl
theorem eff10 (w:W):Calls N 158 #[U Y 10] w λ e w'=>e=R9 (.tuple #[U Y 2,U Y 1,U Y 0])/\Ze [] w w':=by
 have hx:=rix10;go_enter func158,ntmps158;go_wp2_with fail;refine (Yo _).mono ?_;rintro e w1 ⟨rfl,D1⟩;go_wp2_with fail;go_region
 all_goals
  go_wp2
  go_ret3
  exact ⟨J,(D1.alloc _).drew⟩
theorem rix11 (w:W):(Instr.index 228 Vh (U Y 11)).run N w=.ok (A9 #[.string {data:=#[106,117,109,112]},U Y (-1),U Y 0,U Y 0]) w:=by kernel_rfl
theorem eff11 (w:W):Calls N 158 #[U Y 11] w λ e w'=>e=R9 (.tuple #[U Y 0,U Y 0,U Y 0])/\Ze [] w w':=by
 have hx:=rix11;go_enter func158,ntmps158;go_wp2_with fail;refine (Yo _).mono ?_;rintro e w1 ⟨rfl,D1⟩;go_wp2_with fail;go_region
 all_goals
  go_wp2
  go_ret3
  exact ⟨J,(D1.alloc _).drew⟩
theorem rix12 (w:W):(Instr.index 228 Vh (U Y 12)).run N w=.ok (A9 #[.string {data:=#[105,102]},U Y (-1),U Y 1,U Y 0]) w:=by kernel_rfl
theorem eff12 (w:W):Calls N 158 #[U Y 12] w λ e w'=>e=R9 (.tuple #[U Y 1,U Y 0,U Y 0])/\Ze [] w w':=by
 have hx:=rix12;go_enter func158,ntmps158;go_wp2_with fail;refine (Yo _).mono ?_;rintro e w1 ⟨rfl,D1⟩;go_wp2_with fail;go_region
 all_goals
  go_wp2
  go_ret3
  exact ⟨J,(D1.alloc _).drew⟩
theorem rix13 (w:W):(Instr.index 228 Vh (U Y 13)).run N w=.ok (A9 #[.string {data:=#[117,110,108,101,115,115]},U Y (-1),U Y 1,U Y 0]) w:=by kernel_rfl
theorem eff13 (w:W):Calls N 158 #[U Y 13] w λ e w'=>e=R9 (.tuple #[U Y 1,U Y 0,U Y 0])/\Ze [] w w':=by
 have hx:=rix13;go_enter func158,ntmps158;go_wp2_with fail;refine (Yo _).mono ?_;rintro e w1 ⟨rfl,D1⟩;go_wp2_with fail;go_region
 all_goals
  go_wp2
  go_ret3
  exact ⟨J,(D1.alloc _).drew⟩
theorem rix14 (w:W):(Instr.index 228 Vh (U Y 14)).run N w=.ok (A9 #[.string {data:=#[99,97,108,108]},U Y (-1),U Y 0,U Y 0]) w:=by kernel_rfl
theorem eff14 (w:W):Calls N 158 #[U Y 14] w λ e w'=>e=R9 (.tuple #[U Y 0,U Y 0,U Y 0])/\Ze [] w w':=by
 have hx:=rix14;go_enter func158,ntmps158;go_wp2_with fail;refine (Yo _).mono ?_;rintro e w1 ⟨rfl,D1⟩;go_wp2_with fail;go_region
 all_goals
  go_wp2
  go_ret3
  exact ⟨J,(D1.alloc _).drew⟩
theorem rix15 (w:W):(Instr.index 228 Vh (U Y 15)).run N w=.ok (A9 #[.string {data:=#[114,101,116]},U Y (-2),U Y 0,U Y 0]) w:=by kernel_rfl
theorem eff15 (w:W):Calls N 158 #[U Y 15] w λ e w'=>e=R9 (.tuple #[U Y 0,U Y 0,U Y 0])/\Ze [] w w':=by
 have hx:=rix15;go_enter func158,ntmps158;go_wp2_with fail;refine (Yo _).mono ?_;rintro e w1 ⟨rfl,D1⟩;go_wp2_with fail;go_region
 all_goals
  go_wp2
  go_ret3
  exact ⟨J,(D1.alloc _).drew⟩
theorem rix16 (w:W):(Instr.index 228 Vh (U Y 16)).run N w=.ok (A9 #[.string {data:=#[114,101,97,100]},U Y (-2),U Y 1,U Y 1]) w:=by kernel_rfl
theorem eff16 (w:W):Calls N 158 #[U Y 16] w λ e w'=>e=R9 (.tuple #[U Y 1,U Y 1,U Y 0])/\Ze [] w w':=by
 have hx:=rix16;go_enter func158,ntmps158;go_wp2_with fail;refine (Yo _).mono ?_;rintro e w1 ⟨rfl,D1⟩;go_wp2_with fail;go_region
 all_goals
  go_wp2
  go_ret3
  exact ⟨J,(D1.alloc _).drew⟩
theorem rix17 (w:W):(Instr.index 228 Vh (U Y 17)).run N w=.ok (A9 #[.string {data:=#[119,114,105,116,101]},U Y (-2),U Y 2,U Y 0]) w:=by kernel_rfl
theorem eff17 (w:W):Calls N 158 #[U Y 17] w λ e w'=>e=R9 (.tuple #[U Y 2,U Y 0,U Y 0])/\Ze [] w w':=by
 have hx:=rix17;go_enter func158,ntmps158;go_wp2_with fail;refine (Yo _).mono ?_;rintro e w1 ⟨rfl,D1⟩;go_wp2_with fail;go_region
 all_goals
  go_wp2
  go_ret3
  exact ⟨J,(D1.alloc _).drew⟩
theorem rix18 (w:W):(Instr.index 228 Vh (U Y 18)).run N w=.ok (A9 #[.string {data:=#[101,109,105,116]},U Y (-2),U Y 1,U Y 0]) w:=by kernel_rfl
theorem eff18 (w:W):Calls N 158 #[U Y 18] w λ e w'=>e=R9 (.tuple #[U Y 1,U Y 0,U Y 0])/\Ze [] w w':=by
 have hx:=rix18;go_enter func158,ntmps158;go_wp2_with fail;refine (Yo _).mono ?_;rintro e w1 ⟨rfl,D1⟩;go_wp2_with fail;go_region
 all_goals
  go_wp2
  go_ret3
  exact ⟨J,(D1.alloc _).drew⟩
theorem rix19 (w:W):(Instr.index 228 Vh (U Y 19)).run N w=.ok (A9 #[.string {data:=#[97,98,111,114,116]},U Y 99,U Y 0,U Y 0]) w:=by kernel_rfl
theorem eff19 (w:W):Calls N 158 #[U Y 19] w λ e w'=>e=R9 (.tuple #[U Y 0,U Y 0,U Y 0])/\Ze [] w w':=by
 have hx:=rix19;go_enter func158,ntmps158;go_wp2_with fail;refine (Yo _).mono ?_;rintro e w1 ⟨rfl,D1⟩;go_wp2_with fail;go_region
 all_goals
  go_wp2
  go_ret3
  exact ⟨J,(D1.alloc _).drew⟩
theorem rix20 (w:W):(Instr.index 228 Vh (U Y 20)).run N w=.ok (A9 #[.string {data:=#[104,97,108,116]},U Y (-2),U Y 0,U Y 0]) w:=by kernel_rfl
theorem eff20 (w:W):Calls N 158 #[U Y 20] w λ e w'=>e=R9 (.tuple #[U Y 0,U Y 0,U Y 0])/\Ze [] w w':=by
 have hx:=rix20;go_enter func158,ntmps158;go_wp2_with fail;refine (Yo _).mono ?_;rintro e w1 ⟨rfl,D1⟩;go_wp2_with fail;go_region
 all_goals
  go_wp2
  go_ret3
  exact ⟨J,(D1.alloc _).drew⟩
theorem eff_c (k:Int) (h1:1<=k) (h2:k<=20) (w:W):Calls N 158 #[U Y k] w λ e w'=>e=R9 (.tuple #[U Y (Xe k),U Y (Qr k),U Y 0])/\Ze [] w w':=by
 rcases (show k=1\/k=2\/k=3\/k=4\/k=5\/k=6\/k=7\/k=8\/k=9\/k=10\/k=11\/k=12\/k=13\/k=14\/k=15\/k=16\/k=17\/k=18\/k=19\/k=20 by omega) with rfl|rfl|rfl|rfl|rfl|rfl|rfl|rfl|rfl|rfl|rfl|rfl|rfl|rfl|rfl|rfl|rfl|rfl|rfl|rfl
 ·exact eff1 w
 ·exact eff2 w
 ·exact eff3 w
 ·exact eff4 w
 ·exact eff5 w
 ·exact eff6 w
 ·exact eff7 w
 ·exact eff8 w
 ·exact eff9 w
 ·exact eff10 w
 ·exact eff11 w
 ·exact eff12 w
 ·exact eff13 w
 ·exact eff14 w
 ·exact eff15 w
 ·exact eff16 w
 ·exact eff17 w
 ·exact eff18 w
 ·exact eff19 w
 ·exact eff20 w
end
section
attribute [local go_sem] Zi
variable {w:W}
def U2 (b:Bool) (w:W) (e:Ending) (w':W):Prop:=e=R9 (.bool b)/\Ze [] w w'
theorem may_low (op n:Int) (x:Nat) (len:Int) (h:op<=0) (w:W):Calls N 104 #[A9 #[U Y op,U Y n,Z V x],U Y len] w (U2 false w):=by
 have d1:decide (op<=0)=true:=decide_eq_true h;go_enter func104,ntmps104;go_wp2;go_ret;exact ⟨J,(Zr_ _ _).alloc _⟩
theorem may_high (op n:Int) (x:Nat) (len:Int) (h:20 < op) (w:W):Calls N 104 #[A9 #[U Y op,U Y n,Z V x],U Y len] w (U2 false w):=by
 have d1:decide (op<=0)=false:=D9 (by omega);have d2:decide (20 < op)=true:=decide_eq_true h;go_enter func104,ntmps104;go_wp2;go_ret;exact ⟨J,(Zr_ _ _).alloc _⟩
theorem may_x (op n:Int) (x:Nat) (len:Int) (h1:0 < op) (h2:op<=20) (h3:op≠1) (h:Zq x≠0) (w:W):Calls N 104 #[A9 #[U Y op,U Y n,Z V x],U Y len] w (U2 false w):=by
 have d1:decide (op<=0)=false:=D9 (by omega);have d2:decide (20 < op)=false:=D9 (by omega);have d3:(op==1)=false:=by simp [h3]
 have d3':(op !=1)=true:=by simp [h3]
 have d4:((Zq x:Int)==(Zq 0:Int))=false:=by
  rw [show Zq 0=0 by decide+kernel];simp [h]
 go_enter func104,ntmps104;go_wp2_with fail;refine (Qe _ _ _).mono ?_;rintro e w1 ⟨rfl,rfl⟩;rw [d4];go_wp2;go_ret;exact ⟨J,(Zr_ _ _).alloc _⟩
theorem may1 (n:Int) (x:Nat) (len:Int) (w:W):Calls N 104 #[A9 #[U Y 1,U Y n,Z V x],U Y len] w (U2 (n==0) w):=by
 have hx:=rix1;have hf:∀ w,(Instr.field 227 (A9 #[.string {data:=#[112,117,115,104]},U Y (-2),U Y 0,U Y 1]) 1).run N w=.ok (U Y (-2)) w:=by intro w;kernel_rfl
 have d4:((Zq x:Int)==(Zq 0:Int))=((Zq x:Int)==(Zq 0:Int)):=J;have c0:(w.alloc (X #[U Y 1,U Y n,Z V x] 106)).cell? ⟨w.heap.size,0,O⟩=I (U Y 1):=Za (Zc _ _) J;have c1:(w.alloc (X #[U Y 1,U Y n,Z V x] 106)).cell? ⟨w.heap.size,1,O⟩=I (U Y n):=Za (Zc _ _) J;go_enter func104,ntmps104;go_wp2_with fail
 go_region_held3 (λ wx=>wx.cell? ⟨w.heap.size,0,O⟩=I (U Y 1)/\wx.cell? ⟨w.heap.size,1,O⟩=I (U Y n)/\Ze [] (w.alloc (X #[U Y 1,U Y n,Z V x] 106)) wx)
  (first|exact ⟨c0,c1,(Zr_ _ _).drew⟩|exact ⟨e0,e1,D2⟩|assumption)
  (first|(go_at_call 132;refine (Yo _).mono ?_;rintro e w2 ⟨rfl,D1⟩;have D2:Ze [] (w.alloc (X #[U Y 1,U Y n,Z V x] 106)) w2:=((Zr_ _ _).drew).trans D1;have e0:w2.cell? ⟨w.heap.size,0,O⟩=I (U Y 1):=Za (D2.at (Zc _ _) (by simp)) J;have e1:w2.cell? ⟨w.heap.size,1,O⟩=I (U Y n):=Za (D2.at (Zc _ _) (by simp)) J))
 all_goals
  rename_i hH;obtain ⟨f0,f1,D3⟩:=hH;go_wp2;go_ret;exact ⟨J,((Zr_ _ _).alloc _).trans D3⟩
theorem may2 (n:Int) (x:Nat) (len:Int) (h:Zq x=0) (w:W):Calls N 104 #[A9 #[U Y 2,U Y n,Z V x],U Y len] w (U2 (n==0) w):=by
 have hx:=rix2;have hf:∀ w,(Instr.field 227 (A9 #[.string {data:=#[100,114,111,112]},U Y (-2),U Y 1,U Y 0]) 1).run N w=.ok (U Y (-2)) w:=by intro w;kernel_rfl
 have d4:((Zq x:Int)==(Zq 0:Int))=true:=by rw [h];decide+kernel
 have c0:(w.alloc (X #[U Y 2,U Y n,Z V x] 106)).cell? ⟨w.heap.size,0,O⟩=I (U Y 2):=Za (Zc _ _) J;have c1:(w.alloc (X #[U Y 2,U Y n,Z V x] 106)).cell? ⟨w.heap.size,1,O⟩=I (U Y n):=Za (Zc _ _) J;go_enter func104,ntmps104;go_wp2_with fail;refine (Qe _ _ _).mono ?_;rintro e w1 ⟨rfl,rfl⟩;rw [d4];go_wp2_with fail
 go_region_held3 (λ wx=>wx.cell? ⟨w.heap.size,0,O⟩=I (U Y 2)/\wx.cell? ⟨w.heap.size,1,O⟩=I (U Y n)/\Ze [] (w.alloc (X #[U Y 2,U Y n,Z V x] 106)) wx)
  (first|exact ⟨c0,c1,(Zr_ _ _).drew⟩|exact ⟨e0,e1,D2⟩|assumption)
  (first|(go_at_call 132;refine (Yo _).mono ?_;rintro e w2 ⟨rfl,D1⟩;have D2:Ze [] (w.alloc (X #[U Y 2,U Y n,Z V x] 106)) w2:=((Zr_ _ _).drew).trans D1;have e0:w2.cell? ⟨w.heap.size,0,O⟩=I (U Y 2):=Za (D2.at (Zc _ _) (by simp)) J;have e1:w2.cell? ⟨w.heap.size,1,O⟩=I (U Y n):=Za (D2.at (Zc _ _) (by simp)) J))
 all_goals
  rename_i hH;obtain ⟨f0,f1,D3⟩:=hH;go_wp2;go_ret;exact ⟨J,((Zr_ _ _).alloc _).trans D3⟩
theorem may3 (n:Int) (x:Nat) (len:Int) (h:Zq x=0) (w:W):Calls N 104 #[A9 #[U Y 3,U Y n,Z V x],U Y len] w (U2 (n==0) w):=by
 have hx:=rix3;have hf:∀ w,(Instr.field 227 (A9 #[.string {data:=#[100,117,112]},U Y (-2),U Y 1,U Y 2]) 1).run N w=.ok (U Y (-2)) w:=by intro w;kernel_rfl
 have d4:((Zq x:Int)==(Zq 0:Int))=true:=by rw [h];decide+kernel
 have c0:(w.alloc (X #[U Y 3,U Y n,Z V x] 106)).cell? ⟨w.heap.size,0,O⟩=I (U Y 3):=Za (Zc _ _) J;have c1:(w.alloc (X #[U Y 3,U Y n,Z V x] 106)).cell? ⟨w.heap.size,1,O⟩=I (U Y n):=Za (Zc _ _) J;go_enter func104,ntmps104;go_wp2_with fail;refine (Qe _ _ _).mono ?_;rintro e w1 ⟨rfl,rfl⟩;rw [d4];go_wp2_with fail
 go_region_held3 (λ wx=>wx.cell? ⟨w.heap.size,0,O⟩=I (U Y 3)/\wx.cell? ⟨w.heap.size,1,O⟩=I (U Y n)/\Ze [] (w.alloc (X #[U Y 3,U Y n,Z V x] 106)) wx)
  (first|exact ⟨c0,c1,(Zr_ _ _).drew⟩|exact ⟨e0,e1,D2⟩|assumption)
  (first|(go_at_call 132;refine (Yo _).mono ?_;rintro e w2 ⟨rfl,D1⟩;have D2:Ze [] (w.alloc (X #[U Y 3,U Y n,Z V x] 106)) w2:=((Zr_ _ _).drew).trans D1;have e0:w2.cell? ⟨w.heap.size,0,O⟩=I (U Y 3):=Za (D2.at (Zc _ _) (by simp)) J;have e1:w2.cell? ⟨w.heap.size,1,O⟩=I (U Y n):=Za (D2.at (Zc _ _) (by simp)) J))
 all_goals
  rename_i hH;obtain ⟨f0,f1,D3⟩:=hH;go_wp2;go_ret;exact ⟨J,((Zr_ _ _).alloc _).trans D3⟩
theorem may4 (n:Int) (x:Nat) (len:Int) (h:Zq x=0) (w:W):Calls N 104 #[A9 #[U Y 4,U Y n,Z V x],U Y len] w (U2 (n==0) w):=by
 have hx:=rix4;have hf:∀ w,(Instr.field 227 (A9 #[.string {data:=#[115,119,97,112]},U Y (-2),U Y 2,U Y 2]) 1).run N w=.ok (U Y (-2)) w:=by intro w;kernel_rfl
 have d4:((Zq x:Int)==(Zq 0:Int))=true:=by rw [h];decide+kernel
 have c0:(w.alloc (X #[U Y 4,U Y n,Z V x] 106)).cell? ⟨w.heap.size,0,O⟩=I (U Y 4):=Za (Zc _ _) J;have c1:(w.alloc (X #[U Y 4,U Y n,Z V x] 106)).cell? ⟨w.heap.size,1,O⟩=I (U Y n):=Za (Zc _ _) J;go_enter func104,ntmps104;go_wp2_with fail;refine (Qe _ _ _).mono ?_;rintro e w1 ⟨rfl,rfl⟩;rw [d4];go_wp2_with fail
 go_region_held3 (λ wx=>wx.cell? ⟨w.heap.size,0,O⟩=I (U Y 4)/\wx.cell? ⟨w.heap.size,1,O⟩=I (U Y n)/\Ze [] (w.alloc (X #[U Y 4,U Y n,Z V x] 106)) wx)
  (first|exact ⟨c0,c1,(Zr_ _ _).drew⟩|exact ⟨e0,e1,D2⟩|assumption)
  (first|(go_at_call 132;refine (Yo _).mono ?_;rintro e w2 ⟨rfl,D1⟩;have D2:Ze [] (w.alloc (X #[U Y 4,U Y n,Z V x] 106)) w2:=((Zr_ _ _).drew).trans D1;have e0:w2.cell? ⟨w.heap.size,0,O⟩=I (U Y 4):=Za (D2.at (Zc _ _) (by simp)) J;have e1:w2.cell? ⟨w.heap.size,1,O⟩=I (U Y n):=Za (D2.at (Zc _ _) (by simp)) J))
 all_goals
  rename_i hH;obtain ⟨f0,f1,D3⟩:=hH;go_wp2;go_ret;exact ⟨J,((Zr_ _ _).alloc _).trans D3⟩
theorem may5 (n:Int) (x:Nat) (len:Int) (h:Zq x=0) (w:W):Calls N 104 #[A9 #[U Y 5,U Y n,Z V x],U Y len] w (U2 (decide (0<=n)&&decide (n<=63)) w):=by
 have hx:=rix5;have hf:∀ w,(Instr.field 227 (A9 #[.string {data:=#[112,105,99,107]},U Y 63,U Y 0,U Y 1]) 1).run N w=.ok (U Y 63) w:=by intro w;kernel_rfl
 have d4:((Zq x:Int)==(Zq 0:Int))=true:=by rw [h];decide+kernel
 have c0:(w.alloc (X #[U Y 5,U Y n,Z V x] 106)).cell? ⟨w.heap.size,0,O⟩=I (U Y 5):=Za (Zc _ _) J;have c1:(w.alloc (X #[U Y 5,U Y n,Z V x] 106)).cell? ⟨w.heap.size,1,O⟩=I (U Y n):=Za (Zc _ _) J;go_enter func104,ntmps104;go_wp2_with fail;refine (Qe _ _ _).mono ?_;rintro e w1 ⟨rfl,rfl⟩;rw [d4];go_wp2_with fail
 go_region_held3 (λ wx=>wx.cell? ⟨w.heap.size,0,O⟩=I (U Y 5)/\wx.cell? ⟨w.heap.size,1,O⟩=I (U Y n)/\Ze [] (w.alloc (X #[U Y 5,U Y n,Z V x] 106)) wx)
  (first|exact ⟨c0,c1,(Zr_ _ _).drew⟩|exact ⟨e0,e1,D2⟩|assumption)
  (first|(go_at_call 132;refine (Yo _).mono ?_;rintro e w2 ⟨rfl,D1⟩;have D2:Ze [] (w.alloc (X #[U Y 5,U Y n,Z V x] 106)) w2:=((Zr_ _ _).drew).trans D1;have e0:w2.cell? ⟨w.heap.size,0,O⟩=I (U Y 5):=Za (D2.at (Zc _ _) (by simp)) J;have e1:w2.cell? ⟨w.heap.size,1,O⟩=I (U Y n):=Za (D2.at (Zc _ _) (by simp)) J))
 all_goals
  rename_i hH;obtain ⟨f0,f1,D3⟩:=hH;have D4:=((Zr_ [] w).alloc _).trans D3;clear D3;cases d1:decide (0<=n)
  ·go_wp2;go_ret;exact ⟨by rw [d1];rfl,D4⟩
  ·cases d2:decide (n<=63)
   all_goals
    go_wp2;go_ret;exact ⟨by rw [d1,d2];rfl,D4⟩
theorem may6 (n:Int) (x:Nat) (len:Int) (h:Zq x=0) (w:W):Calls N 104 #[A9 #[U Y 6,U Y n,Z V x],U Y len] w (U2 (decide (0<=n)&&decide (n<=7)) w):=by
 have hx:=rix6;have hf:∀ w,(Instr.field 227 (A9 #[.string {data:=#[97,114,103]},U Y 7,U Y 0,U Y 1]) 1).run N w=.ok (U Y 7) w:=by intro w;kernel_rfl
 have d4:((Zq x:Int)==(Zq 0:Int))=true:=by rw [h];decide+kernel
 have c0:(w.alloc (X #[U Y 6,U Y n,Z V x] 106)).cell? ⟨w.heap.size,0,O⟩=I (U Y 6):=Za (Zc _ _) J;have c1:(w.alloc (X #[U Y 6,U Y n,Z V x] 106)).cell? ⟨w.heap.size,1,O⟩=I (U Y n):=Za (Zc _ _) J;go_enter func104,ntmps104;go_wp2_with fail;refine (Qe _ _ _).mono ?_;rintro e w1 ⟨rfl,rfl⟩;rw [d4];go_wp2_with fail
 go_region_held3 (λ wx=>wx.cell? ⟨w.heap.size,0,O⟩=I (U Y 6)/\wx.cell? ⟨w.heap.size,1,O⟩=I (U Y n)/\Ze [] (w.alloc (X #[U Y 6,U Y n,Z V x] 106)) wx)
  (first|exact ⟨c0,c1,(Zr_ _ _).drew⟩|exact ⟨e0,e1,D2⟩|assumption)
  (first|(go_at_call 132;refine (Yo _).mono ?_;rintro e w2 ⟨rfl,D1⟩;have D2:Ze [] (w.alloc (X #[U Y 6,U Y n,Z V x] 106)) w2:=((Zr_ _ _).drew).trans D1;have e0:w2.cell? ⟨w.heap.size,0,O⟩=I (U Y 6):=Za (D2.at (Zc _ _) (by simp)) J;have e1:w2.cell? ⟨w.heap.size,1,O⟩=I (U Y n):=Za (D2.at (Zc _ _) (by simp)) J))
 all_goals
  rename_i hH;obtain ⟨f0,f1,D3⟩:=hH;have D4:=((Zr_ [] w).alloc _).trans D3;clear D3;cases d1:decide (0<=n)
  ·go_wp2;go_ret;exact ⟨by rw [d1];rfl,D4⟩
  ·cases d2:decide (n<=7)
   all_goals
    go_wp2;go_ret;exact ⟨by rw [d1,d2];rfl,D4⟩
end
section
attribute [local go_sem] Zi
theorem may7 (n:Int) (x:Nat) (len:Int) (h:Zq x=0) (w:W):Calls N 104 #[A9 #[U Y 7,U Y n,Z V x],U Y len] w (U2 (decide (0<=n)&&decide (n<=7)) w):=by
 have hx:=rix7;have hf:∀ w,(Instr.field 227 (A9 #[.string {data:=#[103,101,116]},U Y 7,U Y 0,U Y 1]) 1).run N w=.ok (U Y 7) w:=by intro w;kernel_rfl
 have d4:((Zq x:Int)==(Zq 0:Int))=true:=by rw [h];decide+kernel
 have c0:(w.alloc (X #[U Y 7,U Y n,Z V x] 106)).cell? ⟨w.heap.size,0,O⟩=I (U Y 7):=Za (Zc _ _) J;have c1:(w.alloc (X #[U Y 7,U Y n,Z V x] 106)).cell? ⟨w.heap.size,1,O⟩=I (U Y n):=Za (Zc _ _) J;go_enter func104,ntmps104;go_wp2_with fail;refine (Qe _ _ _).mono ?_;rintro e w1 ⟨rfl,rfl⟩;rw [d4];go_wp2_with fail
 go_region_held3 (λ wx=>wx.cell? ⟨w.heap.size,0,O⟩=I (U Y 7)/\wx.cell? ⟨w.heap.size,1,O⟩=I (U Y n)/\Ze [] (w.alloc (X #[U Y 7,U Y n,Z V x] 106)) wx)
  (first|exact ⟨c0,c1,(Zr_ _ _).drew⟩|exact ⟨e0,e1,D2⟩|assumption)
  (first|(go_at_call 132;refine (Yo _).mono ?_;rintro e w2 ⟨rfl,D1⟩;have D2:Ze [] (w.alloc (X #[U Y 7,U Y n,Z V x] 106)) w2:=((Zr_ _ _).drew).trans D1;have e0:w2.cell? ⟨w.heap.size,0,O⟩=I (U Y 7):=Za (D2.at (Zc _ _) (by simp)) J;have e1:w2.cell? ⟨w.heap.size,1,O⟩=I (U Y n):=Za (D2.at (Zc _ _) (by simp)) J))
 all_goals
  rename_i hH;obtain ⟨f0,f1,D3⟩:=hH;have D4:=((Zr_ [] w).alloc _).trans D3;clear D3;cases d1:decide (0<=n)
  ·go_wp2;go_ret;exact ⟨by rw [d1];rfl,D4⟩
  ·cases d2:decide (n<=7)
   all_goals
    go_wp2;go_ret;exact ⟨by rw [d1,d2];rfl,D4⟩
theorem may8 (n:Int) (x:Nat) (len:Int) (h:Zq x=0) (w:W):Calls N 104 #[A9 #[U Y 8,U Y n,Z V x],U Y len] w (U2 (decide (0<=n)&&decide (n<=7)) w):=by
 have hx:=rix8;have hf:∀ w,(Instr.field 227 (A9 #[.string {data:=#[115,101,116]},U Y 7,U Y 1,U Y 0]) 1).run N w=.ok (U Y 7) w:=by intro w;kernel_rfl
 have d4:((Zq x:Int)==(Zq 0:Int))=true:=by rw [h];decide+kernel
 have c0:(w.alloc (X #[U Y 8,U Y n,Z V x] 106)).cell? ⟨w.heap.size,0,O⟩=I (U Y 8):=Za (Zc _ _) J;have c1:(w.alloc (X #[U Y 8,U Y n,Z V x] 106)).cell? ⟨w.heap.size,1,O⟩=I (U Y n):=Za (Zc _ _) J;go_enter func104,ntmps104;go_wp2_with fail;refine (Qe _ _ _).mono ?_;rintro e w1 ⟨rfl,rfl⟩;rw [d4];go_wp2_with fail
 go_region_held3 (λ wx=>wx.cell? ⟨w.heap.size,0,O⟩=I (U Y 8)/\wx.cell? ⟨w.heap.size,1,O⟩=I (U Y n)/\Ze [] (w.alloc (X #[U Y 8,U Y n,Z V x] 106)) wx)
  (first|exact ⟨c0,c1,(Zr_ _ _).drew⟩|exact ⟨e0,e1,D2⟩|assumption)
  (first|(go_at_call 132;refine (Yo _).mono ?_;rintro e w2 ⟨rfl,D1⟩;have D2:Ze [] (w.alloc (X #[U Y 8,U Y n,Z V x] 106)) w2:=((Zr_ _ _).drew).trans D1;have e0:w2.cell? ⟨w.heap.size,0,O⟩=I (U Y 8):=Za (D2.at (Zc _ _) (by simp)) J;have e1:w2.cell? ⟨w.heap.size,1,O⟩=I (U Y n):=Za (D2.at (Zc _ _) (by simp)) J))
 all_goals
  rename_i hH;obtain ⟨f0,f1,D3⟩:=hH;have D4:=((Zr_ [] w).alloc _).trans D3;clear D3;cases d1:decide (0<=n)
  ·go_wp2;go_ret;exact ⟨by rw [d1];rfl,D4⟩
  ·cases d2:decide (n<=7)
   all_goals
    go_wp2;go_ret;exact ⟨by rw [d1,d2];rfl,D4⟩
theorem may9 (n:Int) (x:Nat) (len:Int) (h:Zq x=0) (w:W):Calls N 104 #[A9 #[U Y 9,U Y n,Z V x],U Y len] w (U2 (decide (1<=n)&&decide (n<=8)) w):=by
 have hx:=rix9;have hf:∀ w,(Instr.field 227 (A9 #[.string {data:=#[]},U Y 8,U Y 1,U Y 1]) 1).run N w=.ok (U Y 8) w:=by intro w;kernel_rfl
 have d4:((Zq x:Int)==(Zq 0:Int))=true:=by rw [h];decide+kernel
 have c0:(w.alloc (X #[U Y 9,U Y n,Z V x] 106)).cell? ⟨w.heap.size,0,O⟩=I (U Y 9):=Za (Zc _ _) J;have c1:(w.alloc (X #[U Y 9,U Y n,Z V x] 106)).cell? ⟨w.heap.size,1,O⟩=I (U Y n):=Za (Zc _ _) J;go_enter func104,ntmps104;go_wp2_with fail;refine (Qe _ _ _).mono ?_;rintro e w1 ⟨rfl,rfl⟩;rw [d4];go_wp2_with fail
 go_region_held3 (λ wx=>wx.cell? ⟨w.heap.size,0,O⟩=I (U Y 9)/\wx.cell? ⟨w.heap.size,1,O⟩=I (U Y n)/\Ze [] (w.alloc (X #[U Y 9,U Y n,Z V x] 106)) wx)
  (first|exact ⟨c0,c1,(Zr_ _ _).drew⟩|exact ⟨e0,e1,D2⟩|assumption)
  (first|(go_at_call 132;refine (Yo _).mono ?_;rintro e w2 ⟨rfl,D1⟩;have D2:Ze [] (w.alloc (X #[U Y 9,U Y n,Z V x] 106)) w2:=((Zr_ _ _).drew).trans D1;have e0:w2.cell? ⟨w.heap.size,0,O⟩=I (U Y 9):=Za (D2.at (Zc _ _) (by simp)) J;have e1:w2.cell? ⟨w.heap.size,1,O⟩=I (U Y n):=Za (D2.at (Zc _ _) (by simp)) J))
 all_goals
  rename_i hH;obtain ⟨f0,f1,D3⟩:=hH;have D4:=((Zr_ [] w).alloc _).trans D3;clear D3;cases d1:decide (1<=n)
  ·go_wp2;go_ret;exact ⟨by rw [d1];rfl,D4⟩
  ·cases d2:decide (n<=8)
   all_goals
    go_wp2;go_ret;exact ⟨by rw [d1,d2];rfl,D4⟩
theorem may10 (n:Int) (x:Nat) (len:Int) (h:Zq x=0) (w:W):Calls N 104 #[A9 #[U Y 10,U Y n,Z V x],U Y len] w (U2 (decide (1<=n)&&decide (n<=12)) w):=by
 have hx:=rix10;have hf:∀ w,(Instr.field 227 (A9 #[.string {data:=#[]},U Y 12,U Y 2,U Y 1]) 1).run N w=.ok (U Y 12) w:=by intro w;kernel_rfl
 have d4:((Zq x:Int)==(Zq 0:Int))=true:=by rw [h];decide+kernel
 have c0:(w.alloc (X #[U Y 10,U Y n,Z V x] 106)).cell? ⟨w.heap.size,0,O⟩=I (U Y 10):=Za (Zc _ _) J;have c1:(w.alloc (X #[U Y 10,U Y n,Z V x] 106)).cell? ⟨w.heap.size,1,O⟩=I (U Y n):=Za (Zc _ _) J;go_enter func104,ntmps104;go_wp2_with fail;refine (Qe _ _ _).mono ?_;rintro e w1 ⟨rfl,rfl⟩;rw [d4];go_wp2_with fail
 go_region_held3 (λ wx=>wx.cell? ⟨w.heap.size,0,O⟩=I (U Y 10)/\wx.cell? ⟨w.heap.size,1,O⟩=I (U Y n)/\Ze [] (w.alloc (X #[U Y 10,U Y n,Z V x] 106)) wx)
  (first|exact ⟨c0,c1,(Zr_ _ _).drew⟩|exact ⟨e0,e1,D2⟩|assumption)
  (first|(go_at_call 132;refine (Yo _).mono ?_;rintro e w2 ⟨rfl,D1⟩;have D2:Ze [] (w.alloc (X #[U Y 10,U Y n,Z V x] 106)) w2:=((Zr_ _ _).drew).trans D1;have e0:w2.cell? ⟨w.heap.size,0,O⟩=I (U Y 10):=Za (D2.at (Zc _ _) (by simp)) J;have e1:w2.cell? ⟨w.heap.size,1,O⟩=I (U Y n):=Za (D2.at (Zc _ _) (by simp)) J))
 all_goals
  rename_i hH;obtain ⟨f0,f1,D3⟩:=hH;have D4:=((Zr_ [] w).alloc _).trans D3;clear D3;cases d1:decide (1<=n)
  ·go_wp2;go_ret;exact ⟨by rw [d1];rfl,D4⟩
  ·cases d2:decide (n<=12)
   all_goals
    go_wp2;go_ret;exact ⟨by rw [d1,d2];rfl,D4⟩
theorem may11 (n:Int) (x:Nat) (len:Int) (h:Zq x=0) (w:W):Calls N 104 #[A9 #[U Y 11,U Y n,Z V x],U Y len] w (U2 (decide (0<=n)&&decide (n < len)) w):=by
 have hx:=rix11;have hf:∀ w,(Instr.field 227 (A9 #[.string {data:=#[106,117,109,112]},U Y (-1),U Y 0,U Y 0]) 1).run N w=.ok (U Y (-1)) w:=by intro w;kernel_rfl
 have d4:((Zq x:Int)==(Zq 0:Int))=true:=by rw [h];decide+kernel
 have c0:(w.alloc (X #[U Y 11,U Y n,Z V x] 106)).cell? ⟨w.heap.size,0,O⟩=I (U Y 11):=Za (Zc _ _) J;have c1:(w.alloc (X #[U Y 11,U Y n,Z V x] 106)).cell? ⟨w.heap.size,1,O⟩=I (U Y n):=Za (Zc _ _) J;go_enter func104,ntmps104;go_wp2_with fail;refine (Qe _ _ _).mono ?_;rintro e w1 ⟨rfl,rfl⟩;rw [d4];go_wp2_with fail
 go_region_held3 (λ wx=>wx.cell? ⟨w.heap.size,0,O⟩=I (U Y 11)/\wx.cell? ⟨w.heap.size,1,O⟩=I (U Y n)/\Ze [] (w.alloc (X #[U Y 11,U Y n,Z V x] 106)) wx)
  (first|exact ⟨c0,c1,(Zr_ _ _).drew⟩|exact ⟨e0,e1,D2⟩|assumption)
  (first|(go_at_call 132;refine (Yo _).mono ?_;rintro e w2 ⟨rfl,D1⟩;have D2:Ze [] (w.alloc (X #[U Y 11,U Y n,Z V x] 106)) w2:=((Zr_ _ _).drew).trans D1;have e0:w2.cell? ⟨w.heap.size,0,O⟩=I (U Y 11):=Za (D2.at (Zc _ _) (by simp)) J;have e1:w2.cell? ⟨w.heap.size,1,O⟩=I (U Y n):=Za (D2.at (Zc _ _) (by simp)) J))
 all_goals
  rename_i hH;obtain ⟨f0,f1,D3⟩:=hH;have D4:=((Zr_ [] w).alloc _).trans D3;clear D3;cases d1:decide (0<=n)
  ·go_wp2;go_ret;exact ⟨by rw [d1];rfl,D4⟩
  ·cases d2:decide (n < len)
   all_goals
    go_wp2;go_ret;exact ⟨by rw [d1,d2];rfl,D4⟩
theorem may12 (n:Int) (x:Nat) (len:Int) (h:Zq x=0) (w:W):Calls N 104 #[A9 #[U Y 12,U Y n,Z V x],U Y len] w (U2 (decide (0<=n)&&decide (n < len)) w):=by
 have hx:=rix12;have hf:∀ w,(Instr.field 227 (A9 #[.string {data:=#[105,102]},U Y (-1),U Y 1,U Y 0]) 1).run N w=.ok (U Y (-1)) w:=by intro w;kernel_rfl
 have d4:((Zq x:Int)==(Zq 0:Int))=true:=by rw [h];decide+kernel
 have c0:(w.alloc (X #[U Y 12,U Y n,Z V x] 106)).cell? ⟨w.heap.size,0,O⟩=I (U Y 12):=Za (Zc _ _) J;have c1:(w.alloc (X #[U Y 12,U Y n,Z V x] 106)).cell? ⟨w.heap.size,1,O⟩=I (U Y n):=Za (Zc _ _) J;go_enter func104,ntmps104;go_wp2_with fail;refine (Qe _ _ _).mono ?_;rintro e w1 ⟨rfl,rfl⟩;rw [d4];go_wp2_with fail
 go_region_held3 (λ wx=>wx.cell? ⟨w.heap.size,0,O⟩=I (U Y 12)/\wx.cell? ⟨w.heap.size,1,O⟩=I (U Y n)/\Ze [] (w.alloc (X #[U Y 12,U Y n,Z V x] 106)) wx)
  (first|exact ⟨c0,c1,(Zr_ _ _).drew⟩|exact ⟨e0,e1,D2⟩|assumption)
  (first|(go_at_call 132;refine (Yo _).mono ?_;rintro e w2 ⟨rfl,D1⟩;have D2:Ze [] (w.alloc (X #[U Y 12,U Y n,Z V x] 106)) w2:=((Zr_ _ _).drew).trans D1;have e0:w2.cell? ⟨w.heap.size,0,O⟩=I (U Y 12):=Za (D2.at (Zc _ _) (by simp)) J;have e1:w2.cell? ⟨w.heap.size,1,O⟩=I (U Y n):=Za (D2.at (Zc _ _) (by simp)) J))
 all_goals
  rename_i hH;obtain ⟨f0,f1,D3⟩:=hH;have D4:=((Zr_ [] w).alloc _).trans D3;clear D3;cases d1:decide (0<=n)
  ·go_wp2;go_ret;exact ⟨by rw [d1];rfl,D4⟩
  ·cases d2:decide (n < len)
   all_goals
    go_wp2;go_ret;exact ⟨by rw [d1,d2];rfl,D4⟩
theorem may13 (n:Int) (x:Nat) (len:Int) (h:Zq x=0) (w:W):Calls N 104 #[A9 #[U Y 13,U Y n,Z V x],U Y len] w (U2 (decide (0<=n)&&decide (n < len)) w):=by
 have hx:=rix13;have hf:∀ w,(Instr.field 227 (A9 #[.string {data:=#[117,110,108,101,115,115]},U Y (-1),U Y 1,U Y 0]) 1).run N w=.ok (U Y (-1)) w:=by intro w;kernel_rfl
 have d4:((Zq x:Int)==(Zq 0:Int))=true:=by rw [h];decide+kernel
 have c0:(w.alloc (X #[U Y 13,U Y n,Z V x] 106)).cell? ⟨w.heap.size,0,O⟩=I (U Y 13):=Za (Zc _ _) J;have c1:(w.alloc (X #[U Y 13,U Y n,Z V x] 106)).cell? ⟨w.heap.size,1,O⟩=I (U Y n):=Za (Zc _ _) J;go_enter func104,ntmps104;go_wp2_with fail;refine (Qe _ _ _).mono ?_;rintro e w1 ⟨rfl,rfl⟩;rw [d4];go_wp2_with fail
 go_region_held3 (λ wx=>wx.cell? ⟨w.heap.size,0,O⟩=I (U Y 13)/\wx.cell? ⟨w.heap.size,1,O⟩=I (U Y n)/\Ze [] (w.alloc (X #[U Y 13,U Y n,Z V x] 106)) wx)
  (first|exact ⟨c0,c1,(Zr_ _ _).drew⟩|exact ⟨e0,e1,D2⟩|assumption)
  (first|(go_at_call 132;refine (Yo _).mono ?_;rintro e w2 ⟨rfl,D1⟩;have D2:Ze [] (w.alloc (X #[U Y 13,U Y n,Z V x] 106)) w2:=((Zr_ _ _).drew).trans D1;have e0:w2.cell? ⟨w.heap.size,0,O⟩=I (U Y 13):=Za (D2.at (Zc _ _) (by simp)) J;have e1:w2.cell? ⟨w.heap.size,1,O⟩=I (U Y n):=Za (D2.at (Zc _ _) (by simp)) J))
 all_goals
  rename_i hH;obtain ⟨f0,f1,D3⟩:=hH;have D4:=((Zr_ [] w).alloc _).trans D3;clear D3;cases d1:decide (0<=n)
  ·go_wp2;go_ret;exact ⟨by rw [d1];rfl,D4⟩
  ·cases d2:decide (n < len)
   all_goals
    go_wp2;go_ret;exact ⟨by rw [d1,d2];rfl,D4⟩
end
section
attribute [local go_sem] Zi
theorem may14 (n:Int) (x:Nat) (len:Int) (h:Zq x=0) (w:W):Calls N 104 #[A9 #[U Y 14,U Y n,Z V x],U Y len] w (U2 (decide (0<=n)&&decide (n < len)) w):=by
 have hx:=rix14;have hf:∀ w,(Instr.field 227 (A9 #[.string {data:=#[99,97,108,108]},U Y (-1),U Y 0,U Y 0]) 1).run N w=.ok (U Y (-1)) w:=by intro w;kernel_rfl
 have d4:((Zq x:Int)==(Zq 0:Int))=true:=by rw [h];decide+kernel
 have c0:(w.alloc (X #[U Y 14,U Y n,Z V x] 106)).cell? ⟨w.heap.size,0,O⟩=I (U Y 14):=Za (Zc _ _) J;have c1:(w.alloc (X #[U Y 14,U Y n,Z V x] 106)).cell? ⟨w.heap.size,1,O⟩=I (U Y n):=Za (Zc _ _) J;go_enter func104,ntmps104;go_wp2_with fail;refine (Qe _ _ _).mono ?_;rintro e w1 ⟨rfl,rfl⟩;rw [d4];go_wp2_with fail
 go_region_held3 (λ wx=>wx.cell? ⟨w.heap.size,0,O⟩=I (U Y 14)/\wx.cell? ⟨w.heap.size,1,O⟩=I (U Y n)/\Ze [] (w.alloc (X #[U Y 14,U Y n,Z V x] 106)) wx)
  (first|exact ⟨c0,c1,(Zr_ _ _).drew⟩|exact ⟨e0,e1,D2⟩|assumption)
  (first|(go_at_call 132;refine (Yo _).mono ?_;rintro e w2 ⟨rfl,D1⟩;have D2:Ze [] (w.alloc (X #[U Y 14,U Y n,Z V x] 106)) w2:=((Zr_ _ _).drew).trans D1;have e0:w2.cell? ⟨w.heap.size,0,O⟩=I (U Y 14):=Za (D2.at (Zc _ _) (by simp)) J;have e1:w2.cell? ⟨w.heap.size,1,O⟩=I (U Y n):=Za (D2.at (Zc _ _) (by simp)) J))
 all_goals
  rename_i hH;obtain ⟨f0,f1,D3⟩:=hH;have D4:=((Zr_ [] w).alloc _).trans D3;clear D3;cases d1:decide (0<=n)
  ·go_wp2;go_ret;exact ⟨by rw [d1];rfl,D4⟩
  ·cases d2:decide (n < len)
   all_goals
    go_wp2;go_ret;exact ⟨by rw [d1,d2];rfl,D4⟩
theorem may15 (n:Int) (x:Nat) (len:Int) (h:Zq x=0) (w:W):Calls N 104 #[A9 #[U Y 15,U Y n,Z V x],U Y len] w (U2 (n==0) w):=by
 have hx:=rix15;have hf:∀ w,(Instr.field 227 (A9 #[.string {data:=#[114,101,116]},U Y (-2),U Y 0,U Y 0]) 1).run N w=.ok (U Y (-2)) w:=by intro w;kernel_rfl
 have d4:((Zq x:Int)==(Zq 0:Int))=true:=by rw [h];decide+kernel
 have c0:(w.alloc (X #[U Y 15,U Y n,Z V x] 106)).cell? ⟨w.heap.size,0,O⟩=I (U Y 15):=Za (Zc _ _) J;have c1:(w.alloc (X #[U Y 15,U Y n,Z V x] 106)).cell? ⟨w.heap.size,1,O⟩=I (U Y n):=Za (Zc _ _) J;go_enter func104,ntmps104;go_wp2_with fail;refine (Qe _ _ _).mono ?_;rintro e w1 ⟨rfl,rfl⟩;rw [d4];go_wp2_with fail
 go_region_held3 (λ wx=>wx.cell? ⟨w.heap.size,0,O⟩=I (U Y 15)/\wx.cell? ⟨w.heap.size,1,O⟩=I (U Y n)/\Ze [] (w.alloc (X #[U Y 15,U Y n,Z V x] 106)) wx)
  (first|exact ⟨c0,c1,(Zr_ _ _).drew⟩|exact ⟨e0,e1,D2⟩|assumption)
  (first|(go_at_call 132;refine (Yo _).mono ?_;rintro e w2 ⟨rfl,D1⟩;have D2:Ze [] (w.alloc (X #[U Y 15,U Y n,Z V x] 106)) w2:=((Zr_ _ _).drew).trans D1;have e0:w2.cell? ⟨w.heap.size,0,O⟩=I (U Y 15):=Za (D2.at (Zc _ _) (by simp)) J;have e1:w2.cell? ⟨w.heap.size,1,O⟩=I (U Y n):=Za (D2.at (Zc _ _) (by simp)) J))
 all_goals
  rename_i hH;obtain ⟨f0,f1,D3⟩:=hH;go_wp2;go_ret;exact ⟨J,((Zr_ _ _).alloc _).trans D3⟩
theorem may16 (n:Int) (x:Nat) (len:Int) (h:Zq x=0) (w:W):Calls N 104 #[A9 #[U Y 16,U Y n,Z V x],U Y len] w (U2 (n==0) w):=by
 have hx:=rix16;have hf:∀ w,(Instr.field 227 (A9 #[.string {data:=#[114,101,97,100]},U Y (-2),U Y 1,U Y 1]) 1).run N w=.ok (U Y (-2)) w:=by intro w;kernel_rfl
 have d4:((Zq x:Int)==(Zq 0:Int))=true:=by rw [h];decide+kernel
 have c0:(w.alloc (X #[U Y 16,U Y n,Z V x] 106)).cell? ⟨w.heap.size,0,O⟩=I (U Y 16):=Za (Zc _ _) J;have c1:(w.alloc (X #[U Y 16,U Y n,Z V x] 106)).cell? ⟨w.heap.size,1,O⟩=I (U Y n):=Za (Zc _ _) J;go_enter func104,ntmps104;go_wp2_with fail;refine (Qe _ _ _).mono ?_;rintro e w1 ⟨rfl,rfl⟩;rw [d4];go_wp2_with fail
 go_region_held3 (λ wx=>wx.cell? ⟨w.heap.size,0,O⟩=I (U Y 16)/\wx.cell? ⟨w.heap.size,1,O⟩=I (U Y n)/\Ze [] (w.alloc (X #[U Y 16,U Y n,Z V x] 106)) wx)
  (first|exact ⟨c0,c1,(Zr_ _ _).drew⟩|exact ⟨e0,e1,D2⟩|assumption)
  (first|(go_at_call 132;refine (Yo _).mono ?_;rintro e w2 ⟨rfl,D1⟩;have D2:Ze [] (w.alloc (X #[U Y 16,U Y n,Z V x] 106)) w2:=((Zr_ _ _).drew).trans D1;have e0:w2.cell? ⟨w.heap.size,0,O⟩=I (U Y 16):=Za (D2.at (Zc _ _) (by simp)) J;have e1:w2.cell? ⟨w.heap.size,1,O⟩=I (U Y n):=Za (D2.at (Zc _ _) (by simp)) J))
 all_goals
  rename_i hH;obtain ⟨f0,f1,D3⟩:=hH;go_wp2;go_ret;exact ⟨J,((Zr_ _ _).alloc _).trans D3⟩
theorem may17 (n:Int) (x:Nat) (len:Int) (h:Zq x=0) (w:W):Calls N 104 #[A9 #[U Y 17,U Y n,Z V x],U Y len] w (U2 (n==0) w):=by
 have hx:=rix17;have hf:∀ w,(Instr.field 227 (A9 #[.string {data:=#[119,114,105,116,101]},U Y (-2),U Y 2,U Y 0]) 1).run N w=.ok (U Y (-2)) w:=by intro w;kernel_rfl
 have d4:((Zq x:Int)==(Zq 0:Int))=true:=by rw [h];decide+kernel
 have c0:(w.alloc (X #[U Y 17,U Y n,Z V x] 106)).cell? ⟨w.heap.size,0,O⟩=I (U Y 17):=Za (Zc _ _) J;have c1:(w.alloc (X #[U Y 17,U Y n,Z V x] 106)).cell? ⟨w.heap.size,1,O⟩=I (U Y n):=Za (Zc _ _) J;go_enter func104,ntmps104;go_wp2_with fail;refine (Qe _ _ _).mono ?_;rintro e w1 ⟨rfl,rfl⟩;rw [d4];go_wp2_with fail
 go_region_held3 (λ wx=>wx.cell? ⟨w.heap.size,0,O⟩=I (U Y 17)/\wx.cell? ⟨w.heap.size,1,O⟩=I (U Y n)/\Ze [] (w.alloc (X #[U Y 17,U Y n,Z V x] 106)) wx)
  (first|exact ⟨c0,c1,(Zr_ _ _).drew⟩|exact ⟨e0,e1,D2⟩|assumption)
  (first|(go_at_call 132;refine (Yo _).mono ?_;rintro e w2 ⟨rfl,D1⟩;have D2:Ze [] (w.alloc (X #[U Y 17,U Y n,Z V x] 106)) w2:=((Zr_ _ _).drew).trans D1;have e0:w2.cell? ⟨w.heap.size,0,O⟩=I (U Y 17):=Za (D2.at (Zc _ _) (by simp)) J;have e1:w2.cell? ⟨w.heap.size,1,O⟩=I (U Y n):=Za (D2.at (Zc _ _) (by simp)) J))
 all_goals
  rename_i hH;obtain ⟨f0,f1,D3⟩:=hH;go_wp2;go_ret;exact ⟨J,((Zr_ _ _).alloc _).trans D3⟩
theorem may18 (n:Int) (x:Nat) (len:Int) (h:Zq x=0) (w:W):Calls N 104 #[A9 #[U Y 18,U Y n,Z V x],U Y len] w (U2 (n==0) w):=by
 have hx:=rix18;have hf:∀ w,(Instr.field 227 (A9 #[.string {data:=#[101,109,105,116]},U Y (-2),U Y 1,U Y 0]) 1).run N w=.ok (U Y (-2)) w:=by intro w;kernel_rfl
 have d4:((Zq x:Int)==(Zq 0:Int))=true:=by rw [h];decide+kernel
 have c0:(w.alloc (X #[U Y 18,U Y n,Z V x] 106)).cell? ⟨w.heap.size,0,O⟩=I (U Y 18):=Za (Zc _ _) J;have c1:(w.alloc (X #[U Y 18,U Y n,Z V x] 106)).cell? ⟨w.heap.size,1,O⟩=I (U Y n):=Za (Zc _ _) J;go_enter func104,ntmps104;go_wp2_with fail;refine (Qe _ _ _).mono ?_;rintro e w1 ⟨rfl,rfl⟩;rw [d4];go_wp2_with fail
 go_region_held3 (λ wx=>wx.cell? ⟨w.heap.size,0,O⟩=I (U Y 18)/\wx.cell? ⟨w.heap.size,1,O⟩=I (U Y n)/\Ze [] (w.alloc (X #[U Y 18,U Y n,Z V x] 106)) wx)
  (first|exact ⟨c0,c1,(Zr_ _ _).drew⟩|exact ⟨e0,e1,D2⟩|assumption)
  (first|(go_at_call 132;refine (Yo _).mono ?_;rintro e w2 ⟨rfl,D1⟩;have D2:Ze [] (w.alloc (X #[U Y 18,U Y n,Z V x] 106)) w2:=((Zr_ _ _).drew).trans D1;have e0:w2.cell? ⟨w.heap.size,0,O⟩=I (U Y 18):=Za (D2.at (Zc _ _) (by simp)) J;have e1:w2.cell? ⟨w.heap.size,1,O⟩=I (U Y n):=Za (D2.at (Zc _ _) (by simp)) J))
 all_goals
  rename_i hH;obtain ⟨f0,f1,D3⟩:=hH;go_wp2;go_ret;exact ⟨J,((Zr_ _ _).alloc _).trans D3⟩
theorem may19 (n:Int) (x:Nat) (len:Int) (h:Zq x=0) (w:W):Calls N 104 #[A9 #[U Y 19,U Y n,Z V x],U Y len] w (U2 (decide (0<=n)&&decide (n<=99)) w):=by
 have hx:=rix19;have hf:∀ w,(Instr.field 227 (A9 #[.string {data:=#[97,98,111,114,116]},U Y 99,U Y 0,U Y 0]) 1).run N w=.ok (U Y 99) w:=by intro w;kernel_rfl
 have d4:((Zq x:Int)==(Zq 0:Int))=true:=by rw [h];decide+kernel
 have c0:(w.alloc (X #[U Y 19,U Y n,Z V x] 106)).cell? ⟨w.heap.size,0,O⟩=I (U Y 19):=Za (Zc _ _) J;have c1:(w.alloc (X #[U Y 19,U Y n,Z V x] 106)).cell? ⟨w.heap.size,1,O⟩=I (U Y n):=Za (Zc _ _) J;go_enter func104,ntmps104;go_wp2_with fail;refine (Qe _ _ _).mono ?_;rintro e w1 ⟨rfl,rfl⟩;rw [d4];go_wp2_with fail
 go_region_held3 (λ wx=>wx.cell? ⟨w.heap.size,0,O⟩=I (U Y 19)/\wx.cell? ⟨w.heap.size,1,O⟩=I (U Y n)/\Ze [] (w.alloc (X #[U Y 19,U Y n,Z V x] 106)) wx)
  (first|exact ⟨c0,c1,(Zr_ _ _).drew⟩|exact ⟨e0,e1,D2⟩|assumption)
  (first|(go_at_call 132;refine (Yo _).mono ?_;rintro e w2 ⟨rfl,D1⟩;have D2:Ze [] (w.alloc (X #[U Y 19,U Y n,Z V x] 106)) w2:=((Zr_ _ _).drew).trans D1;have e0:w2.cell? ⟨w.heap.size,0,O⟩=I (U Y 19):=Za (D2.at (Zc _ _) (by simp)) J;have e1:w2.cell? ⟨w.heap.size,1,O⟩=I (U Y n):=Za (D2.at (Zc _ _) (by simp)) J))
 all_goals
  rename_i hH;obtain ⟨f0,f1,D3⟩:=hH;have D4:=((Zr_ [] w).alloc _).trans D3;clear D3;cases d1:decide (0<=n)
  ·go_wp2;go_ret;exact ⟨by rw [d1];rfl,D4⟩
  ·cases d2:decide (n<=99)
   all_goals
    go_wp2;go_ret;exact ⟨by rw [d1,d2];rfl,D4⟩
theorem may20 (n:Int) (x:Nat) (len:Int) (h:Zq x=0) (w:W):Calls N 104 #[A9 #[U Y 20,U Y n,Z V x],U Y len] w (U2 (n==0) w):=by
 have hx:=rix20;have hf:∀ w,(Instr.field 227 (A9 #[.string {data:=#[104,97,108,116]},U Y (-2),U Y 0,U Y 0]) 1).run N w=.ok (U Y (-2)) w:=by intro w;kernel_rfl
 have d4:((Zq x:Int)==(Zq 0:Int))=true:=by rw [h];decide+kernel
 have c0:(w.alloc (X #[U Y 20,U Y n,Z V x] 106)).cell? ⟨w.heap.size,0,O⟩=I (U Y 20):=Za (Zc _ _) J;have c1:(w.alloc (X #[U Y 20,U Y n,Z V x] 106)).cell? ⟨w.heap.size,1,O⟩=I (U Y n):=Za (Zc _ _) J;go_enter func104,ntmps104;go_wp2_with fail;refine (Qe _ _ _).mono ?_;rintro e w1 ⟨rfl,rfl⟩;rw [d4];go_wp2_with fail
 go_region_held3 (λ wx=>wx.cell? ⟨w.heap.size,0,O⟩=I (U Y 20)/\wx.cell? ⟨w.heap.size,1,O⟩=I (U Y n)/\Ze [] (w.alloc (X #[U Y 20,U Y n,Z V x] 106)) wx)
  (first|exact ⟨c0,c1,(Zr_ _ _).drew⟩|exact ⟨e0,e1,D2⟩|assumption)
  (first|(go_at_call 132;refine (Yo _).mono ?_;rintro e w2 ⟨rfl,D1⟩;have D2:Ze [] (w.alloc (X #[U Y 20,U Y n,Z V x] 106)) w2:=((Zr_ _ _).drew).trans D1;have e0:w2.cell? ⟨w.heap.size,0,O⟩=I (U Y 20):=Za (D2.at (Zc _ _) (by simp)) J;have e1:w2.cell? ⟨w.heap.size,1,O⟩=I (U Y n):=Za (D2.at (Zc _ _) (by simp)) J))
 all_goals
  rename_i hH;obtain ⟨f0,f1,D3⟩:=hH;go_wp2;go_ret;exact ⟨J,((Zr_ _ _).alloc _).trans D3⟩
end
section
attribute [local go_sem] Zi
variable {w w':W}
theorem may_c (i:Xg) (len:Int) (w:W):Calls N 104 #[i.val,U Y len] w (U2 (i.may len) w):=by
 obtain ⟨op,n,x⟩:=i
 by_cases h1:op<=0
 ·have e:Xg.may ⟨op,n,x⟩ len=false:=by unfold Xg.may;rw [P9 (.inl h1)]
  rw [e];exact may_low op n x len h1 w
 by_cases h2:20 < op
 ·have e:Xg.may ⟨op,n,x⟩ len=false:=by unfold Xg.may;rw [P9 (.inr h2)]
  rw [e];exact may_high op n x len h2 w
 by_cases h3:op≠1/\Zq x≠0
 ·have e:Xg.may ⟨op,n,x⟩ len=false:=by unfold Xg.may;rw [Q9 (by simp only;omega),P9 h3]
  rw [e];exact may_x op n x len (by omega) (by omega) h3.1 h3.2 w
 have e:Xg.may ⟨op,n,x⟩ len=(if Um op=-2 then n==0
 else if Um op=-1 then decide (0<=n)&&decide (n < len)
 else if op=9\/op=10 then decide (1<=n)&&decide (n<=Um op)
 else decide (0<=n)&&decide (n<=Um op)):=by unfold Xg.may;rw [Q9 (by simp only;omega),Q9 h3]
 rw [e];clear e;have hx:op≠1->Zq x=0:=λ h=>Classical.not_not.mp λ h'=>h3 ⟨h,h'⟩;rcases (show op=1\/op=2\/op=3\/op=4\/op=5\/op=6\/op=7\/op=8\/op=9\/op=10\/op=11\/op=12\/op=13\/op=14\/op=15\/op=16\/op=17\/op=18\/op=19\/op=20 by omega) with rfl|rfl|rfl|rfl|rfl|rfl|rfl|rfl|rfl|rfl|rfl|rfl|rfl|rfl|rfl|rfl|rfl|rfl|rfl|rfl
 ·exact may1 n x len w
 ·exact may2 n x len (hx (by decide)) w
 ·exact may3 n x len (hx (by decide)) w
 ·exact may4 n x len (hx (by decide)) w
 ·exact may5 n x len (hx (by decide)) w
 ·exact may6 n x len (hx (by decide)) w
 ·exact may7 n x len (hx (by decide)) w
 ·exact may8 n x len (hx (by decide)) w
 ·exact may9 n x len (hx (by decide)) w
 ·exact may10 n x len (hx (by decide)) w
 ·exact may11 n x len (hx (by decide)) w
 ·exact may12 n x len (hx (by decide)) w
 ·exact may13 n x len (hx (by decide)) w
 ·exact may14 n x len (hx (by decide)) w
 ·exact may15 n x len (hx (by decide)) w
 ·exact may16 n x len (hx (by decide)) w
 ·exact may17 n x len (hx (by decide)) w
 ·exact may18 n x len (hx (by decide)) w
 ·exact may19 n x len (hx (by decide)) w
 ·exact may20 n x len (hx (by decide)) w
def Yl (l:List Xg):List Value:=l.flatMap (λ i=>[U Y i.op,U Y i.n,Z V i.x])
theorem Th (l:List Xg):(Yl l).length=l.length * 3:=by
 induction l with
 |nil=>rfl
 |cons p l ih=>simp [Yl] at ih ⊢;omega
theorem L9 {l:List Xg} {k:Nat} {i:Xg} (h:l[k]? =I i):(Yl l)[k * 3]? =I (U Y i.op)/\(Yl l)[k * 3+1]? =I (U Y i.n)/\(Yl l)[k * 3+2]? =I (Z V i.x):=by
 induction l generalizing k with
 |nil=>simp at h
 |cons p l ih=>
  cases k with
  |zero=>simp at h;subst h;exact ⟨J,J,J⟩
  |succ k=>
   have:=ih (k:=k) (by simpa using h);have e:Yl (p :: l)=[U Y p.op,U Y p.n,Z V p.x]++Yl l:=J;rw [e];have e3:∀ j,([U Y p.op,U Y p.n,Z V p.x]++Yl l)[(k+1) * 3+j]? =(Yl l)[k * 3+j]?:=λ j=>by
    rw [List.getElem?_append_right (by simp;omega)];congr 1
    simp;omega
   exact ⟨(e3 0).trans this.1,(e3 1).trans this.2.1,(e3 2).trans this.2.2⟩
def Xl (tag:Int) (code:List Xg):Bool:=(tag==1 || tag==2)&&decide (0 < code.length)&&decide (code.length<=1024)&&code.all (λ i=>i.may code.length)
end
section
attribute [local go_sem] Zi
variable {w w':W} {v:Value} {code:List Xg} {tag:Int}
theorem Zt {t:TypeId} {n z:Nat} {xs:List Value} {S:List Nat} (h:w.ownsRow 0 t z v n xs) (m:Ze S w w') (hu:∀ g,v.ownBlock=I g->g∉S):w'.ownsRow 0 t z v n xs:=by
 refine ⟨h.1,?_⟩;rcases h.2 with hn|⟨g,cap,cur,rfl,hb,hgg,rest⟩
 ·exact .inl hn
 ·exact .inr ⟨g,cap,cur,J,hb,m.at hgg (hu g J),rest⟩
def W6 (b:Bool):Int:=if b then 0 else 50
theorem Tb (h:code.length=0\/1024 < code.length):Xl tag code=false:=by
 unfold Xl;rcases h with h|h
 ·simp [h]
 ·have:decide (code.length<=1024)=false:=D9 (by omega);simp [this]
theorem check_c (h:w.ownsRow 0 106 3 v code.length (Yl code)):Calls N 85 #[A9 #[U Y tag,v]] w λ e w'=>e=R9 (U Y (W6 (Xl tag code)))/\Ze [] w w':=by
 obtain ⟨a,cap,rfl⟩:=Zo h;have B0:=Zc w (X #[U Y tag,L a code.length cap] 110);have c0:=Za (i:=0) B0 J;have c1:=Za (i:=1) B0 J
 by_cases ht:tag=1\/tag=2
 ·by_cases hl0:code.length=0
  ·rw [Tb (.inl hl0)];have d0:((code.length:Int)==0)=true:=by simp [hl0]
   clear B0 h;rcases ht with rfl|rfl
   all_goals
    go_enter func85,ntmps85;go_wp2;go_ret;exact ⟨J,(Zr_ _ _).alloc _⟩
  ·have d0:((code.length:Int)==0)=false:=beq_eq_false_iff_ne.2 (by omega)
   by_cases hl1:1024 < code.length
   ·rw [Tb (.inr hl1)];have d1:decide ((1024:Int) < code.length)=true:=decide_eq_true (by omega);clear B0 h;rcases ht with rfl|rfl
    all_goals
     go_enter func85,ntmps85;go_wp2;go_ret;exact ⟨J,(Zr_ _ _).alloc _⟩
   ·have d1:decide ((1024:Int) < code.length)=false:=D9 (by omega);obtain ⟨g,cap',hv,-⟩:=Ya h (by omega);simp only [Value.slice.injEq,true_and] at hv;obtain ⟨rfl,rfl⟩:=hv;have hh:=h.alloc (X #[U Y tag,L (I ⟨g,0,O⟩) code.length cap] 110);have hm0:Ze [] w (w.alloc (X #[U Y tag,L (I ⟨g,0,O⟩) code.length cap] 110)):=(Zr_ _ _).alloc _;have HT:(tag==1 || tag==2)=true:=by simpa using ht
    have HOK:=Zh_ (show (∀ j y,j < code.length->code[j]? =I y->y.may code.length=true)->Xl tag code=true from λ hall=>by
     unfold Xl;rw [HT];simp only [Bool.true_and,Bool.and_eq_true,decide_eq_true_eq,List.all_eq_true];refine ⟨⟨by omega,by omega⟩,λ y hy=>?_⟩;obtain ⟨j,hj,rfl⟩:=List.mem_iff_getElem.1 hy;exact hall j _ hj (List.getElem?_eq_getElem hj))
    have HNO:=Zh_ (show ∀ (j:Nat) (y:Xg),code[j]? =I y->y.may code.length=false->Xl tag code=false from λ j y hj hy=>by
     unfold Xl;rw [show code.all (λ i=>i.may code.length)=false from List.all_eq_false.2 ⟨y,List.mem_of_getElem? hj,by simp [hy]⟩,Bool.and_false])
    clear HT;rcases ht with rfl|rfl
    all_goals
     go_enter func85,ntmps85;go_wp2_with fail
     go_loopw [28] (λ i wr=>∃ k:Nat,k<=code.length/\i=U Y k/\(∀ j y,j < k->code[j]? =I y->y.may code.length=true)/\wr.ownsRow 0 106 3 (L (I ⟨g,0,O⟩) code.length cap) code.length (Yl code)/\(∃ t0,wr.heap[w.heap.size]? =I (X #[t0,L (I ⟨g,0,O⟩) code.length cap] 110 (0,0)))/\Ze [] w wr) (λ i _=>code.length - (intOf i).toNat)
     case atStart=>exact ⟨0,Nat.zero_le _,J,λ j y hj=>absurd hj (by omega),hh,⟨_,B0⟩,hm0⟩
     case round=>
      clear h hh c0 c1 B0 hm0;obtain ⟨k,hk,rfl,hall,hown,⟨t0,BB⟩,D⟩:=hrel
      by_cases hlt:k < code.length
      ·obtain ⟨y,hy⟩:∃ y,code[k]? =I y:=⟨_,List.getElem?_eq_getElem hlt⟩;obtain ⟨y0,y1,y2⟩:=L9 hy;have q0:wr.cell? ⟨g,k * 3,O⟩=I (U Y y.op):=(hown.cellAt _ (by omega)).trans y0;have q1:wr.cell? ⟨g,k * 3+1,O⟩=I (U Y y.n):=(hown.cellAt _ (by omega)).trans y1;have q2:wr.cell? ⟨g,k * 3+2,O⟩=I (Z V y.x):=(hown.cellAt _ (by omega)).trans y2;have HO:=Zh_ hown;have HY:=Zh_ hy;have HA:=Zh_ hall;have HD:=Zh_ D;have HB:=Zh_ BB;have hc2:(wr.alloc (X #[U Y y.op,U Y y.n,Z V y.x] 106)).cell? ⟨w.heap.size,1,O⟩=I (L (I ⟨g,0,O⟩) code.length cap):=Za (Zf _ BB) J;clear hown hy hall y0 y1 y2 D BB;go_wp2_with fail;refine (may_c y code.length _).mono ?_;rintro e w2 ⟨rfl,D2⟩;have D3:Ze [] w w2:=(HD.out.alloc _).trans D2;have O3:=Zt (HO.out.alloc (X #[U Y y.op,U Y y.n,Z V y.x] 106)) D2 (by simp);have B3:=D2.at (Zf (X #[U Y y.op,U Y y.n,Z V y.x] 106) HB.out) (by simp);clear D2 hc2;cases hm:y.may code.length
       ·have e:=HNO.out k y HY.out hm;go_wp2;go_ret
        first|exact ⟨J,D3⟩|exact ⟨by rw [e];rfl,D3⟩
       ·go_wp2;go_roundw
        case rel=>exact ⟨k+1,by omega,by go_num,λ j z hj hz=>by
         by_cases hjk:j=k
         ·subst hjk;rw [HY.out] at hz;obtain rfl:=Zo_ hz;exact hm
         ·exact HA.out j z (by omega) hz,O3,⟨_,B3⟩,D3⟩
        case measure=>simp [intOf];omega
      ·obtain rfl:k=code.length:=by omega
       have e:=HOK.out hall;go_wp2;go_ret
       first|exact ⟨J,D⟩|exact ⟨by rw [e];rfl,D⟩
 ·have e:Xl tag code=false:=by unfold Xl;simp;omega
  rw [e];have d1:(tag !=1)=true:=by simp;omega
  have d2:(tag !=2)=true:=by simp;omega
  clear B0 h;go_enter func85,ntmps85;go_wp2;go_ret;exact ⟨J,(Zr_ _ _).alloc _⟩
end
end Go.Proofs.YtkhonmhnchdpkaaGreat

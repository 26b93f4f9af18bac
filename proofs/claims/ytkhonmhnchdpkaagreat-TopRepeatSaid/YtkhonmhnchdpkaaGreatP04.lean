/- A part of the proof; no condition. -/
import Derived.Test.YtkhonmhnchdpkaaGreatP03
import Derived.Deep.WholeRow
set_option maxRecDepth 100000
set_option maxHeartbeats 40000000
namespace Go.Proofs.YtkhonmhnchdpkaaGreat
open Go.RowKit _root_.Go.Proofs.Tryz
section
attribute [local go_sem] Zj
theorem two1_c (x y:Nat) (w:World):Calls Tryz.prog 180 #[.int .i64 1,.float .f64 x,.float .f64 y] w (Fm 1 x y w):=by
 go_enter func180,ntmps180;go_wp2_with fail;refine (Vx _).mono ?_;rintro e w1 ⟨tb,rfl,K,D1⟩;have c1:w1.cell? ⟨tb,1,none⟩=some (.func (.func 195) #[] #[]):=Za K rfl;clear K;go_wp2_with fail
 go_region_held3 (λ wx=>wx.cell? ⟨tb,1,none⟩=some (.func (.func 195) #[] #[])) (first|exact c1|assumption)
  (first
   |(go_at_call_of 73 (Value.float .f64 x);refine (Yp _ _).mono ?_;rintro e w2 ⟨rfl,rfl⟩)
   |(go_at_call_of 73 (Value.float .f64 y);refine (Yp _ _).mono ?_;rintro e w2 ⟨rfl,rfl⟩)
   |(go_at_call 195;refine (add_c _ _ _).mono ?_;rintro e w2 ⟨y2,n,rfl,hy,rfl⟩)
   |(go_at_call 73;refine (Yp _ _).mono ?_;rintro e w2 ⟨rfl,rfl⟩))
 all_goals
  go_wp2;go_ret2;exact ⟨0,rfl,D1.drewN _⟩
theorem two2_c (x y:Nat) (w:World):Calls Tryz.prog 180 #[.int .i64 2,.float .f64 x,.float .f64 y] w (Fm 2 x y w):=by
 go_enter func180,ntmps180;go_wp2_with fail;refine (Vx _).mono ?_;rintro e w1 ⟨tb,rfl,K,D1⟩;have c1:w1.cell? ⟨tb,2,none⟩=some (.func (.func 196) #[] #[]):=Za K rfl;clear K;go_wp2_with fail
 go_region_held3 (λ wx=>wx.cell? ⟨tb,2,none⟩=some (.func (.func 196) #[] #[])) (first|exact c1|assumption)
  (first
   |(go_at_call_of 73 (Value.float .f64 x);refine (Yp _ _).mono ?_;rintro e w2 ⟨rfl,rfl⟩)
   |(go_at_call_of 73 (Value.float .f64 y);refine (Yp _ _).mono ?_;rintro e w2 ⟨rfl,rfl⟩)
   |(go_at_call 196;refine (sub_c _ _ _).mono ?_;rintro e w2 ⟨y2,n,rfl,hy,rfl⟩)
   |(go_at_call 73;refine (Yp _ _).mono ?_;rintro e w2 ⟨rfl,rfl⟩))
 all_goals
  go_wp2;go_ret2;exact ⟨0,rfl,D1.drewN _⟩
theorem two3_c (x y:Nat) (w:World):Calls Tryz.prog 180 #[.int .i64 3,.float .f64 x,.float .f64 y] w (Fm 3 x y w):=by
 go_enter func180,ntmps180;go_wp2_with fail;refine (Vx _).mono ?_;rintro e w1 ⟨tb,rfl,K,D1⟩;have c1:w1.cell? ⟨tb,3,none⟩=some (.func (.func 197) #[] #[]):=Za K rfl;clear K;go_wp2_with fail
 go_region_held3 (λ wx=>wx.cell? ⟨tb,3,none⟩=some (.func (.func 197) #[] #[])) (first|exact c1|assumption)
  (first
   |(go_at_call_of 73 (Value.float .f64 x);refine (Yp _ _).mono ?_;rintro e w2 ⟨rfl,rfl⟩)
   |(go_at_call_of 73 (Value.float .f64 y);refine (Yp _ _).mono ?_;rintro e w2 ⟨rfl,rfl⟩)
   |(go_at_call 197;refine (mul_c _ _ _).mono ?_;rintro e w2 ⟨y2,n,rfl,hy,rfl⟩)
   |(go_at_call 73;refine (Yp _ _).mono ?_;rintro e w2 ⟨rfl,rfl⟩))
 all_goals
  go_wp2;go_ret2;exact ⟨0,rfl,D1.drewN _⟩
theorem two4_c (x y:Nat) (w:World):Calls Tryz.prog 180 #[.int .i64 4,.float .f64 x,.float .f64 y] w (Fm 4 x y w):=by
 go_enter func180,ntmps180;go_wp2_with fail;refine (Vx _).mono ?_;rintro e w1 ⟨tb,rfl,K,D1⟩;have c1:w1.cell? ⟨tb,4,none⟩=some (.func (.func 198) #[] #[]):=Za K rfl;clear K;go_wp2_with fail
 go_region_held3 (λ wx=>wx.cell? ⟨tb,4,none⟩=some (.func (.func 198) #[] #[])) (first|exact c1|assumption)
  (first
   |(go_at_call_of 73 (Value.float .f64 x);refine (Yp _ _).mono ?_;rintro e w2 ⟨rfl,rfl⟩)
   |(go_at_call_of 73 (Value.float .f64 y);refine (Yp _ _).mono ?_;rintro e w2 ⟨rfl,rfl⟩)
   |(go_at_call 198;refine (quo_c _ _ _).mono ?_;rintro e w2 ⟨y2,n,rfl,hy,rfl⟩)
   |(go_at_call 73;refine (Yp _ _).mono ?_;rintro e w2 ⟨rfl,rfl⟩))
 all_goals
  go_wp2;go_ret2;exact ⟨0,rfl,D1.drewN _⟩
theorem two5_c (x y:Nat) (w:World):Calls Tryz.prog 180 #[.int .i64 5,.float .f64 x,.float .f64 y] w (Fm 5 x y w):=by
 go_enter func180,ntmps180;go_wp2_with fail;refine (Vx _).mono ?_;rintro e w1 ⟨tb,rfl,K,D1⟩;have c1:w1.cell? ⟨tb,5,none⟩=some (.func (.func 199) #[] #[]):=Za K rfl;clear K;go_wp2_with fail
 go_region_held3 (λ wx=>wx.cell? ⟨tb,5,none⟩=some (.func (.func 199) #[] #[])) (first|exact c1|assumption)
  (first
   |(go_at_call_of 73 (Value.float .f64 x);refine (Yp _ _).mono ?_;rintro e w2 ⟨rfl,rfl⟩)
   |(go_at_call_of 73 (Value.float .f64 y);refine (Yp _ _).mono ?_;rintro e w2 ⟨rfl,rfl⟩)
   |(go_at_call 199;refine (mod_a _ _ _).mono ?_;rintro e w2 ⟨y2,n,rfl,rfl⟩)
   |(go_at_call 73;refine (Yp _ _).mono ?_;rintro e w2 ⟨rfl,rfl⟩))
 all_goals
  go_wp2;go_ret2;exact ⟨_,rfl,D1.drewN _⟩
theorem two6_c (x y:Nat) (w:World):Calls Tryz.prog 180 #[.int .i64 6,.float .f64 x,.float .f64 y] w (Fm 6 x y w):=by
 go_enter func180,ntmps180;go_wp2_with fail;refine (Vx _).mono ?_;rintro e w1 ⟨tb,rfl,K,D1⟩;have c1:w1.cell? ⟨tb,6,none⟩=some (.func (.func 200) #[] #[]):=Za K rfl;clear K;go_wp2_with fail
 go_region_held3 (λ wx=>wx.cell? ⟨tb,6,none⟩=some (.func (.func 200) #[] #[])) (first|exact c1|assumption)
  (first
   |(go_at_call_of 73 (Value.float .f64 x);refine (Yp _ _).mono ?_;rintro e w2 ⟨rfl,rfl⟩)
   |(go_at_call_of 73 (Value.float .f64 y);refine (Yp _ _).mono ?_;rintro e w2 ⟨rfl,rfl⟩)
   |(go_at_call 200;refine (least_a _ _ _).mono ?_;rintro e w2 ⟨y2,n,rfl,rfl⟩)
   |(go_at_call 73;refine (Yp _ _).mono ?_;rintro e w2 ⟨rfl,rfl⟩))
 all_goals
  go_wp2;go_ret2;exact ⟨_,rfl,D1.drewN _⟩
theorem two7_c (x y:Nat) (w:World):Calls Tryz.prog 180 #[.int .i64 7,.float .f64 x,.float .f64 y] w (Fm 7 x y w):=by
 go_enter func180,ntmps180;go_wp2_with fail;refine (Vx _).mono ?_;rintro e w1 ⟨tb,rfl,K,D1⟩;have c1:w1.cell? ⟨tb,7,none⟩=some (.func (.func 201) #[] #[]):=Za K rfl;clear K;go_wp2_with fail
 go_region_held3 (λ wx=>wx.cell? ⟨tb,7,none⟩=some (.func (.func 201) #[] #[])) (first|exact c1|assumption)
  (first
   |(go_at_call_of 73 (Value.float .f64 x);refine (Yp _ _).mono ?_;rintro e w2 ⟨rfl,rfl⟩)
   |(go_at_call_of 73 (Value.float .f64 y);refine (Yp _ _).mono ?_;rintro e w2 ⟨rfl,rfl⟩)
   |(go_at_call 201;refine (Ls _ _ _).mono ?_;rintro e w2 ⟨y2,n,rfl,rfl⟩)
   |(go_at_call 73;refine (Yp _ _).mono ?_;rintro e w2 ⟨rfl,rfl⟩))
 all_goals
  go_wp2;go_ret2;exact ⟨_,rfl,D1.drewN _⟩
theorem two8_c (x y:Nat) (w:World):Calls Tryz.prog 180 #[.int .i64 8,.float .f64 x,.float .f64 y] w (Fm 8 x y w):=by
 go_enter func180,ntmps180;go_wp2_with fail;refine (Vx _).mono ?_;rintro e w1 ⟨tb,rfl,K,D1⟩;have c1:w1.cell? ⟨tb,8,none⟩=some (.func (.func 202) #[] #[]):=Za K rfl;clear K;go_wp2_with fail
 go_region_held3 (λ wx=>wx.cell? ⟨tb,8,none⟩=some (.func (.func 202) #[] #[])) (first|exact c1|assumption)
  (first
   |(go_at_call_of 73 (Value.float .f64 x);refine (Yp _ _).mono ?_;rintro e w2 ⟨rfl,rfl⟩)
   |(go_at_call_of 73 (Value.float .f64 y);refine (Yp _ _).mono ?_;rintro e w2 ⟨rfl,rfl⟩)
   |(go_at_call 202;refine (less_c _ _ _).mono ?_;rintro e w2 ⟨y2,n,rfl,hy,rfl⟩)
   |(go_at_call 73;refine (Yp _ _).mono ?_;rintro e w2 ⟨rfl,rfl⟩))
 all_goals
  go_wp2;go_ret2;exact ⟨0,rfl,D1.drewN _⟩
theorem two9_c (x y:Nat) (w:World):Calls Tryz.prog 180 #[.int .i64 9,.float .f64 x,.float .f64 y] w (Fm 9 x y w):=by
 go_enter func180,ntmps180;go_wp2_with fail;refine (Vx _).mono ?_;rintro e w1 ⟨tb,rfl,K,D1⟩;have c1:w1.cell? ⟨tb,9,none⟩=some (.func (.func 203) #[] #[]):=Za K rfl;clear K;go_wp2_with fail
 go_region_held3 (λ wx=>wx.cell? ⟨tb,9,none⟩=some (.func (.func 203) #[] #[])) (first|exact c1|assumption)
  (first
   |(go_at_call_of 73 (Value.float .f64 x);refine (Yp _ _).mono ?_;rintro e w2 ⟨rfl,rfl⟩)
   |(go_at_call_of 73 (Value.float .f64 y);refine (Yp _ _).mono ?_;rintro e w2 ⟨rfl,rfl⟩)
   |(go_at_call 203;refine (atmost_a _ _ _).mono ?_;rintro e w2 ⟨y2,n,rfl,rfl⟩)
   |(go_at_call 73;refine (Yp _ _).mono ?_;rintro e w2 ⟨rfl,rfl⟩))
 all_goals
  go_wp2;go_ret2;exact ⟨_,rfl,D1.drewN _⟩
theorem two10_c (x y:Nat) (w:World):Calls Tryz.prog 180 #[.int .i64 10,.float .f64 x,.float .f64 y] w (Fm 10 x y w):=by
 go_enter func180,ntmps180;go_wp2_with fail;refine (Vx _).mono ?_;rintro e w1 ⟨tb,rfl,K,D1⟩;have c1:w1.cell? ⟨tb,10,none⟩=some (.func (.func 204) #[] #[]):=Za K rfl;clear K;go_wp2_with fail
 go_region_held3 (λ wx=>wx.cell? ⟨tb,10,none⟩=some (.func (.func 204) #[] #[])) (first|exact c1|assumption)
  (first
   |(go_at_call_of 73 (Value.float .f64 x);refine (Yp _ _).mono ?_;rintro e w2 ⟨rfl,rfl⟩)
   |(go_at_call_of 73 (Value.float .f64 y);refine (Yp _ _).mono ?_;rintro e w2 ⟨rfl,rfl⟩)
   |(go_at_call 204;refine (equal_a _ _ _).mono ?_;rintro e w2 ⟨y2,n,rfl,rfl⟩)
   |(go_at_call 73;refine (Yp _ _).mono ?_;rintro e w2 ⟨rfl,rfl⟩))
 all_goals
  go_wp2;go_ret2;exact ⟨_,rfl,D1.drewN _⟩
theorem two11_c (x y:Nat) (w:World):Calls Tryz.prog 180 #[.int .i64 11,.float .f64 x,.float .f64 y] w (Fm 11 x y w):=by
 go_enter func180,ntmps180;go_wp2_with fail;refine (Vx _).mono ?_;rintro e w1 ⟨tb,rfl,K,D1⟩;have c1:w1.cell? ⟨tb,11,none⟩=some (.func (.func 205) #[] #[]):=Za K rfl;clear K;go_wp2_with fail
 go_region_held3 (λ wx=>wx.cell? ⟨tb,11,none⟩=some (.func (.func 205) #[] #[])) (first|exact c1|assumption)
  (first
   |(go_at_call_of 73 (Value.float .f64 x);refine (Yp _ _).mono ?_;rintro e w2 ⟨rfl,rfl⟩)
   |(go_at_call_of 73 (Value.float .f64 y);refine (Yp _ _).mono ?_;rintro e w2 ⟨rfl,rfl⟩)
   |(go_at_call 205;refine (same2_a _ _ _).mono ?_;rintro e w2 ⟨y2,n,rfl,rfl⟩)
   |(go_at_call 73;refine (Yp _ _).mono ?_;rintro e w2 ⟨rfl,rfl⟩))
 all_goals
  go_wp2;go_ret2;exact ⟨_,rfl,D1.drewN _⟩
theorem two12_c (x y:Nat) (w:World):Calls Tryz.prog 180 #[.int .i64 12,.float .f64 x,.float .f64 y] w (Fm 12 x y w):=by
 go_enter func180,ntmps180;go_wp2_with fail;refine (Vx _).mono ?_;rintro e w1 ⟨tb,rfl,K,D1⟩;have c1:w1.cell? ⟨tb,12,none⟩=some (.func (.func 206) #[] #[]):=Za K rfl;clear K;go_wp2_with fail
 go_region_held3 (λ wx=>wx.cell? ⟨tb,12,none⟩=some (.func (.func 206) #[] #[])) (first|exact c1|assumption)
  (first
   |(go_at_call_of 73 (Value.float .f64 x);refine (Yp _ _).mono ?_;rintro e w2 ⟨rfl,rfl⟩)
   |(go_at_call_of 73 (Value.float .f64 y);refine (Yp _ _).mono ?_;rintro e w2 ⟨rfl,rfl⟩)
   |(go_at_call 206;refine (ahead2_a _ _ _).mono ?_;rintro e w2 ⟨y2,n,rfl,rfl⟩)
   |(go_at_call 73;refine (Yp _ _).mono ?_;rintro e w2 ⟨rfl,rfl⟩))
 all_goals
  go_wp2;go_ret2;exact ⟨_,rfl,D1.drewN _⟩
theorem two_c (k:Int) (h1:1<=k) (h2:k<=12) (x y:Nat) (w:World):Calls Tryz.prog 180 #[.int .i64 k,.float .f64 x,.float .f64 y] w (Fm k x y w):=by
 rcases (show k=1\/k=2\/k=3\/k=4\/k=5\/k=6\/k=7\/k=8\/k=9\/k=10\/k=11\/k=12 by omega) with rfl|rfl|rfl|rfl|rfl|rfl|rfl|rfl|rfl|rfl|rfl|rfl
 ·exact two1_c x y w
 ·exact two2_c x y w
 ·exact two3_c x y w
 ·exact two4_c x y w
 ·exact two5_c x y w
 ·exact two6_c x y w
 ·exact two7_c x y w
 ·exact two8_c x y w
 ·exact two9_c x y w
 ·exact two10_c x y w
 ·exact two11_c x y w
 ·exact two12_c x y w
end
section
attribute [local go_sem] Zj
def Pb:Array Value:=#[.string {data:=#[]},.int .i64 0,.int .i64 0,.int .i64 0,.string {data:=#[112,117,115,104]},.int .i64 (-2),.int .i64 0,.int .i64 1,.string {data:=#[100,114,111,112]},.int .i64 (-2),.int .i64 1,.int .i64 0,.string {data:=#[100,117,112]},.int .i64 (-2),.int .i64 1,.int .i64 2,.string {data:=#[115,119,97,112]},.int .i64 (-2),.int .i64 2,.int .i64 2,.string {data:=#[112,105,99,107]},.int .i64 63,.int .i64 0,.int .i64 1,.string {data:=#[97,114,103]},.int .i64 7,.int .i64 0,.int .i64 1,.string {data:=#[103,101,116]},.int .i64 7,.int .i64 0,.int .i64 1,.string {data:=#[115,101,116]},.int .i64 7,.int .i64 1,.int .i64 0,.string {data:=#[]},.int .i64 8,.int .i64 1,.int .i64 1,.string {data:=#[]},.int .i64 12,.int .i64 2,.int .i64 1,.string {data:=#[106,117,109,112]},.int .i64 (-1),.int .i64 0,.int .i64 0,.string {data:=#[105,102]},.int .i64 (-1),.int .i64 1,.int .i64 0,.string {data:=#[117,110,108,101,115,115]},.int .i64 (-1),.int .i64 1,.int .i64 0,.string {data:=#[99,97,108,108]},.int .i64 (-1),.int .i64 0,.int .i64 0,.string {data:=#[114,101,116]},.int .i64 (-2),.int .i64 0,.int .i64 0,.string {data:=#[114,101,97,100]},.int .i64 (-2),.int .i64 1,.int .i64 1,.string {data:=#[119,114,105,116,101]},.int .i64 (-2),.int .i64 2,.int .i64 0,.string {data:=#[101,109,105,116]},.int .i64 (-2),.int .i64 1,.int .i64 0,.string {data:=#[97,98,111,114,116]},.int .i64 99,.int .i64 0,.int .i64 0,.string {data:=#[104,97,108,116]},.int .i64 (-2),.int .i64 0,.int .i64 0]
def Qu:Value:=.agg Pb
def Vy (op:Int):Int:=match op with|1=>(-2)|2=>(-2)|3=>(-2)|4=>(-2)|5=>63|6=>7|7=>7|8=>7|9=>8|10=>12|11=>(-1)|12=>(-1)|13=>(-1)|14=>(-1)|15=>(-2)|16=>(-2)|17=>(-2)|18=>(-2)|19=>99|20=>(-2)|_=>0
def Qs (op:Int):Int:=match op with|1=>0|2=>1|3=>1|4=>2|5=>0|6=>0|7=>0|8=>1|9=>1|10=>2|11=>0|12=>1|13=>1|14=>0|15=>0|16=>1|17=>2|18=>1|19=>0|20=>0|_=>0
def Jm (op:Int):Int:=match op with|1=>1|2=>0|3=>2|4=>2|5=>1|6=>1|7=>1|8=>0|9=>1|10=>1|11=>0|12=>0|13=>0|14=>0|15=>0|16=>1|17=>0|18=>0|19=>0|20=>0|_=>0
structure Xf where
 op:Int
 n:Int
 x:Nat
def Xf.val (i:Xf):Value:=.agg #[.int .i64 i.op,.int .i64 i.n,.float .f64 i.x]
def Xf.may (i:Xf) (len:Int):Bool:=
 if i.op<=0\/20 < i.op then false else if i.op≠1/\Zt i.x≠0 then false
 else if Vy i.op=-2 then i.n==0
 else if Vy i.op=-1 then decide (0<=i.n)&&decide (i.n < len)
 else if i.op=9\/i.op=10 then decide (1<=i.n)&&decide (i.n<=Vy i.op)
 else decide (0<=i.n)&&decide (i.n<=Vy i.op)
theorem Yn (w:World):Calls Tryz.prog 132 #[] w λ e w'=>e=.returned Qu/\Ze [] w w':=by
 go_enter func132,ntmps132;go_wp2;have hst:∀ l,l=Pb.toList->(storeCells ⟨w.heap.size,0,none⟩ l 0).run Tryz.prog (w.alloc (.cells Tryz.zeroCells228 228))=.ok () (w.alloc (.cells Pb 228)):=by
  rintro _ rfl;exact run_storeCells_new w 228 _ _ (by kernel_rfl) (by kernel_rfl) (by kernel_rfl)
 rw [hst _ (by kernel_rfl)];clear hst;have hD:Ze [] w (w.alloc (.cells Pb 228)):=(Zr_ _ _).alloc _;have hr:=λ tmps h0=>results_cell_row (P:=Tryz.prog) (fn:=Tryz.f132) (p:=0) (ty:=228) rfl tmps (w.alloc (.cells Pb 228)) w.heap.size 228 Pb (0,0) _ h0 (Zc _ _) underlying228 rfl (by kernel_rfl);generalize w.alloc (.cells Pb 228)=w1 at *
 go_wp2;refine bodyPost_ret (v:=Qu) ?_ rfl ⟨rfl,hD⟩;exact hr _ rfl
end
section
attribute [local go_sem] Zj
theorem rix1 (w:World):(Instr.index 228 Qu (.int .i64 1)).run Tryz.prog w=.ok (.agg #[.string {data:=#[112,117,115,104]},.int .i64 (-2),.int .i64 0,.int .i64 1]) w:=by kernel_rfl
theorem eff1 (w:World):Calls Tryz.prog 158 #[.int .i64 1] w λ e w'=>e=.returned (.tuple #[.int .i64 0,.int .i64 1,.int .i64 0])/\Ze [] w w':=by
 have hx:=rix1;go_enter func158,ntmps158;go_wp2_with fail;refine (Yn _).mono ?_;rintro e w1 ⟨rfl,D1⟩;go_wp2_with fail;go_region
 all_goals
  go_wp2
  go_ret3
  exact ⟨rfl,(D1.alloc _).drew⟩
theorem rix2 (w:World):(Instr.index 228 Qu (.int .i64 2)).run Tryz.prog w=.ok (.agg #[.string {data:=#[100,114,111,112]},.int .i64 (-2),.int .i64 1,.int .i64 0]) w:=by kernel_rfl
theorem eff2 (w:World):Calls Tryz.prog 158 #[.int .i64 2] w λ e w'=>e=.returned (.tuple #[.int .i64 1,.int .i64 0,.int .i64 0])/\Ze [] w w':=by
 have hx:=rix2;go_enter func158,ntmps158;go_wp2_with fail;refine (Yn _).mono ?_;rintro e w1 ⟨rfl,D1⟩;go_wp2_with fail;go_region
 all_goals
  go_wp2
  go_ret3
  exact ⟨rfl,(D1.alloc _).drew⟩
theorem rix3 (w:World):(Instr.index 228 Qu (.int .i64 3)).run Tryz.prog w=.ok (.agg #[.string {data:=#[100,117,112]},.int .i64 (-2),.int .i64 1,.int .i64 2]) w:=by kernel_rfl
theorem eff3 (w:World):Calls Tryz.prog 158 #[.int .i64 3] w λ e w'=>e=.returned (.tuple #[.int .i64 1,.int .i64 2,.int .i64 0])/\Ze [] w w':=by
 have hx:=rix3;go_enter func158,ntmps158;go_wp2_with fail;refine (Yn _).mono ?_;rintro e w1 ⟨rfl,D1⟩;go_wp2_with fail;go_region
 all_goals
  go_wp2
  go_ret3
  exact ⟨rfl,(D1.alloc _).drew⟩
theorem rix4 (w:World):(Instr.index 228 Qu (.int .i64 4)).run Tryz.prog w=.ok (.agg #[.string {data:=#[115,119,97,112]},.int .i64 (-2),.int .i64 2,.int .i64 2]) w:=by kernel_rfl
theorem eff4 (w:World):Calls Tryz.prog 158 #[.int .i64 4] w λ e w'=>e=.returned (.tuple #[.int .i64 2,.int .i64 2,.int .i64 0])/\Ze [] w w':=by
 have hx:=rix4;go_enter func158,ntmps158;go_wp2_with fail;refine (Yn _).mono ?_;rintro e w1 ⟨rfl,D1⟩;go_wp2_with fail;go_region
 all_goals
  go_wp2
  go_ret3
  exact ⟨rfl,(D1.alloc _).drew⟩
theorem rix5 (w:World):(Instr.index 228 Qu (.int .i64 5)).run Tryz.prog w=.ok (.agg #[.string {data:=#[112,105,99,107]},.int .i64 63,.int .i64 0,.int .i64 1]) w:=by kernel_rfl
theorem eff5 (w:World):Calls Tryz.prog 158 #[.int .i64 5] w λ e w'=>e=.returned (.tuple #[.int .i64 0,.int .i64 1,.int .i64 0])/\Ze [] w w':=by
 have hx:=rix5;go_enter func158,ntmps158;go_wp2_with fail;refine (Yn _).mono ?_;rintro e w1 ⟨rfl,D1⟩;go_wp2_with fail;go_region
 all_goals
  go_wp2
  go_ret3
  exact ⟨rfl,(D1.alloc _).drew⟩
theorem rix6 (w:World):(Instr.index 228 Qu (.int .i64 6)).run Tryz.prog w=.ok (.agg #[.string {data:=#[97,114,103]},.int .i64 7,.int .i64 0,.int .i64 1]) w:=by kernel_rfl
theorem eff6 (w:World):Calls Tryz.prog 158 #[.int .i64 6] w λ e w'=>e=.returned (.tuple #[.int .i64 0,.int .i64 1,.int .i64 0])/\Ze [] w w':=by
 have hx:=rix6;go_enter func158,ntmps158;go_wp2_with fail;refine (Yn _).mono ?_;rintro e w1 ⟨rfl,D1⟩;go_wp2_with fail;go_region
 all_goals
  go_wp2
  go_ret3
  exact ⟨rfl,(D1.alloc _).drew⟩
theorem rix7 (w:World):(Instr.index 228 Qu (.int .i64 7)).run Tryz.prog w=.ok (.agg #[.string {data:=#[103,101,116]},.int .i64 7,.int .i64 0,.int .i64 1]) w:=by kernel_rfl
theorem eff7 (w:World):Calls Tryz.prog 158 #[.int .i64 7] w λ e w'=>e=.returned (.tuple #[.int .i64 0,.int .i64 1,.int .i64 0])/\Ze [] w w':=by
 have hx:=rix7;go_enter func158,ntmps158;go_wp2_with fail;refine (Yn _).mono ?_;rintro e w1 ⟨rfl,D1⟩;go_wp2_with fail;go_region
 all_goals
  go_wp2
  go_ret3
  exact ⟨rfl,(D1.alloc _).drew⟩
theorem rix8 (w:World):(Instr.index 228 Qu (.int .i64 8)).run Tryz.prog w=.ok (.agg #[.string {data:=#[115,101,116]},.int .i64 7,.int .i64 1,.int .i64 0]) w:=by kernel_rfl
theorem eff8 (w:World):Calls Tryz.prog 158 #[.int .i64 8] w λ e w'=>e=.returned (.tuple #[.int .i64 1,.int .i64 0,.int .i64 0])/\Ze [] w w':=by
 have hx:=rix8;go_enter func158,ntmps158;go_wp2_with fail;refine (Yn _).mono ?_;rintro e w1 ⟨rfl,D1⟩;go_wp2_with fail;go_region
 all_goals
  go_wp2
  go_ret3
  exact ⟨rfl,(D1.alloc _).drew⟩
theorem rix9 (w:World):(Instr.index 228 Qu (.int .i64 9)).run Tryz.prog w=.ok (.agg #[.string {data:=#[]},.int .i64 8,.int .i64 1,.int .i64 1]) w:=by kernel_rfl
theorem eff9 (w:World):Calls Tryz.prog 158 #[.int .i64 9] w λ e w'=>e=.returned (.tuple #[.int .i64 1,.int .i64 1,.int .i64 0])/\Ze [] w w':=by
 have hx:=rix9;go_enter func158,ntmps158;go_wp2_with fail;refine (Yn _).mono ?_;rintro e w1 ⟨rfl,D1⟩;go_wp2_with fail;go_region
 all_goals
  go_wp2
  go_ret3
  exact ⟨rfl,(D1.alloc _).drew⟩
theorem rix10 (w:World):(Instr.index 228 Qu (.int .i64 10)).run Tryz.prog w=.ok (.agg #[.string {data:=#[]},.int .i64 12,.int .i64 2,.int .i64 1]) w:=by kernel_rfl
theorem eff10 (w:World):Calls Tryz.prog 158 #[.int .i64 10] w λ e w'=>e=.returned (.tuple #[.int .i64 2,.int .i64 1,.int .i64 0])/\Ze [] w w':=by
 have hx:=rix10;go_enter func158,ntmps158;go_wp2_with fail;refine (Yn _).mono ?_;rintro e w1 ⟨rfl,D1⟩;go_wp2_with fail;go_region
 all_goals
  go_wp2
  go_ret3
  exact ⟨rfl,(D1.alloc _).drew⟩
theorem rix11 (w:World):(Instr.index 228 Qu (.int .i64 11)).run Tryz.prog w=.ok (.agg #[.string {data:=#[106,117,109,112]},.int .i64 (-1),.int .i64 0,.int .i64 0]) w:=by kernel_rfl
theorem eff11 (w:World):Calls Tryz.prog 158 #[.int .i64 11] w λ e w'=>e=.returned (.tuple #[.int .i64 0,.int .i64 0,.int .i64 0])/\Ze [] w w':=by
 have hx:=rix11;go_enter func158,ntmps158;go_wp2_with fail;refine (Yn _).mono ?_;rintro e w1 ⟨rfl,D1⟩;go_wp2_with fail;go_region
 all_goals
  go_wp2
  go_ret3
  exact ⟨rfl,(D1.alloc _).drew⟩
theorem rix12 (w:World):(Instr.index 228 Qu (.int .i64 12)).run Tryz.prog w=.ok (.agg #[.string {data:=#[105,102]},.int .i64 (-1),.int .i64 1,.int .i64 0]) w:=by kernel_rfl
theorem eff12 (w:World):Calls Tryz.prog 158 #[.int .i64 12] w λ e w'=>e=.returned (.tuple #[.int .i64 1,.int .i64 0,.int .i64 0])/\Ze [] w w':=by
 have hx:=rix12;go_enter func158,ntmps158;go_wp2_with fail;refine (Yn _).mono ?_;rintro e w1 ⟨rfl,D1⟩;go_wp2_with fail;go_region
 all_goals
  go_wp2
  go_ret3
  exact ⟨rfl,(D1.alloc _).drew⟩
theorem rix13 (w:World):(Instr.index 228 Qu (.int .i64 13)).run Tryz.prog w=.ok (.agg #[.string {data:=#[117,110,108,101,115,115]},.int .i64 (-1),.int .i64 1,.int .i64 0]) w:=by kernel_rfl
theorem eff13 (w:World):Calls Tryz.prog 158 #[.int .i64 13] w λ e w'=>e=.returned (.tuple #[.int .i64 1,.int .i64 0,.int .i64 0])/\Ze [] w w':=by
 have hx:=rix13;go_enter func158,ntmps158;go_wp2_with fail;refine (Yn _).mono ?_;rintro e w1 ⟨rfl,D1⟩;go_wp2_with fail;go_region
 all_goals
  go_wp2
  go_ret3
  exact ⟨rfl,(D1.alloc _).drew⟩
theorem rix14 (w:World):(Instr.index 228 Qu (.int .i64 14)).run Tryz.prog w=.ok (.agg #[.string {data:=#[99,97,108,108]},.int .i64 (-1),.int .i64 0,.int .i64 0]) w:=by kernel_rfl
theorem eff14 (w:World):Calls Tryz.prog 158 #[.int .i64 14] w λ e w'=>e=.returned (.tuple #[.int .i64 0,.int .i64 0,.int .i64 0])/\Ze [] w w':=by
 have hx:=rix14;go_enter func158,ntmps158;go_wp2_with fail;refine (Yn _).mono ?_;rintro e w1 ⟨rfl,D1⟩;go_wp2_with fail;go_region
 all_goals
  go_wp2
  go_ret3
  exact ⟨rfl,(D1.alloc _).drew⟩
theorem rix15 (w:World):(Instr.index 228 Qu (.int .i64 15)).run Tryz.prog w=.ok (.agg #[.string {data:=#[114,101,116]},.int .i64 (-2),.int .i64 0,.int .i64 0]) w:=by kernel_rfl
theorem eff15 (w:World):Calls Tryz.prog 158 #[.int .i64 15] w λ e w'=>e=.returned (.tuple #[.int .i64 0,.int .i64 0,.int .i64 0])/\Ze [] w w':=by
 have hx:=rix15;go_enter func158,ntmps158;go_wp2_with fail;refine (Yn _).mono ?_;rintro e w1 ⟨rfl,D1⟩;go_wp2_with fail;go_region
 all_goals
  go_wp2
  go_ret3
  exact ⟨rfl,(D1.alloc _).drew⟩
theorem rix16 (w:World):(Instr.index 228 Qu (.int .i64 16)).run Tryz.prog w=.ok (.agg #[.string {data:=#[114,101,97,100]},.int .i64 (-2),.int .i64 1,.int .i64 1]) w:=by kernel_rfl
theorem eff16 (w:World):Calls Tryz.prog 158 #[.int .i64 16] w λ e w'=>e=.returned (.tuple #[.int .i64 1,.int .i64 1,.int .i64 0])/\Ze [] w w':=by
 have hx:=rix16;go_enter func158,ntmps158;go_wp2_with fail;refine (Yn _).mono ?_;rintro e w1 ⟨rfl,D1⟩;go_wp2_with fail;go_region
 all_goals
  go_wp2
  go_ret3
  exact ⟨rfl,(D1.alloc _).drew⟩
theorem rix17 (w:World):(Instr.index 228 Qu (.int .i64 17)).run Tryz.prog w=.ok (.agg #[.string {data:=#[119,114,105,116,101]},.int .i64 (-2),.int .i64 2,.int .i64 0]) w:=by kernel_rfl
theorem eff17 (w:World):Calls Tryz.prog 158 #[.int .i64 17] w λ e w'=>e=.returned (.tuple #[.int .i64 2,.int .i64 0,.int .i64 0])/\Ze [] w w':=by
 have hx:=rix17;go_enter func158,ntmps158;go_wp2_with fail;refine (Yn _).mono ?_;rintro e w1 ⟨rfl,D1⟩;go_wp2_with fail;go_region
 all_goals
  go_wp2
  go_ret3
  exact ⟨rfl,(D1.alloc _).drew⟩
theorem rix18 (w:World):(Instr.index 228 Qu (.int .i64 18)).run Tryz.prog w=.ok (.agg #[.string {data:=#[101,109,105,116]},.int .i64 (-2),.int .i64 1,.int .i64 0]) w:=by kernel_rfl
theorem eff18 (w:World):Calls Tryz.prog 158 #[.int .i64 18] w λ e w'=>e=.returned (.tuple #[.int .i64 1,.int .i64 0,.int .i64 0])/\Ze [] w w':=by
 have hx:=rix18;go_enter func158,ntmps158;go_wp2_with fail;refine (Yn _).mono ?_;rintro e w1 ⟨rfl,D1⟩;go_wp2_with fail;go_region
 all_goals
  go_wp2
  go_ret3
  exact ⟨rfl,(D1.alloc _).drew⟩
theorem rix19 (w:World):(Instr.index 228 Qu (.int .i64 19)).run Tryz.prog w=.ok (.agg #[.string {data:=#[97,98,111,114,116]},.int .i64 99,.int .i64 0,.int .i64 0]) w:=by kernel_rfl
theorem eff19 (w:World):Calls Tryz.prog 158 #[.int .i64 19] w λ e w'=>e=.returned (.tuple #[.int .i64 0,.int .i64 0,.int .i64 0])/\Ze [] w w':=by
 have hx:=rix19;go_enter func158,ntmps158;go_wp2_with fail;refine (Yn _).mono ?_;rintro e w1 ⟨rfl,D1⟩;go_wp2_with fail;go_region
 all_goals
  go_wp2
  go_ret3
  exact ⟨rfl,(D1.alloc _).drew⟩
theorem rix20 (w:World):(Instr.index 228 Qu (.int .i64 20)).run Tryz.prog w=.ok (.agg #[.string {data:=#[104,97,108,116]},.int .i64 (-2),.int .i64 0,.int .i64 0]) w:=by kernel_rfl
theorem eff20 (w:World):Calls Tryz.prog 158 #[.int .i64 20] w λ e w'=>e=.returned (.tuple #[.int .i64 0,.int .i64 0,.int .i64 0])/\Ze [] w w':=by
 have hx:=rix20;go_enter func158,ntmps158;go_wp2_with fail;refine (Yn _).mono ?_;rintro e w1 ⟨rfl,D1⟩;go_wp2_with fail;go_region
 all_goals
  go_wp2
  go_ret3
  exact ⟨rfl,(D1.alloc _).drew⟩
theorem eff_c (k:Int) (h1:1<=k) (h2:k<=20) (w:World):Calls Tryz.prog 158 #[.int .i64 k] w λ e w'=>e=.returned (.tuple #[.int .i64 (Qs k),.int .i64 (Jm k),.int .i64 0])/\Ze [] w w':=by
 rcases (show k=1\/k=2\/k=3\/k=4\/k=5\/k=6\/k=7\/k=8\/k=9\/k=10\/k=11\/k=12\/k=13\/k=14\/k=15\/k=16\/k=17\/k=18\/k=19\/k=20 by omega) with rfl|rfl|rfl|rfl|rfl|rfl|rfl|rfl|rfl|rfl|rfl|rfl|rfl|rfl|rfl|rfl|rfl|rfl|rfl|rfl
 ·exact eff1 w
 ·exact eff2 w
 ·exact eff3 w
 ·exact eff4 w
 ·exact eff5 w
 ·exact eff6 w
 ·exact eff7 w
 ·exact eff8 w
 ·exact eff9 w
 ·exact eff10 w
 ·exact eff11 w
 ·exact eff12 w
 ·exact eff13 w
 ·exact eff14 w
 ·exact eff15 w
 ·exact eff16 w
 ·exact eff17 w
 ·exact eff18 w
 ·exact eff19 w
 ·exact eff20 w
end
section
attribute [local go_sem] Zj
variable {w:World}
def Ua (b:Bool) (w:World) (e:Ending) (w':World):Prop:=e=.returned (.bool b)/\Ze [] w w'
theorem may_low (op n:Int) (x:Nat) (len:Int) (h:op<=0) (w:World):Calls Tryz.prog 104 #[.agg #[.int .i64 op,.int .i64 n,.float .f64 x],.int .i64 len] w (Ua false w):=by
 have d1:decide (op<=0)=true:=decide_eq_true h;go_enter func104,ntmps104;go_wp2;go_ret;exact ⟨rfl,(Zr_ _ _).alloc _⟩
theorem may_high (op n:Int) (x:Nat) (len:Int) (h:20 < op) (w:World):Calls Tryz.prog 104 #[.agg #[.int .i64 op,.int .i64 n,.float .f64 x],.int .i64 len] w (Ua false w):=by
 have d1:decide (op<=0)=false:=decide_eq_false (by omega);have d2:decide (20 < op)=true:=decide_eq_true h;go_enter func104,ntmps104;go_wp2;go_ret;exact ⟨rfl,(Zr_ _ _).alloc _⟩
theorem may_x (op n:Int) (x:Nat) (len:Int) (h1:0 < op) (h2:op<=20) (h3:op≠1) (h:Zt x≠0) (w:World):Calls Tryz.prog 104 #[.agg #[.int .i64 op,.int .i64 n,.float .f64 x],.int .i64 len] w (Ua false w):=by
 have d1:decide (op<=0)=false:=decide_eq_false (by omega);have d2:decide (20 < op)=false:=decide_eq_false (by omega);have d3:(op==1)=false:=by simp [h3]
 have d3':(op !=1)=true:=by simp [h3]
 have d4:((Zt x:Int)==(Zt 0:Int))=false:=by
  rw [show Zt 0=0 by decide+kernel];simp [h]
 go_enter func104,ntmps104;go_wp2_with fail;refine (Xz _ _ _).mono ?_;rintro e w1 ⟨rfl,rfl⟩;rw [d4];go_wp2;go_ret;exact ⟨rfl,(Zr_ _ _).alloc _⟩
theorem may1 (n:Int) (x:Nat) (len:Int) (w:World):Calls Tryz.prog 104 #[.agg #[.int .i64 1,.int .i64 n,.float .f64 x],.int .i64 len] w (Ua (n==0) w):=by
 have hx:=rix1;have hf:∀ w,(Instr.field 227 (.agg #[.string {data:=#[112,117,115,104]},.int .i64 (-2),.int .i64 0,.int .i64 1]) 1).run Tryz.prog w=.ok (.int .i64 (-2)) w:=by intro w;kernel_rfl
 have d4:((Zt x:Int)==(Zt 0:Int))=((Zt x:Int)==(Zt 0:Int)):=rfl;have c0:(w.alloc (.cells #[.int .i64 1,.int .i64 n,.float .f64 x] 106)).cell? ⟨w.heap.size,0,none⟩=some (.int .i64 1):=Za (Zc _ _) rfl;have c1:(w.alloc (.cells #[.int .i64 1,.int .i64 n,.float .f64 x] 106)).cell? ⟨w.heap.size,1,none⟩=some (.int .i64 n):=Za (Zc _ _) rfl;go_enter func104,ntmps104;go_wp2_with fail
 go_region_held3 (λ wx=>wx.cell? ⟨w.heap.size,0,none⟩=some (.int .i64 1)/\wx.cell? ⟨w.heap.size,1,none⟩=some (.int .i64 n)/\Ze [] (w.alloc (.cells #[.int .i64 1,.int .i64 n,.float .f64 x] 106)) wx)
  (first|exact ⟨c0,c1,(Zr_ _ _).drew⟩|exact ⟨e0,e1,D2⟩|assumption)
  (first|(go_at_call 132;refine (Yn _).mono ?_;rintro e w2 ⟨rfl,D1⟩;have D2:Ze [] (w.alloc (.cells #[.int .i64 1,.int .i64 n,.float .f64 x] 106)) w2:=((Zr_ _ _).drew).trans D1;have e0:w2.cell? ⟨w.heap.size,0,none⟩=some (.int .i64 1):=Za (D2.at (Zc _ _) (by simp)) rfl;have e1:w2.cell? ⟨w.heap.size,1,none⟩=some (.int .i64 n):=Za (D2.at (Zc _ _) (by simp)) rfl))
 all_goals
  rename_i hH;obtain ⟨f0,f1,D3⟩:=hH;go_wp2;go_ret;exact ⟨rfl,((Zr_ _ _).alloc _).trans D3⟩
theorem may2 (n:Int) (x:Nat) (len:Int) (h:Zt x=0) (w:World):Calls Tryz.prog 104 #[.agg #[.int .i64 2,.int .i64 n,.float .f64 x],.int .i64 len] w (Ua (n==0) w):=by
 have hx:=rix2;have hf:∀ w,(Instr.field 227 (.agg #[.string {data:=#[100,114,111,112]},.int .i64 (-2),.int .i64 1,.int .i64 0]) 1).run Tryz.prog w=.ok (.int .i64 (-2)) w:=by intro w;kernel_rfl
 have d4:((Zt x:Int)==(Zt 0:Int))=true:=by rw [h];decide+kernel
 have c0:(w.alloc (.cells #[.int .i64 2,.int .i64 n,.float .f64 x] 106)).cell? ⟨w.heap.size,0,none⟩=some (.int .i64 2):=Za (Zc _ _) rfl;have c1:(w.alloc (.cells #[.int .i64 2,.int .i64 n,.float .f64 x] 106)).cell? ⟨w.heap.size,1,none⟩=some (.int .i64 n):=Za (Zc _ _) rfl;go_enter func104,ntmps104;go_wp2_with fail;refine (Xz _ _ _).mono ?_;rintro e w1 ⟨rfl,rfl⟩;rw [d4];go_wp2_with fail
 go_region_held3 (λ wx=>wx.cell? ⟨w.heap.size,0,none⟩=some (.int .i64 2)/\wx.cell? ⟨w.heap.size,1,none⟩=some (.int .i64 n)/\Ze [] (w.alloc (.cells #[.int .i64 2,.int .i64 n,.float .f64 x] 106)) wx)
  (first|exact ⟨c0,c1,(Zr_ _ _).drew⟩|exact ⟨e0,e1,D2⟩|assumption)
  (first|(go_at_call 132;refine (Yn _).mono ?_;rintro e w2 ⟨rfl,D1⟩;have D2:Ze [] (w.alloc (.cells #[.int .i64 2,.int .i64 n,.float .f64 x] 106)) w2:=((Zr_ _ _).drew).trans D1;have e0:w2.cell? ⟨w.heap.size,0,none⟩=some (.int .i64 2):=Za (D2.at (Zc _ _) (by simp)) rfl;have e1:w2.cell? ⟨w.heap.size,1,none⟩=some (.int .i64 n):=Za (D2.at (Zc _ _) (by simp)) rfl))
 all_goals
  rename_i hH;obtain ⟨f0,f1,D3⟩:=hH;go_wp2;go_ret;exact ⟨rfl,((Zr_ _ _).alloc _).trans D3⟩
theorem may3 (n:Int) (x:Nat) (len:Int) (h:Zt x=0) (w:World):Calls Tryz.prog 104 #[.agg #[.int .i64 3,.int .i64 n,.float .f64 x],.int .i64 len] w (Ua (n==0) w):=by
 have hx:=rix3;have hf:∀ w,(Instr.field 227 (.agg #[.string {data:=#[100,117,112]},.int .i64 (-2),.int .i64 1,.int .i64 2]) 1).run Tryz.prog w=.ok (.int .i64 (-2)) w:=by intro w;kernel_rfl
 have d4:((Zt x:Int)==(Zt 0:Int))=true:=by rw [h];decide+kernel
 have c0:(w.alloc (.cells #[.int .i64 3,.int .i64 n,.float .f64 x] 106)).cell? ⟨w.heap.size,0,none⟩=some (.int .i64 3):=Za (Zc _ _) rfl;have c1:(w.alloc (.cells #[.int .i64 3,.int .i64 n,.float .f64 x] 106)).cell? ⟨w.heap.size,1,none⟩=some (.int .i64 n):=Za (Zc _ _) rfl;go_enter func104,ntmps104;go_wp2_with fail;refine (Xz _ _ _).mono ?_;rintro e w1 ⟨rfl,rfl⟩;rw [d4];go_wp2_with fail
 go_region_held3 (λ wx=>wx.cell? ⟨w.heap.size,0,none⟩=some (.int .i64 3)/\wx.cell? ⟨w.heap.size,1,none⟩=some (.int .i64 n)/\Ze [] (w.alloc (.cells #[.int .i64 3,.int .i64 n,.float .f64 x] 106)) wx)
  (first|exact ⟨c0,c1,(Zr_ _ _).drew⟩|exact ⟨e0,e1,D2⟩|assumption)
  (first|(go_at_call 132;refine (Yn _).mono ?_;rintro e w2 ⟨rfl,D1⟩;have D2:Ze [] (w.alloc (.cells #[.int .i64 3,.int .i64 n,.float .f64 x] 106)) w2:=((Zr_ _ _).drew).trans D1;have e0:w2.cell? ⟨w.heap.size,0,none⟩=some (.int .i64 3):=Za (D2.at (Zc _ _) (by simp)) rfl;have e1:w2.cell? ⟨w.heap.size,1,none⟩=some (.int .i64 n):=Za (D2.at (Zc _ _) (by simp)) rfl))
 all_goals
  rename_i hH;obtain ⟨f0,f1,D3⟩:=hH;go_wp2;go_ret;exact ⟨rfl,((Zr_ _ _).alloc _).trans D3⟩
theorem may4 (n:Int) (x:Nat) (len:Int) (h:Zt x=0) (w:World):Calls Tryz.prog 104 #[.agg #[.int .i64 4,.int .i64 n,.float .f64 x],.int .i64 len] w (Ua (n==0) w):=by
 have hx:=rix4;have hf:∀ w,(Instr.field 227 (.agg #[.string {data:=#[115,119,97,112]},.int .i64 (-2),.int .i64 2,.int .i64 2]) 1).run Tryz.prog w=.ok (.int .i64 (-2)) w:=by intro w;kernel_rfl
 have d4:((Zt x:Int)==(Zt 0:Int))=true:=by rw [h];decide+kernel
 have c0:(w.alloc (.cells #[.int .i64 4,.int .i64 n,.float .f64 x] 106)).cell? ⟨w.heap.size,0,none⟩=some (.int .i64 4):=Za (Zc _ _) rfl;have c1:(w.alloc (.cells #[.int .i64 4,.int .i64 n,.float .f64 x] 106)).cell? ⟨w.heap.size,1,none⟩=some (.int .i64 n):=Za (Zc _ _) rfl;go_enter func104,ntmps104;go_wp2_with fail;refine (Xz _ _ _).mono ?_;rintro e w1 ⟨rfl,rfl⟩;rw [d4];go_wp2_with fail
 go_region_held3 (λ wx=>wx.cell? ⟨w.heap.size,0,none⟩=some (.int .i64 4)/\wx.cell? ⟨w.heap.size,1,none⟩=some (.int .i64 n)/\Ze [] (w.alloc (.cells #[.int .i64 4,.int .i64 n,.float .f64 x] 106)) wx)
  (first|exact ⟨c0,c1,(Zr_ _ _).drew⟩|exact ⟨e0,e1,D2⟩|assumption)
  (first|(go_at_call 132;refine (Yn _).mono ?_;rintro e w2 ⟨rfl,D1⟩;have D2:Ze [] (w.alloc (.cells #[.int .i64 4,.int .i64 n,.float .f64 x] 106)) w2:=((Zr_ _ _).drew).trans D1;have e0:w2.cell? ⟨w.heap.size,0,none⟩=some (.int .i64 4):=Za (D2.at (Zc _ _) (by simp)) rfl;have e1:w2.cell? ⟨w.heap.size,1,none⟩=some (.int .i64 n):=Za (D2.at (Zc _ _) (by simp)) rfl))
 all_goals
  rename_i hH;obtain ⟨f0,f1,D3⟩:=hH;go_wp2;go_ret;exact ⟨rfl,((Zr_ _ _).alloc _).trans D3⟩
theorem may5 (n:Int) (x:Nat) (len:Int) (h:Zt x=0) (w:World):Calls Tryz.prog 104 #[.agg #[.int .i64 5,.int .i64 n,.float .f64 x],.int .i64 len] w (Ua (decide (0<=n)&&decide (n<=63)) w):=by
 have hx:=rix5;have hf:∀ w,(Instr.field 227 (.agg #[.string {data:=#[112,105,99,107]},.int .i64 63,.int .i64 0,.int .i64 1]) 1).run Tryz.prog w=.ok (.int .i64 63) w:=by intro w;kernel_rfl
 have d4:((Zt x:Int)==(Zt 0:Int))=true:=by rw [h];decide+kernel
 have c0:(w.alloc (.cells #[.int .i64 5,.int .i64 n,.float .f64 x] 106)).cell? ⟨w.heap.size,0,none⟩=some (.int .i64 5):=Za (Zc _ _) rfl;have c1:(w.alloc (.cells #[.int .i64 5,.int .i64 n,.float .f64 x] 106)).cell? ⟨w.heap.size,1,none⟩=some (.int .i64 n):=Za (Zc _ _) rfl;go_enter func104,ntmps104;go_wp2_with fail;refine (Xz _ _ _).mono ?_;rintro e w1 ⟨rfl,rfl⟩;rw [d4];go_wp2_with fail
 go_region_held3 (λ wx=>wx.cell? ⟨w.heap.size,0,none⟩=some (.int .i64 5)/\wx.cell? ⟨w.heap.size,1,none⟩=some (.int .i64 n)/\Ze [] (w.alloc (.cells #[.int .i64 5,.int .i64 n,.float .f64 x] 106)) wx)
  (first|exact ⟨c0,c1,(Zr_ _ _).drew⟩|exact ⟨e0,e1,D2⟩|assumption)
  (first|(go_at_call 132;refine (Yn _).mono ?_;rintro e w2 ⟨rfl,D1⟩;have D2:Ze [] (w.alloc (.cells #[.int .i64 5,.int .i64 n,.float .f64 x] 106)) w2:=((Zr_ _ _).drew).trans D1;have e0:w2.cell? ⟨w.heap.size,0,none⟩=some (.int .i64 5):=Za (D2.at (Zc _ _) (by simp)) rfl;have e1:w2.cell? ⟨w.heap.size,1,none⟩=some (.int .i64 n):=Za (D2.at (Zc _ _) (by simp)) rfl))
 all_goals
  rename_i hH;obtain ⟨f0,f1,D3⟩:=hH;have D4:=((Zr_ [] w).alloc _).trans D3;clear D3;cases d1:decide (0<=n)
  ·go_wp2;go_ret;exact ⟨by rw [d1];rfl,D4⟩
  ·cases d2:decide (n<=63)
   all_goals
    go_wp2;go_ret;exact ⟨by rw [d1,d2];rfl,D4⟩
theorem may6 (n:Int) (x:Nat) (len:Int) (h:Zt x=0) (w:World):Calls Tryz.prog 104 #[.agg #[.int .i64 6,.int .i64 n,.float .f64 x],.int .i64 len] w (Ua (decide (0<=n)&&decide (n<=7)) w):=by
 have hx:=rix6;have hf:∀ w,(Instr.field 227 (.agg #[.string {data:=#[97,114,103]},.int .i64 7,.int .i64 0,.int .i64 1]) 1).run Tryz.prog w=.ok (.int .i64 7) w:=by intro w;kernel_rfl
 have d4:((Zt x:Int)==(Zt 0:Int))=true:=by rw [h];decide+kernel
 have c0:(w.alloc (.cells #[.int .i64 6,.int .i64 n,.float .f64 x] 106)).cell? ⟨w.heap.size,0,none⟩=some (.int .i64 6):=Za (Zc _ _) rfl;have c1:(w.alloc (.cells #[.int .i64 6,.int .i64 n,.float .f64 x] 106)).cell? ⟨w.heap.size,1,none⟩=some (.int .i64 n):=Za (Zc _ _) rfl;go_enter func104,ntmps104;go_wp2_with fail;refine (Xz _ _ _).mono ?_;rintro e w1 ⟨rfl,rfl⟩;rw [d4];go_wp2_with fail
 go_region_held3 (λ wx=>wx.cell? ⟨w.heap.size,0,none⟩=some (.int .i64 6)/\wx.cell? ⟨w.heap.size,1,none⟩=some (.int .i64 n)/\Ze [] (w.alloc (.cells #[.int .i64 6,.int .i64 n,.float .f64 x] 106)) wx)
  (first|exact ⟨c0,c1,(Zr_ _ _).drew⟩|exact ⟨e0,e1,D2⟩|assumption)
  (first|(go_at_call 132;refine (Yn _).mono ?_;rintro e w2 ⟨rfl,D1⟩;have D2:Ze [] (w.alloc (.cells #[.int .i64 6,.int .i64 n,.float .f64 x] 106)) w2:=((Zr_ _ _).drew).trans D1;have e0:w2.cell? ⟨w.heap.size,0,none⟩=some (.int .i64 6):=Za (D2.at (Zc _ _) (by simp)) rfl;have e1:w2.cell? ⟨w.heap.size,1,none⟩=some (.int .i64 n):=Za (D2.at (Zc _ _) (by simp)) rfl))
 all_goals
  rename_i hH;obtain ⟨f0,f1,D3⟩:=hH;have D4:=((Zr_ [] w).alloc _).trans D3;clear D3;cases d1:decide (0<=n)
  ·go_wp2;go_ret;exact ⟨by rw [d1];rfl,D4⟩
  ·cases d2:decide (n<=7)
   all_goals
    go_wp2;go_ret;exact ⟨by rw [d1,d2];rfl,D4⟩
end
section
attribute [local go_sem] Zj
theorem may7 (n:Int) (x:Nat) (len:Int) (h:Zt x=0) (w:World):Calls Tryz.prog 104 #[.agg #[.int .i64 7,.int .i64 n,.float .f64 x],.int .i64 len] w (Ua (decide (0<=n)&&decide (n<=7)) w):=by
 have hx:=rix7;have hf:∀ w,(Instr.field 227 (.agg #[.string {data:=#[103,101,116]},.int .i64 7,.int .i64 0,.int .i64 1]) 1).run Tryz.prog w=.ok (.int .i64 7) w:=by intro w;kernel_rfl
 have d4:((Zt x:Int)==(Zt 0:Int))=true:=by rw [h];decide+kernel
 have c0:(w.alloc (.cells #[.int .i64 7,.int .i64 n,.float .f64 x] 106)).cell? ⟨w.heap.size,0,none⟩=some (.int .i64 7):=Za (Zc _ _) rfl;have c1:(w.alloc (.cells #[.int .i64 7,.int .i64 n,.float .f64 x] 106)).cell? ⟨w.heap.size,1,none⟩=some (.int .i64 n):=Za (Zc _ _) rfl;go_enter func104,ntmps104;go_wp2_with fail;refine (Xz _ _ _).mono ?_;rintro e w1 ⟨rfl,rfl⟩;rw [d4];go_wp2_with fail
 go_region_held3 (λ wx=>wx.cell? ⟨w.heap.size,0,none⟩=some (.int .i64 7)/\wx.cell? ⟨w.heap.size,1,none⟩=some (.int .i64 n)/\Ze [] (w.alloc (.cells #[.int .i64 7,.int .i64 n,.float .f64 x] 106)) wx)
  (first|exact ⟨c0,c1,(Zr_ _ _).drew⟩|exact ⟨e0,e1,D2⟩|assumption)
  (first|(go_at_call 132;refine (Yn _).mono ?_;rintro e w2 ⟨rfl,D1⟩;have D2:Ze [] (w.alloc (.cells #[.int .i64 7,.int .i64 n,.float .f64 x] 106)) w2:=((Zr_ _ _).drew).trans D1;have e0:w2.cell? ⟨w.heap.size,0,none⟩=some (.int .i64 7):=Za (D2.at (Zc _ _) (by simp)) rfl;have e1:w2.cell? ⟨w.heap.size,1,none⟩=some (.int .i64 n):=Za (D2.at (Zc _ _) (by simp)) rfl))
 all_goals
  rename_i hH;obtain ⟨f0,f1,D3⟩:=hH;have D4:=((Zr_ [] w).alloc _).trans D3;clear D3;cases d1:decide (0<=n)
  ·go_wp2;go_ret;exact ⟨by rw [d1];rfl,D4⟩
  ·cases d2:decide (n<=7)
   all_goals
    go_wp2;go_ret;exact ⟨by rw [d1,d2];rfl,D4⟩
theorem may8 (n:Int) (x:Nat) (len:Int) (h:Zt x=0) (w:World):Calls Tryz.prog 104 #[.agg #[.int .i64 8,.int .i64 n,.float .f64 x],.int .i64 len] w (Ua (decide (0<=n)&&decide (n<=7)) w):=by
 have hx:=rix8;have hf:∀ w,(Instr.field 227 (.agg #[.string {data:=#[115,101,116]},.int .i64 7,.int .i64 1,.int .i64 0]) 1).run Tryz.prog w=.ok (.int .i64 7) w:=by intro w;kernel_rfl
 have d4:((Zt x:Int)==(Zt 0:Int))=true:=by rw [h];decide+kernel
 have c0:(w.alloc (.cells #[.int .i64 8,.int .i64 n,.float .f64 x] 106)).cell? ⟨w.heap.size,0,none⟩=some (.int .i64 8):=Za (Zc _ _) rfl;have c1:(w.alloc (.cells #[.int .i64 8,.int .i64 n,.float .f64 x] 106)).cell? ⟨w.heap.size,1,none⟩=some (.int .i64 n):=Za (Zc _ _) rfl;go_enter func104,ntmps104;go_wp2_with fail;refine (Xz _ _ _).mono ?_;rintro e w1 ⟨rfl,rfl⟩;rw [d4];go_wp2_with fail
 go_region_held3 (λ wx=>wx.cell? ⟨w.heap.size,0,none⟩=some (.int .i64 8)/\wx.cell? ⟨w.heap.size,1,none⟩=some (.int .i64 n)/\Ze [] (w.alloc (.cells #[.int .i64 8,.int .i64 n,.float .f64 x] 106)) wx)
  (first|exact ⟨c0,c1,(Zr_ _ _).drew⟩|exact ⟨e0,e1,D2⟩|assumption)
  (first|(go_at_call 132;refine (Yn _).mono ?_;rintro e w2 ⟨rfl,D1⟩;have D2:Ze [] (w.alloc (.cells #[.int .i64 8,.int .i64 n,.float .f64 x] 106)) w2:=((Zr_ _ _).drew).trans D1;have e0:w2.cell? ⟨w.heap.size,0,none⟩=some (.int .i64 8):=Za (D2.at (Zc _ _) (by simp)) rfl;have e1:w2.cell? ⟨w.heap.size,1,none⟩=some (.int .i64 n):=Za (D2.at (Zc _ _) (by simp)) rfl))
 all_goals
  rename_i hH;obtain ⟨f0,f1,D3⟩:=hH;have D4:=((Zr_ [] w).alloc _).trans D3;clear D3;cases d1:decide (0<=n)
  ·go_wp2;go_ret;exact ⟨by rw [d1];rfl,D4⟩
  ·cases d2:decide (n<=7)
   all_goals
    go_wp2;go_ret;exact ⟨by rw [d1,d2];rfl,D4⟩
theorem may9 (n:Int) (x:Nat) (len:Int) (h:Zt x=0) (w:World):Calls Tryz.prog 104 #[.agg #[.int .i64 9,.int .i64 n,.float .f64 x],.int .i64 len] w (Ua (decide (1<=n)&&decide (n<=8)) w):=by
 have hx:=rix9;have hf:∀ w,(Instr.field 227 (.agg #[.string {data:=#[]},.int .i64 8,.int .i64 1,.int .i64 1]) 1).run Tryz.prog w=.ok (.int .i64 8) w:=by intro w;kernel_rfl
 have d4:((Zt x:Int)==(Zt 0:Int))=true:=by rw [h];decide+kernel
 have c0:(w.alloc (.cells #[.int .i64 9,.int .i64 n,.float .f64 x] 106)).cell? ⟨w.heap.size,0,none⟩=some (.int .i64 9):=Za (Zc _ _) rfl;have c1:(w.alloc (.cells #[.int .i64 9,.int .i64 n,.float .f64 x] 106)).cell? ⟨w.heap.size,1,none⟩=some (.int .i64 n):=Za (Zc _ _) rfl;go_enter func104,ntmps104;go_wp2_with fail;refine (Xz _ _ _).mono ?_;rintro e w1 ⟨rfl,rfl⟩;rw [d4];go_wp2_with fail
 go_region_held3 (λ wx=>wx.cell? ⟨w.heap.size,0,none⟩=some (.int .i64 9)/\wx.cell? ⟨w.heap.size,1,none⟩=some (.int .i64 n)/\Ze [] (w.alloc (.cells #[.int .i64 9,.int .i64 n,.float .f64 x] 106)) wx)
  (first|exact ⟨c0,c1,(Zr_ _ _).drew⟩|exact ⟨e0,e1,D2⟩|assumption)
  (first|(go_at_call 132;refine (Yn _).mono ?_;rintro e w2 ⟨rfl,D1⟩;have D2:Ze [] (w.alloc (.cells #[.int .i64 9,.int .i64 n,.float .f64 x] 106)) w2:=((Zr_ _ _).drew).trans D1;have e0:w2.cell? ⟨w.heap.size,0,none⟩=some (.int .i64 9):=Za (D2.at (Zc _ _) (by simp)) rfl;have e1:w2.cell? ⟨w.heap.size,1,none⟩=some (.int .i64 n):=Za (D2.at (Zc _ _) (by simp)) rfl))
 all_goals
  rename_i hH;obtain ⟨f0,f1,D3⟩:=hH;have D4:=((Zr_ [] w).alloc _).trans D3;clear D3;cases d1:decide (1<=n)
  ·go_wp2;go_ret;exact ⟨by rw [d1];rfl,D4⟩
  ·cases d2:decide (n<=8)
   all_goals
    go_wp2;go_ret;exact ⟨by rw [d1,d2];rfl,D4⟩
theorem may10 (n:Int) (x:Nat) (len:Int) (h:Zt x=0) (w:World):Calls Tryz.prog 104 #[.agg #[.int .i64 10,.int .i64 n,.float .f64 x],.int .i64 len] w (Ua (decide (1<=n)&&decide (n<=12)) w):=by
 have hx:=rix10;have hf:∀ w,(Instr.field 227 (.agg #[.string {data:=#[]},.int .i64 12,.int .i64 2,.int .i64 1]) 1).run Tryz.prog w=.ok (.int .i64 12) w:=by intro w;kernel_rfl
 have d4:((Zt x:Int)==(Zt 0:Int))=true:=by rw [h];decide+kernel
 have c0:(w.alloc (.cells #[.int .i64 10,.int .i64 n,.float .f64 x] 106)).cell? ⟨w.heap.size,0,none⟩=some (.int .i64 10):=Za (Zc _ _) rfl;have c1:(w.alloc (.cells #[.int .i64 10,.int .i64 n,.float .f64 x] 106)).cell? ⟨w.heap.size,1,none⟩=some (.int .i64 n):=Za (Zc _ _) rfl;go_enter func104,ntmps104;go_wp2_with fail;refine (Xz _ _ _).mono ?_;rintro e w1 ⟨rfl,rfl⟩;rw [d4];go_wp2_with fail
 go_region_held3 (λ wx=>wx.cell? ⟨w.heap.size,0,none⟩=some (.int .i64 10)/\wx.cell? ⟨w.heap.size,1,none⟩=some (.int .i64 n)/\Ze [] (w.alloc (.cells #[.int .i64 10,.int .i64 n,.float .f64 x] 106)) wx)
  (first|exact ⟨c0,c1,(Zr_ _ _).drew⟩|exact ⟨e0,e1,D2⟩|assumption)
  (first|(go_at_call 132;refine (Yn _).mono ?_;rintro e w2 ⟨rfl,D1⟩;have D2:Ze [] (w.alloc (.cells #[.int .i64 10,.int .i64 n,.float .f64 x] 106)) w2:=((Zr_ _ _).drew).trans D1;have e0:w2.cell? ⟨w.heap.size,0,none⟩=some (.int .i64 10):=Za (D2.at (Zc _ _) (by simp)) rfl;have e1:w2.cell? ⟨w.heap.size,1,none⟩=some (.int .i64 n):=Za (D2.at (Zc _ _) (by simp)) rfl))
 all_goals
  rename_i hH;obtain ⟨f0,f1,D3⟩:=hH;have D4:=((Zr_ [] w).alloc _).trans D3;clear D3;cases d1:decide (1<=n)
  ·go_wp2;go_ret;exact ⟨by rw [d1];rfl,D4⟩
  ·cases d2:decide (n<=12)
   all_goals
    go_wp2;go_ret;exact ⟨by rw [d1,d2];rfl,D4⟩
theorem may11 (n:Int) (x:Nat) (len:Int) (h:Zt x=0) (w:World):Calls Tryz.prog 104 #[.agg #[.int .i64 11,.int .i64 n,.float .f64 x],.int .i64 len] w (Ua (decide (0<=n)&&decide (n < len)) w):=by
 have hx:=rix11;have hf:∀ w,(Instr.field 227 (.agg #[.string {data:=#[106,117,109,112]},.int .i64 (-1),.int .i64 0,.int .i64 0]) 1).run Tryz.prog w=.ok (.int .i64 (-1)) w:=by intro w;kernel_rfl
 have d4:((Zt x:Int)==(Zt 0:Int))=true:=by rw [h];decide+kernel
 have c0:(w.alloc (.cells #[.int .i64 11,.int .i64 n,.float .f64 x] 106)).cell? ⟨w.heap.size,0,none⟩=some (.int .i64 11):=Za (Zc _ _) rfl;have c1:(w.alloc (.cells #[.int .i64 11,.int .i64 n,.float .f64 x] 106)).cell? ⟨w.heap.size,1,none⟩=some (.int .i64 n):=Za (Zc _ _) rfl;go_enter func104,ntmps104;go_wp2_with fail;refine (Xz _ _ _).mono ?_;rintro e w1 ⟨rfl,rfl⟩;rw [d4];go_wp2_with fail
 go_region_held3 (λ wx=>wx.cell? ⟨w.heap.size,0,none⟩=some (.int .i64 11)/\wx.cell? ⟨w.heap.size,1,none⟩=some (.int .i64 n)/\Ze [] (w.alloc (.cells #[.int .i64 11,.int .i64 n,.float .f64 x] 106)) wx)
  (first|exact ⟨c0,c1,(Zr_ _ _).drew⟩|exact ⟨e0,e1,D2⟩|assumption)
  (first|(go_at_call 132;refine (Yn _).mono ?_;rintro e w2 ⟨rfl,D1⟩;have D2:Ze [] (w.alloc (.cells #[.int .i64 11,.int .i64 n,.float .f64 x] 106)) w2:=((Zr_ _ _).drew).trans D1;have e0:w2.cell? ⟨w.heap.size,0,none⟩=some (.int .i64 11):=Za (D2.at (Zc _ _) (by simp)) rfl;have e1:w2.cell? ⟨w.heap.size,1,none⟩=some (.int .i64 n):=Za (D2.at (Zc _ _) (by simp)) rfl))
 all_goals
  rename_i hH;obtain ⟨f0,f1,D3⟩:=hH;have D4:=((Zr_ [] w).alloc _).trans D3;clear D3;cases d1:decide (0<=n)
  ·go_wp2;go_ret;exact ⟨by rw [d1];rfl,D4⟩
  ·cases d2:decide (n < len)
   all_goals
    go_wp2;go_ret;exact ⟨by rw [d1,d2];rfl,D4⟩
theorem may12 (n:Int) (x:Nat) (len:Int) (h:Zt x=0) (w:World):Calls Tryz.prog 104 #[.agg #[.int .i64 12,.int .i64 n,.float .f64 x],.int .i64 len] w (Ua (decide (0<=n)&&decide (n < len)) w):=by
 have hx:=rix12;have hf:∀ w,(Instr.field 227 (.agg #[.string {data:=#[105,102]},.int .i64 (-1),.int .i64 1,.int .i64 0]) 1).run Tryz.prog w=.ok (.int .i64 (-1)) w:=by intro w;kernel_rfl
 have d4:((Zt x:Int)==(Zt 0:Int))=true:=by rw [h];decide+kernel
 have c0:(w.alloc (.cells #[.int .i64 12,.int .i64 n,.float .f64 x] 106)).cell? ⟨w.heap.size,0,none⟩=some (.int .i64 12):=Za (Zc _ _) rfl;have c1:(w.alloc (.cells #[.int .i64 12,.int .i64 n,.float .f64 x] 106)).cell? ⟨w.heap.size,1,none⟩=some (.int .i64 n):=Za (Zc _ _) rfl;go_enter func104,ntmps104;go_wp2_with fail;refine (Xz _ _ _).mono ?_;rintro e w1 ⟨rfl,rfl⟩;rw [d4];go_wp2_with fail
 go_region_held3 (λ wx=>wx.cell? ⟨w.heap.size,0,none⟩=some (.int .i64 12)/\wx.cell? ⟨w.heap.size,1,none⟩=some (.int .i64 n)/\Ze [] (w.alloc (.cells #[.int .i64 12,.int .i64 n,.float .f64 x] 106)) wx)
  (first|exact ⟨c0,c1,(Zr_ _ _).drew⟩|exact ⟨e0,e1,D2⟩|assumption)
  (first|(go_at_call 132;refine (Yn _).mono ?_;rintro e w2 ⟨rfl,D1⟩;have D2:Ze [] (w.alloc (.cells #[.int .i64 12,.int .i64 n,.float .f64 x] 106)) w2:=((Zr_ _ _).drew).trans D1;have e0:w2.cell? ⟨w.heap.size,0,none⟩=some (.int .i64 12):=Za (D2.at (Zc _ _) (by simp)) rfl;have e1:w2.cell? ⟨w.heap.size,1,none⟩=some (.int .i64 n):=Za (D2.at (Zc _ _) (by simp)) rfl))
 all_goals
  rename_i hH;obtain ⟨f0,f1,D3⟩:=hH;have D4:=((Zr_ [] w).alloc _).trans D3;clear D3;cases d1:decide (0<=n)
  ·go_wp2;go_ret;exact ⟨by rw [d1];rfl,D4⟩
  ·cases d2:decide (n < len)
   all_goals
    go_wp2;go_ret;exact ⟨by rw [d1,d2];rfl,D4⟩
theorem may13 (n:Int) (x:Nat) (len:Int) (h:Zt x=0) (w:World):Calls Tryz.prog 104 #[.agg #[.int .i64 13,.int .i64 n,.float .f64 x],.int .i64 len] w (Ua (decide (0<=n)&&decide (n < len)) w):=by
 have hx:=rix13;have hf:∀ w,(Instr.field 227 (.agg #[.string {data:=#[117,110,108,101,115,115]},.int .i64 (-1),.int .i64 1,.int .i64 0]) 1).run Tryz.prog w=.ok (.int .i64 (-1)) w:=by intro w;kernel_rfl
 have d4:((Zt x:Int)==(Zt 0:Int))=true:=by rw [h];decide+kernel
 have c0:(w.alloc (.cells #[.int .i64 13,.int .i64 n,.float .f64 x] 106)).cell? ⟨w.heap.size,0,none⟩=some (.int .i64 13):=Za (Zc _ _) rfl;have c1:(w.alloc (.cells #[.int .i64 13,.int .i64 n,.float .f64 x] 106)).cell? ⟨w.heap.size,1,none⟩=some (.int .i64 n):=Za (Zc _ _) rfl;go_enter func104,ntmps104;go_wp2_with fail;refine (Xz _ _ _).mono ?_;rintro e w1 ⟨rfl,rfl⟩;rw [d4];go_wp2_with fail
 go_region_held3 (λ wx=>wx.cell? ⟨w.heap.size,0,none⟩=some (.int .i64 13)/\wx.cell? ⟨w.heap.size,1,none⟩=some (.int .i64 n)/\Ze [] (w.alloc (.cells #[.int .i64 13,.int .i64 n,.float .f64 x] 106)) wx)
  (first|exact ⟨c0,c1,(Zr_ _ _).drew⟩|exact ⟨e0,e1,D2⟩|assumption)
  (first|(go_at_call 132;refine (Yn _).mono ?_;rintro e w2 ⟨rfl,D1⟩;have D2:Ze [] (w.alloc (.cells #[.int .i64 13,.int .i64 n,.float .f64 x] 106)) w2:=((Zr_ _ _).drew).trans D1;have e0:w2.cell? ⟨w.heap.size,0,none⟩=some (.int .i64 13):=Za (D2.at (Zc _ _) (by simp)) rfl;have e1:w2.cell? ⟨w.heap.size,1,none⟩=some (.int .i64 n):=Za (D2.at (Zc _ _) (by simp)) rfl))
 all_goals
  rename_i hH;obtain ⟨f0,f1,D3⟩:=hH;have D4:=((Zr_ [] w).alloc _).trans D3;clear D3;cases d1:decide (0<=n)
  ·go_wp2;go_ret;exact ⟨by rw [d1];rfl,D4⟩
  ·cases d2:decide (n < len)
   all_goals
    go_wp2;go_ret;exact ⟨by rw [d1,d2];rfl,D4⟩
end
end Go.Proofs.YtkhonmhnchdpkaaGreat

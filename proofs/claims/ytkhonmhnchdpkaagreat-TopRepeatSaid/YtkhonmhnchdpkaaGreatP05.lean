/- A part of the proof; no condition. -/
import Derived.Test.YtkhonmhnchdpkaaGreatP04
import Derived.WalkSmall
set_option maxRecDepth 100000
set_option maxHeartbeats 40000000
namespace Go.Proofs.YtkhonmhnchdpkaaGreat
open Go.RowKit _root_.Go.Proofs.Tryz
section
attribute [local go_sem] Zj
theorem may14 (n:Int) (x:Nat) (len:Int) (h:Zt x=0) (w:World):Calls Tryz.prog 104 #[.agg #[.int .i64 14,.int .i64 n,.float .f64 x],.int .i64 len] w (Ua (decide (0<=n)&&decide (n < len)) w):=by
 have hx:=rix14;have hf:∀ w,(Instr.field 227 (.agg #[.string {data:=#[99,97,108,108]},.int .i64 (-1),.int .i64 0,.int .i64 0]) 1).run Tryz.prog w=.ok (.int .i64 (-1)) w:=by intro w;kernel_rfl
 have d4:((Zt x:Int)==(Zt 0:Int))=true:=by rw [h];decide+kernel
 have c0:(w.alloc (.cells #[.int .i64 14,.int .i64 n,.float .f64 x] 106)).cell? ⟨w.heap.size,0,none⟩=some (.int .i64 14):=Za (Zc _ _) rfl;have c1:(w.alloc (.cells #[.int .i64 14,.int .i64 n,.float .f64 x] 106)).cell? ⟨w.heap.size,1,none⟩=some (.int .i64 n):=Za (Zc _ _) rfl;go_enter func104,ntmps104;go_wp2_with fail;refine (Xz _ _ _).mono ?_;rintro e w1 ⟨rfl,rfl⟩;rw [d4];go_wp2_with fail
 go_region_held3 (λ wx=>wx.cell? ⟨w.heap.size,0,none⟩=some (.int .i64 14)/\wx.cell? ⟨w.heap.size,1,none⟩=some (.int .i64 n)/\Ze [] (w.alloc (.cells #[.int .i64 14,.int .i64 n,.float .f64 x] 106)) wx)
  (first|exact ⟨c0,c1,(Zr_ _ _).drew⟩|exact ⟨e0,e1,D2⟩|assumption)
  (first|(go_at_call 132;refine (Yn _).mono ?_;rintro e w2 ⟨rfl,D1⟩;have D2:Ze [] (w.alloc (.cells #[.int .i64 14,.int .i64 n,.float .f64 x] 106)) w2:=((Zr_ _ _).drew).trans D1;have e0:w2.cell? ⟨w.heap.size,0,none⟩=some (.int .i64 14):=Za (D2.at (Zc _ _) (by simp)) rfl;have e1:w2.cell? ⟨w.heap.size,1,none⟩=some (.int .i64 n):=Za (D2.at (Zc _ _) (by simp)) rfl))
 all_goals
  rename_i hH;obtain ⟨f0,f1,D3⟩:=hH;have D4:=((Zr_ [] w).alloc _).trans D3;clear D3;cases d1:decide (0<=n)
  ·go_wp2;go_ret;exact ⟨by rw [d1];rfl,D4⟩
  ·cases d2:decide (n < len)
   all_goals
    go_wp2;go_ret;exact ⟨by rw [d1,d2];rfl,D4⟩
theorem may15 (n:Int) (x:Nat) (len:Int) (h:Zt x=0) (w:World):Calls Tryz.prog 104 #[.agg #[.int .i64 15,.int .i64 n,.float .f64 x],.int .i64 len] w (Ua (n==0) w):=by
 have hx:=rix15;have hf:∀ w,(Instr.field 227 (.agg #[.string {data:=#[114,101,116]},.int .i64 (-2),.int .i64 0,.int .i64 0]) 1).run Tryz.prog w=.ok (.int .i64 (-2)) w:=by intro w;kernel_rfl
 have d4:((Zt x:Int)==(Zt 0:Int))=true:=by rw [h];decide+kernel
 have c0:(w.alloc (.cells #[.int .i64 15,.int .i64 n,.float .f64 x] 106)).cell? ⟨w.heap.size,0,none⟩=some (.int .i64 15):=Za (Zc _ _) rfl;have c1:(w.alloc (.cells #[.int .i64 15,.int .i64 n,.float .f64 x] 106)).cell? ⟨w.heap.size,1,none⟩=some (.int .i64 n):=Za (Zc _ _) rfl;go_enter func104,ntmps104;go_wp2_with fail;refine (Xz _ _ _).mono ?_;rintro e w1 ⟨rfl,rfl⟩;rw [d4];go_wp2_with fail
 go_region_held3 (λ wx=>wx.cell? ⟨w.heap.size,0,none⟩=some (.int .i64 15)/\wx.cell? ⟨w.heap.size,1,none⟩=some (.int .i64 n)/\Ze [] (w.alloc (.cells #[.int .i64 15,.int .i64 n,.float .f64 x] 106)) wx)
  (first|exact ⟨c0,c1,(Zr_ _ _).drew⟩|exact ⟨e0,e1,D2⟩|assumption)
  (first|(go_at_call 132;refine (Yn _).mono ?_;rintro e w2 ⟨rfl,D1⟩;have D2:Ze [] (w.alloc (.cells #[.int .i64 15,.int .i64 n,.float .f64 x] 106)) w2:=((Zr_ _ _).drew).trans D1;have e0:w2.cell? ⟨w.heap.size,0,none⟩=some (.int .i64 15):=Za (D2.at (Zc _ _) (by simp)) rfl;have e1:w2.cell? ⟨w.heap.size,1,none⟩=some (.int .i64 n):=Za (D2.at (Zc _ _) (by simp)) rfl))
 all_goals
  rename_i hH;obtain ⟨f0,f1,D3⟩:=hH;go_wp2;go_ret;exact ⟨rfl,((Zr_ _ _).alloc _).trans D3⟩
theorem may16 (n:Int) (x:Nat) (len:Int) (h:Zt x=0) (w:World):Calls Tryz.prog 104 #[.agg #[.int .i64 16,.int .i64 n,.float .f64 x],.int .i64 len] w (Ua (n==0) w):=by
 have hx:=rix16;have hf:∀ w,(Instr.field 227 (.agg #[.string {data:=#[114,101,97,100]},.int .i64 (-2),.int .i64 1,.int .i64 1]) 1).run Tryz.prog w=.ok (.int .i64 (-2)) w:=by intro w;kernel_rfl
 have d4:((Zt x:Int)==(Zt 0:Int))=true:=by rw [h];decide+kernel
 have c0:(w.alloc (.cells #[.int .i64 16,.int .i64 n,.float .f64 x] 106)).cell? ⟨w.heap.size,0,none⟩=some (.int .i64 16):=Za (Zc _ _) rfl;have c1:(w.alloc (.cells #[.int .i64 16,.int .i64 n,.float .f64 x] 106)).cell? ⟨w.heap.size,1,none⟩=some (.int .i64 n):=Za (Zc _ _) rfl;go_enter func104,ntmps104;go_wp2_with fail;refine (Xz _ _ _).mono ?_;rintro e w1 ⟨rfl,rfl⟩;rw [d4];go_wp2_with fail
 go_region_held3 (λ wx=>wx.cell? ⟨w.heap.size,0,none⟩=some (.int .i64 16)/\wx.cell? ⟨w.heap.size,1,none⟩=some (.int .i64 n)/\Ze [] (w.alloc (.cells #[.int .i64 16,.int .i64 n,.float .f64 x] 106)) wx)
  (first|exact ⟨c0,c1,(Zr_ _ _).drew⟩|exact ⟨e0,e1,D2⟩|assumption)
  (first|(go_at_call 132;refine (Yn _).mono ?_;rintro e w2 ⟨rfl,D1⟩;have D2:Ze [] (w.alloc (.cells #[.int .i64 16,.int .i64 n,.float .f64 x] 106)) w2:=((Zr_ _ _).drew).trans D1;have e0:w2.cell? ⟨w.heap.size,0,none⟩=some (.int .i64 16):=Za (D2.at (Zc _ _) (by simp)) rfl;have e1:w2.cell? ⟨w.heap.size,1,none⟩=some (.int .i64 n):=Za (D2.at (Zc _ _) (by simp)) rfl))
 all_goals
  rename_i hH;obtain ⟨f0,f1,D3⟩:=hH;go_wp2;go_ret;exact ⟨rfl,((Zr_ _ _).alloc _).trans D3⟩
theorem may17 (n:Int) (x:Nat) (len:Int) (h:Zt x=0) (w:World):Calls Tryz.prog 104 #[.agg #[.int .i64 17,.int .i64 n,.float .f64 x],.int .i64 len] w (Ua (n==0) w):=by
 have hx:=rix17;have hf:∀ w,(Instr.field 227 (.agg #[.string {data:=#[119,114,105,116,101]},.int .i64 (-2),.int .i64 2,.int .i64 0]) 1).run Tryz.prog w=.ok (.int .i64 (-2)) w:=by intro w;kernel_rfl
 have d4:((Zt x:Int)==(Zt 0:Int))=true:=by rw [h];decide+kernel
 have c0:(w.alloc (.cells #[.int .i64 17,.int .i64 n,.float .f64 x] 106)).cell? ⟨w.heap.size,0,none⟩=some (.int .i64 17):=Za (Zc _ _) rfl;have c1:(w.alloc (.cells #[.int .i64 17,.int .i64 n,.float .f64 x] 106)).cell? ⟨w.heap.size,1,none⟩=some (.int .i64 n):=Za (Zc _ _) rfl;go_enter func104,ntmps104;go_wp2_with fail;refine (Xz _ _ _).mono ?_;rintro e w1 ⟨rfl,rfl⟩;rw [d4];go_wp2_with fail
 go_region_held3 (λ wx=>wx.cell? ⟨w.heap.size,0,none⟩=some (.int .i64 17)/\wx.cell? ⟨w.heap.size,1,none⟩=some (.int .i64 n)/\Ze [] (w.alloc (.cells #[.int .i64 17,.int .i64 n,.float .f64 x] 106)) wx)
  (first|exact ⟨c0,c1,(Zr_ _ _).drew⟩|exact ⟨e0,e1,D2⟩|assumption)
  (first|(go_at_call 132;refine (Yn _).mono ?_;rintro e w2 ⟨rfl,D1⟩;have D2:Ze [] (w.alloc (.cells #[.int .i64 17,.int .i64 n,.float .f64 x] 106)) w2:=((Zr_ _ _).drew).trans D1;have e0:w2.cell? ⟨w.heap.size,0,none⟩=some (.int .i64 17):=Za (D2.at (Zc _ _) (by simp)) rfl;have e1:w2.cell? ⟨w.heap.size,1,none⟩=some (.int .i64 n):=Za (D2.at (Zc _ _) (by simp)) rfl))
 all_goals
  rename_i hH;obtain ⟨f0,f1,D3⟩:=hH;go_wp2;go_ret;exact ⟨rfl,((Zr_ _ _).alloc _).trans D3⟩
theorem may18 (n:Int) (x:Nat) (len:Int) (h:Zt x=0) (w:World):Calls Tryz.prog 104 #[.agg #[.int .i64 18,.int .i64 n,.float .f64 x],.int .i64 len] w (Ua (n==0) w):=by
 have hx:=rix18;have hf:∀ w,(Instr.field 227 (.agg #[.string {data:=#[101,109,105,116]},.int .i64 (-2),.int .i64 1,.int .i64 0]) 1).run Tryz.prog w=.ok (.int .i64 (-2)) w:=by intro w;kernel_rfl
 have d4:((Zt x:Int)==(Zt 0:Int))=true:=by rw [h];decide+kernel
 have c0:(w.alloc (.cells #[.int .i64 18,.int .i64 n,.float .f64 x] 106)).cell? ⟨w.heap.size,0,none⟩=some (.int .i64 18):=Za (Zc _ _) rfl;have c1:(w.alloc (.cells #[.int .i64 18,.int .i64 n,.float .f64 x] 106)).cell? ⟨w.heap.size,1,none⟩=some (.int .i64 n):=Za (Zc _ _) rfl;go_enter func104,ntmps104;go_wp2_with fail;refine (Xz _ _ _).mono ?_;rintro e w1 ⟨rfl,rfl⟩;rw [d4];go_wp2_with fail
 go_region_held3 (λ wx=>wx.cell? ⟨w.heap.size,0,none⟩=some (.int .i64 18)/\wx.cell? ⟨w.heap.size,1,none⟩=some (.int .i64 n)/\Ze [] (w.alloc (.cells #[.int .i64 18,.int .i64 n,.float .f64 x] 106)) wx)
  (first|exact ⟨c0,c1,(Zr_ _ _).drew⟩|exact ⟨e0,e1,D2⟩|assumption)
  (first|(go_at_call 132;refine (Yn _).mono ?_;rintro e w2 ⟨rfl,D1⟩;have D2:Ze [] (w.alloc (.cells #[.int .i64 18,.int .i64 n,.float .f64 x] 106)) w2:=((Zr_ _ _).drew).trans D1;have e0:w2.cell? ⟨w.heap.size,0,none⟩=some (.int .i64 18):=Za (D2.at (Zc _ _) (by simp)) rfl;have e1:w2.cell? ⟨w.heap.size,1,none⟩=some (.int .i64 n):=Za (D2.at (Zc _ _) (by simp)) rfl))
 all_goals
  rename_i hH;obtain ⟨f0,f1,D3⟩:=hH;go_wp2;go_ret;exact ⟨rfl,((Zr_ _ _).alloc _).trans D3⟩
theorem may19 (n:Int) (x:Nat) (len:Int) (h:Zt x=0) (w:World):Calls Tryz.prog 104 #[.agg #[.int .i64 19,.int .i64 n,.float .f64 x],.int .i64 len] w (Ua (decide (0<=n)&&decide (n<=99)) w):=by
 have hx:=rix19;have hf:∀ w,(Instr.field 227 (.agg #[.string {data:=#[97,98,111,114,116]},.int .i64 99,.int .i64 0,.int .i64 0]) 1).run Tryz.prog w=.ok (.int .i64 99) w:=by intro w;kernel_rfl
 have d4:((Zt x:Int)==(Zt 0:Int))=true:=by rw [h];decide+kernel
 have c0:(w.alloc (.cells #[.int .i64 19,.int .i64 n,.float .f64 x] 106)).cell? ⟨w.heap.size,0,none⟩=some (.int .i64 19):=Za (Zc _ _) rfl;have c1:(w.alloc (.cells #[.int .i64 19,.int .i64 n,.float .f64 x] 106)).cell? ⟨w.heap.size,1,none⟩=some (.int .i64 n):=Za (Zc _ _) rfl;go_enter func104,ntmps104;go_wp2_with fail;refine (Xz _ _ _).mono ?_;rintro e w1 ⟨rfl,rfl⟩;rw [d4];go_wp2_with fail
 go_region_held3 (λ wx=>wx.cell? ⟨w.heap.size,0,none⟩=some (.int .i64 19)/\wx.cell? ⟨w.heap.size,1,none⟩=some (.int .i64 n)/\Ze [] (w.alloc (.cells #[.int .i64 19,.int .i64 n,.float .f64 x] 106)) wx)
  (first|exact ⟨c0,c1,(Zr_ _ _).drew⟩|exact ⟨e0,e1,D2⟩|assumption)
  (first|(go_at_call 132;refine (Yn _).mono ?_;rintro e w2 ⟨rfl,D1⟩;have D2:Ze [] (w.alloc (.cells #[.int .i64 19,.int .i64 n,.float .f64 x] 106)) w2:=((Zr_ _ _).drew).trans D1;have e0:w2.cell? ⟨w.heap.size,0,none⟩=some (.int .i64 19):=Za (D2.at (Zc _ _) (by simp)) rfl;have e1:w2.cell? ⟨w.heap.size,1,none⟩=some (.int .i64 n):=Za (D2.at (Zc _ _) (by simp)) rfl))
 all_goals
  rename_i hH;obtain ⟨f0,f1,D3⟩:=hH;have D4:=((Zr_ [] w).alloc _).trans D3;clear D3;cases d1:decide (0<=n)
  ·go_wp2;go_ret;exact ⟨by rw [d1];rfl,D4⟩
  ·cases d2:decide (n<=99)
   all_goals
    go_wp2;go_ret;exact ⟨by rw [d1,d2];rfl,D4⟩
theorem may20 (n:Int) (x:Nat) (len:Int) (h:Zt x=0) (w:World):Calls Tryz.prog 104 #[.agg #[.int .i64 20,.int .i64 n,.float .f64 x],.int .i64 len] w (Ua (n==0) w):=by
 have hx:=rix20;have hf:∀ w,(Instr.field 227 (.agg #[.string {data:=#[104,97,108,116]},.int .i64 (-2),.int .i64 0,.int .i64 0]) 1).run Tryz.prog w=.ok (.int .i64 (-2)) w:=by intro w;kernel_rfl
 have d4:((Zt x:Int)==(Zt 0:Int))=true:=by rw [h];decide+kernel
 have c0:(w.alloc (.cells #[.int .i64 20,.int .i64 n,.float .f64 x] 106)).cell? ⟨w.heap.size,0,none⟩=some (.int .i64 20):=Za (Zc _ _) rfl;have c1:(w.alloc (.cells #[.int .i64 20,.int .i64 n,.float .f64 x] 106)).cell? ⟨w.heap.size,1,none⟩=some (.int .i64 n):=Za (Zc _ _) rfl;go_enter func104,ntmps104;go_wp2_with fail;refine (Xz _ _ _).mono ?_;rintro e w1 ⟨rfl,rfl⟩;rw [d4];go_wp2_with fail
 go_region_held3 (λ wx=>wx.cell? ⟨w.heap.size,0,none⟩=some (.int .i64 20)/\wx.cell? ⟨w.heap.size,1,none⟩=some (.int .i64 n)/\Ze [] (w.alloc (.cells #[.int .i64 20,.int .i64 n,.float .f64 x] 106)) wx)
  (first|exact ⟨c0,c1,(Zr_ _ _).drew⟩|exact ⟨e0,e1,D2⟩|assumption)
  (first|(go_at_call 132;refine (Yn _).mono ?_;rintro e w2 ⟨rfl,D1⟩;have D2:Ze [] (w.alloc (.cells #[.int .i64 20,.int .i64 n,.float .f64 x] 106)) w2:=((Zr_ _ _).drew).trans D1;have e0:w2.cell? ⟨w.heap.size,0,none⟩=some (.int .i64 20):=Za (D2.at (Zc _ _) (by simp)) rfl;have e1:w2.cell? ⟨w.heap.size,1,none⟩=some (.int .i64 n):=Za (D2.at (Zc _ _) (by simp)) rfl))
 all_goals
  rename_i hH;obtain ⟨f0,f1,D3⟩:=hH;go_wp2;go_ret;exact ⟨rfl,((Zr_ _ _).alloc _).trans D3⟩
end
section
attribute [local go_sem] Zj
variable {w w':World}
theorem may_c (i:Xf) (len:Int) (w:World):Calls Tryz.prog 104 #[i.val,.int .i64 len] w (Ua (i.may len) w):=by
 obtain ⟨op,n,x⟩:=i
 by_cases h1:op<=0
 ·have e:Xf.may ⟨op,n,x⟩ len=false:=by unfold Xf.may;rw [if_pos (.inl h1)]
  rw [e];exact may_low op n x len h1 w
 by_cases h2:20 < op
 ·have e:Xf.may ⟨op,n,x⟩ len=false:=by unfold Xf.may;rw [if_pos (.inr h2)]
  rw [e];exact may_high op n x len h2 w
 by_cases h3:op≠1/\Zt x≠0
 ·have e:Xf.may ⟨op,n,x⟩ len=false:=by unfold Xf.may;rw [if_neg (by simp only;omega),if_pos h3]
  rw [e];exact may_x op n x len (by omega) (by omega) h3.1 h3.2 w
 have e:Xf.may ⟨op,n,x⟩ len=(if Vy op=-2 then n==0
 else if Vy op=-1 then decide (0<=n)&&decide (n < len)
 else if op=9\/op=10 then decide (1<=n)&&decide (n<=Vy op)
 else decide (0<=n)&&decide (n<=Vy op)):=by unfold Xf.may;rw [if_neg (by simp only;omega),if_neg h3]
 rw [e];clear e;have hx:op≠1->Zt x=0:=λ h=>Classical.not_not.mp λ h'=>h3 ⟨h,h'⟩;rcases (show op=1\/op=2\/op=3\/op=4\/op=5\/op=6\/op=7\/op=8\/op=9\/op=10\/op=11\/op=12\/op=13\/op=14\/op=15\/op=16\/op=17\/op=18\/op=19\/op=20 by omega) with rfl|rfl|rfl|rfl|rfl|rfl|rfl|rfl|rfl|rfl|rfl|rfl|rfl|rfl|rfl|rfl|rfl|rfl|rfl|rfl
 ·exact may1 n x len w
 ·exact may2 n x len (hx (by decide)) w
 ·exact may3 n x len (hx (by decide)) w
 ·exact may4 n x len (hx (by decide)) w
 ·exact may5 n x len (hx (by decide)) w
 ·exact may6 n x len (hx (by decide)) w
 ·exact may7 n x len (hx (by decide)) w
 ·exact may8 n x len (hx (by decide)) w
 ·exact may9 n x len (hx (by decide)) w
 ·exact may10 n x len (hx (by decide)) w
 ·exact may11 n x len (hx (by decide)) w
 ·exact may12 n x len (hx (by decide)) w
 ·exact may13 n x len (hx (by decide)) w
 ·exact may14 n x len (hx (by decide)) w
 ·exact may15 n x len (hx (by decide)) w
 ·exact may16 n x len (hx (by decide)) w
 ·exact may17 n x len (hx (by decide)) w
 ·exact may18 n x len (hx (by decide)) w
 ·exact may19 n x len (hx (by decide)) w
 ·exact may20 n x len (hx (by decide)) w
def Yk (l:List Xf):List Value:=l.flatMap (λ i=>[Value.int .i64 i.op,Value.int .i64 i.n,Value.float .f64 i.x])
theorem Fg (l:List Xf):(Yk l).length=l.length * 3:=by
 induction l with
 |nil=>rfl
 |cons p l ih=>simp [Yk] at ih ⊢;omega
theorem Tt {l:List Xf} {k:Nat} {i:Xf} (h:l[k]? =some i):(Yk l)[k * 3]? =some (.int .i64 i.op)/\(Yk l)[k * 3+1]? =some (.int .i64 i.n)/\(Yk l)[k * 3+2]? =some (.float .f64 i.x):=by
 induction l generalizing k with
 |nil=>simp at h
 |cons p l ih=>
  cases k with
  |zero=>simp at h;subst h;exact ⟨rfl,rfl,rfl⟩
  |succ k=>
   have:=ih (k:=k) (by simpa using h);have e:Yk (p :: l)=[Value.int .i64 p.op,Value.int .i64 p.n,Value.float .f64 p.x]++Yk l:=rfl;rw [e];have e3:∀ j,([Value.int .i64 p.op,Value.int .i64 p.n,Value.float .f64 p.x]++Yk l)[(k+1) * 3+j]? =(Yk l)[k * 3+j]?:=λ j=>by
    rw [List.getElem?_append_right (by simp;omega)];congr 1
    simp;omega
   exact ⟨(e3 0).trans this.1,(e3 1).trans this.2.1,(e3 2).trans this.2.2⟩
def Xv (tag:Int) (code:List Xf):Bool:=(tag==1 || tag==2)&&decide (0 < code.length)&&decide (code.length<=1024)&&code.all (λ i=>i.may code.length)
end
section
attribute [local go_sem] Zj
variable {w w':World} {v:Value} {code:List Xf} {tag:Int}
theorem Zs {t:TypeId} {n z:Nat} {xs:List Value} {S:List Nat} (h:w.ownsRow 0 t z v n xs) (m:Ze S w w') (hu:∀ g,v.ownBlock=some g->g∉S):w'.ownsRow 0 t z v n xs:=by
 refine ⟨h.1,?_⟩;rcases h.2 with hn|⟨g,cap,cur,rfl,hb,hgg,rest⟩
 ·exact .inl hn
 ·exact .inr ⟨g,cap,cur,rfl,hb,m.at hgg (hu g rfl),rest⟩
def Sa (b:Bool):Int:=if b then 0 else 50
theorem Dv (h:code.length=0\/1024 < code.length):Xv tag code=false:=by
 unfold Xv;rcases h with h|h
 ·simp [h]
 ·have:decide (code.length<=1024)=false:=decide_eq_false (by omega);simp [this]
theorem check_c (h:w.ownsRow 0 106 3 v code.length (Yk code)):Calls Tryz.prog 85 #[.agg #[.int .i64 tag,v]] w λ e w'=>e=.returned (.int .i64 (Sa (Xv tag code)))/\Ze [] w w':=by
 obtain ⟨a,cap,rfl⟩:=Zo h;have B0:=Zc w (.cells #[.int .i64 tag,.slice a code.length cap] 110);have c0:(w.alloc (.cells #[.int .i64 tag,.slice a code.length cap] 110)).cell? ⟨w.heap.size,0,none⟩=some (.int .i64 tag):=Za B0 rfl;have c1:(w.alloc (.cells #[.int .i64 tag,.slice a code.length cap] 110)).cell? ⟨w.heap.size,1,none⟩=some (.slice a code.length cap):=Za B0 rfl
 by_cases ht:tag=1\/tag=2
 ·by_cases hl0:code.length=0
  ·rw [Dv (.inl hl0)];have d0:((code.length:Int)==0)=true:=by simp [hl0]
   clear B0 h;rcases ht with rfl|rfl
   all_goals
    go_enter func85,ntmps85;go_wp2;go_ret;exact ⟨rfl,(Zr_ _ _).alloc _⟩
  ·have d0:((code.length:Int)==0)=false:=beq_eq_false_iff_ne.2 (by omega)
   by_cases hl1:1024 < code.length
   ·rw [Dv (.inr hl1)];have d1:decide ((1024:Int) < code.length)=true:=decide_eq_true (by omega);clear B0 h;rcases ht with rfl|rfl
    all_goals
     go_enter func85,ntmps85;go_wp2;go_ret;exact ⟨rfl,(Zr_ _ _).alloc _⟩
   ·have d1:decide ((1024:Int) < code.length)=false:=decide_eq_false (by omega);obtain ⟨g,cap',hv,-⟩:=Yd h (by omega);simp only [Value.slice.injEq,true_and] at hv;obtain ⟨rfl,rfl⟩:=hv;have hh:=h.alloc (.cells #[.int .i64 tag,.slice (some ⟨g,0,none⟩) code.length cap] 110);have hm0:Ze [] w (w.alloc (.cells #[.int .i64 tag,.slice (some ⟨g,0,none⟩) code.length cap] 110)):=(Zr_ _ _).alloc _;have HT:(tag==1 || tag==2)=true:=by simpa using ht
    have HOK:=Zh_ (show (∀ j y,j < code.length->code[j]? =some y->y.may code.length=true)->Xv tag code=true from λ hall=>by
     unfold Xv;rw [HT];simp only [Bool.true_and,Bool.and_eq_true,decide_eq_true_eq,List.all_eq_true];refine ⟨⟨by omega,by omega⟩,λ y hy=>?_⟩;obtain ⟨j,hj,rfl⟩:=List.mem_iff_getElem.1 hy;exact hall j _ hj (List.getElem?_eq_getElem hj))
    have HNO:=Zh_ (show ∀ (j:Nat) (y:Xf),code[j]? =some y->y.may code.length=false->Xv tag code=false from λ j y hj hy=>by
     unfold Xv;rw [show code.all (λ i=>i.may code.length)=false from List.all_eq_false.2 ⟨y,List.mem_of_getElem? hj,by simp [hy]⟩,Bool.and_false])
    clear HT;rcases ht with rfl|rfl
    all_goals
     go_enter func85,ntmps85;go_wp2_with fail
     go_loopw [28] (λ i wr=>∃ k:Nat,k<=code.length/\i=.int .i64 k/\(∀ j y,j < k->code[j]? =some y->y.may code.length=true)/\wr.ownsRow 0 106 3 (.slice (some ⟨g,0,none⟩) code.length cap) code.length (Yk code)/\(∃ t0,wr.heap[w.heap.size]? =some (.cells #[t0,.slice (some ⟨g,0,none⟩) code.length cap] 110 (0,0)))/\Ze [] w wr) (λ i _=>code.length - (intOf i).toNat)
     case atStart=>exact ⟨0,Nat.zero_le _,rfl,λ j y hj=>absurd hj (by omega),hh,⟨_,B0⟩,hm0⟩
     case round=>
      clear h hh c0 c1 B0 hm0;obtain ⟨k,hk,rfl,hall,hown,⟨t0,BB⟩,D⟩:=hrel
      by_cases hlt:k < code.length
      ·obtain ⟨y,hy⟩:∃ y,code[k]? =some y:=⟨_,List.getElem?_eq_getElem hlt⟩;obtain ⟨y0,y1,y2⟩:=Tt hy;have q0:wr.cell? ⟨g,k * 3,none⟩=some (.int .i64 y.op):=(hown.cellAt _ (by omega)).trans y0;have q1:wr.cell? ⟨g,k * 3+1,none⟩=some (.int .i64 y.n):=(hown.cellAt _ (by omega)).trans y1;have q2:wr.cell? ⟨g,k * 3+2,none⟩=some (.float .f64 y.x):=(hown.cellAt _ (by omega)).trans y2;have HO:=Zh_ hown;have HY:=Zh_ hy;have HA:=Zh_ hall;have HD:=Zh_ D;have HB:=Zh_ BB;have hc2:(wr.alloc (.cells #[.int .i64 y.op,.int .i64 y.n,.float .f64 y.x] 106)).cell? ⟨w.heap.size,1,none⟩=some (.slice (some ⟨g,0,none⟩) code.length cap):=Za (Zf _ BB) rfl;clear hown hy hall y0 y1 y2 D BB;go_wp2_with fail;refine (may_c y code.length _).mono ?_;rintro e w2 ⟨rfl,D2⟩;have D3:Ze [] w w2:=(HD.out.alloc _).trans D2;have O3:=Zs (HO.out.alloc (.cells #[.int .i64 y.op,.int .i64 y.n,.float .f64 y.x] 106)) D2 (by simp);have B3:=D2.at (Zf (.cells #[.int .i64 y.op,.int .i64 y.n,.float .f64 y.x] 106) HB.out) (by simp);clear D2 hc2;cases hm:y.may code.length
       ·have e:=HNO.out k y HY.out hm;go_wp2;go_ret
        first|exact ⟨rfl,D3⟩|exact ⟨by rw [e];rfl,D3⟩
       ·go_wp2;go_roundw
        case rel=>exact ⟨k+1,by omega,by go_num,λ j z hj hz=>by
         by_cases hjk:j=k
         ·subst hjk;rw [HY.out] at hz;obtain rfl:=Zo_ hz;exact hm
         ·exact HA.out j z (by omega) hz,O3,⟨_,B3⟩,D3⟩
        case measure=>simp [intOf];omega
      ·obtain rfl:k=code.length:=by omega
       have e:=HOK.out hall;go_wp2;go_ret
       first|exact ⟨rfl,D⟩|exact ⟨by rw [e];rfl,D⟩
 ·have e:Xv tag code=false:=by unfold Xv;simp;omega
  rw [e];have d1:(tag !=1)=true:=by simp;omega
  have d2:(tag !=2)=true:=by simp;omega
  clear B0 h;go_enter func85,ntmps85;go_wp2;go_ret;exact ⟨rfl,(Zr_ _ _).alloc _⟩
end
section
attribute [local go_sem] Zj
structure Zl where
 c0:Int
 c1:Int
 c2:Int
 c3:Int
 tag:Int
 code:List Xf
 bad:Bool
 args:Nat->Nat
 locals:Nat->Nat
 nums:List Nat
 calls:List Int
 place:Int
 used:Int
 waits:Bool
 cell:Int
 how:Int
 ecode:Int
 eerr:Int
 out:List Nat
 reads:List (Int×Nat)
 buf:Xj
structure MP where
 mb:Nat
 nb:Nat
 kb:Nat
 bb:Nat
 pb:Nat
 vc:Value
 vn:Value
 vk:Value
 vo:Value
 vr:Value
 vb:Value
def Qo (p:MP) (s:Zl):Array Value:=#[.int .i64 s.c0,.int .i64 s.c1,.int .i64 s.c2,.int .i64 s.c3,.int .i64 s.tag,p.vc,.bool s.bad,.float .f64 (s.args 0),.float .f64 (s.args 1),.float .f64 (s.args 2),.float .f64 (s.args 3),.float .f64 (s.args 4),.float .f64 (s.args 5),.float .f64 (s.args 6),.float .f64 (s.args 7),.float .f64 (s.locals 0),.float .f64 (s.locals 1),.float .f64 (s.locals 2),.float .f64 (s.locals 3),.float .f64 (s.locals 4),.float .f64 (s.locals 5),.float .f64 (s.locals 6),.float .f64 (s.locals 7),.pointer (some ⟨p.nb,0,none⟩),.pointer (some ⟨p.kb,0,none⟩),.int .i64 s.place,.int .i64 s.used,.bool s.waits,.int .i64 s.cell,.int .i64 s.how,.int .i64 s.ecode,.int .i64 s.eerr,p.vo,p.vr,.pointer (some ⟨p.bb,0,none⟩)]
variable {w w':World} {p p':MP} {s s':Zl} {S:List Nat}
structure Zg (w:World) (p:MP) (s:Zl):Prop where
 hd:w.heap[p.mb]? =some (.cells (Qo p s) 185 (0,0))
 code:w.ownsRow 0 106 3 p.vc s.code.length (Yk s.code)
 nums:V8 w p.nb p.vn 64 s.nums
 calls:V7 w p.kb p.vk 16 s.calls
 out:w.ownsRow 0 51 1 p.vo s.out.length (s.out.map (Value.float .f64))
 reads:w.ownsRow 0 53 2 p.vr s.reads.length (Yh s.reads)
 buf:Vd w p.bb p.pb p.vb s.buf
 ne1:∀ g,p.vn.ownBlock=some g->p.vo.ownBlock≠some g
 ne2:∀ g,p.vk.ownBlock=some g->p.vb.ownBlock≠some g
def MP.blocks (p:MP):List Nat:=[p.mb,p.nb,p.kb,p.bb,p.pb]++(p.vc.ownBlock.toList++(p.vn.ownBlock.toList++(p.vk.ownBlock.toList++(p.vo.ownBlock.toList++(p.vr.ownBlock.toList++(p.vb.ownBlock.toList))))))
def Xw (w:World) (k:Nat):Option TypeId:=match w.heap[k]? with|some (.cells _ t _)=>some t|_=>none
theorem Zn {k:Nat} {cs:Array Value} {t:TypeId} {f:Nat×Nat} (h:w.heap[k]? =some (.cells cs t f)):Xw w k=some t:=by unfold Xw;rw [h]
theorem Yc {t:TypeId} {z n:Nat} {xs:List Value} {v:Value} (h:w.ownsRow 0 t z v n xs) {g:Nat} (hg:v.ownBlock=some g):Xw w g=some t:=by
 rcases h.2 with ⟨rfl,_⟩|⟨g',cap,cur,rfl,_,hgg,_⟩
 ·simp [Value.ownBlock] at hg
 ·simp [Value.ownBlock] at hg;subst hg;exact Zn hgg
theorem Gt {k n:Nat} {f:Int->Option Value} (h:Qt w k n f):Xw w k=none:=by
 obtain ⟨D,⟨es,cl,h1,_⟩,_⟩:=h;unfold Xw;rw [h1]
theorem Ys {t:TypeId} {z n:Nat} {xs:List Value} {v:Value} (h:w.ownsRow 0 t z v n xs) {g:Nat} (hg:v.ownBlock=some g):g < w.heap.size:=(h.lt g hg).2
theorem Zg.t_mb (h:Zg w p s):Xw w p.mb=some 185:=Zn h.hd
theorem Zg.t_nb (h:Zg w p s):Xw w p.nb=some 202:=Zn h.nums.1
theorem Zg.t_kb (h:Zg w p s):Xw w p.kb=some 204:=Zn h.calls.1
theorem Zg.t_bb (h:Zg w p s):Xw w p.bb=some 200:=Zn h.buf.hd
theorem Zg.t_pb (h:Zg w p s):Xw w p.pb=none:=Gt h.buf.map
theorem Zg.t_vc (h:Zg w p s) {g:Nat} (hg:p.vc.ownBlock=some g):Xw w g=some 106:=Yc h.code hg
theorem Zg.t_vn (h:Zg w p s) {g:Nat} (hg:p.vn.ownBlock=some g):Xw w g=some 51:=Yc h.nums.2 hg
theorem Zg.t_vk (h:Zg w p s) {g:Nat} (hg:p.vk.ownBlock=some g):Xw w g=some 3:=Yc h.calls.2 hg
theorem Zg.t_vo (h:Zg w p s) {g:Nat} (hg:p.vo.ownBlock=some g):Xw w g=some 51:=Yc h.out hg
theorem Zg.t_vr (h:Zg w p s) {g:Nat} (hg:p.vr.ownBlock=some g):Xw w g=some 53:=Yc h.reads hg
theorem Zg.t_vb (h:Zg w p s) {g:Nat} (hg:p.vb.ownBlock=some g):Xw w g=some 3:=Yc h.buf.row hg
theorem Zu {a b:Nat} {t t':Option TypeId} (ha:Xw w a=t) (hb:Xw w b=t') (h:t≠t'):a≠b:=λ e=>h (by rw [<-ha,<-hb,e])
theorem Y2 {k:Nat}:k∈p.blocks↔k=p.mb\/k=p.nb\/k=p.kb\/k=p.bb\/k=p.pb\/p.vc.ownBlock=some k\/p.vn.ownBlock=some k\/p.vk.ownBlock=some k\/p.vo.ownBlock=some k\/p.vr.ownBlock=some k\/p.vb.ownBlock=some k:=by
 unfold MP.blocks;simp [Option.mem_toList]
theorem Zg.lt (h:Zg w p s) {k:Nat} (hk:k∈p.blocks):k < w.heap.size:=by
 rw [Y2] at hk;rcases hk with rfl|rfl|rfl|rfl|rfl|hk|hk|hk|hk|hk|hk
 ·exact lt_of_block h.hd
 ·exact lt_of_block h.nums.1
 ·exact lt_of_block h.calls.1
 ·exact lt_of_block h.buf.hd
 ·exact h.buf.map.lt
 ·exact Ys h.code hk
 ·exact Ys h.nums.2 hk
 ·exact Ys h.calls.2 hk
 ·exact Ys h.out hk
 ·exact Ys h.reads hk
 ·exact Ys h.buf.row hk
theorem Zg.mod (h:Zg w p s) (m:Ze S w w') (hS:∀ k∈p.blocks,k∉S):Zg w' p s:=by
 have q:∀ k,(k=p.mb\/k=p.nb\/k=p.kb\/k=p.bb\/k=p.pb\/p.vc.ownBlock=some k\/p.vn.ownBlock=some k\/p.vk.ownBlock=some k\/p.vo.ownBlock=some k\/p.vr.ownBlock=some k\/p.vb.ownBlock=some k)->k∉S:=λ k hk=>hS k (Y2.2 hk);exact ⟨m.at h.hd (q _ (by simp)),Zs h.code m (λ g hg=>q g (by simp [hg])),h.nums.mod m (q _ (by simp)) (λ g hg=>q g (by simp [hg])),h.calls.mod m (q _ (by simp)) (λ g hg=>q g (by simp [hg])),
  Zs h.out m (λ g hg=>q g (by simp [hg])),Zs h.reads m (λ g hg=>q g (by simp [hg])),h.buf.mod m (q _ (by simp)) (q _ (by simp)) (λ g hg=>q g (by simp [hg])),h.ne1,h.ne2⟩
theorem Zg.drewN (h:Zg w p s) (n:Nat):Zg (w.drewN n) p s:=h.mod ((Zr_ [] w).drewN n) (by simp)
theorem Zg.alloc (h:Zg w p s) (o:Obj):Zg (w.alloc o) p s:=h.mod ((Zr_ [] w).alloc o) (by simp)
structure Hu (w:World) (p:MP) (w':World) (p':MP):Prop where
 md:Ze p.blocks w w'
 gr:∀ k∈p'.blocks,k∈p.blocks\/w.heap.size<=k
 mb:p'.mb=p.mb
theorem Hu.refl (w:World) (p:MP):Hu w p w p:=⟨Zr_ _ _,λ _ hk=>.inl hk,rfl⟩
theorem Hu.trans {a b c:World} {p q r:MP} (h:Hu a p b q) (k:Hu b q c r):Hu a p c r:=
 ⟨h.md.then k.md h.gr,λ i hi=>(k.gr i hi).elim (h.gr i) (λ hs=>.inr (Nat.le_trans h.md.size hs)),k.mb.trans h.mb⟩
theorem Hu.of {a b:World} (m:Ze S a b) (hS:∀ k∈S,k∈p.blocks\/a.heap.size<=k):Hu a p b p:=⟨m.mono hS,λ _ hk=>.inl hk,rfl⟩
theorem Hu.fresh {a b:World} (m:Ze [] a b):Hu a p b p:=.of m (by simp)
theorem Zg.n_mb (h:Zg w p s):p.mb∉p.nb :: p.vn.ownBlock.toList:=by
 intro hm;simp only [List.mem_cons,Option.mem_toList] at hm;rcases hm with hb|hb
 ·exact Zu (h.t_mb) (h.t_nb) (by decide) hb
 ·exact Zu (h.t_mb) (h.t_vn hb) (by decide) rfl
theorem Zg.n_kb (h:Zg w p s):p.kb∉p.nb :: p.vn.ownBlock.toList:=by
 intro hm;simp only [List.mem_cons,Option.mem_toList] at hm;rcases hm with hb|hb
 ·exact Zu (h.t_kb) (h.t_nb) (by decide) hb
 ·exact Zu (h.t_kb) (h.t_vn hb) (by decide) rfl
theorem Zg.n_bb (h:Zg w p s):p.bb∉p.nb :: p.vn.ownBlock.toList:=by
 intro hm;simp only [List.mem_cons,Option.mem_toList] at hm;rcases hm with hb|hb
 ·exact Zu (h.t_bb) (h.t_nb) (by decide) hb
 ·exact Zu (h.t_bb) (h.t_vn hb) (by decide) rfl
theorem Zg.n_pb (h:Zg w p s):p.pb∉p.nb :: p.vn.ownBlock.toList:=by
 intro hm;simp only [List.mem_cons,Option.mem_toList] at hm;rcases hm with hb|hb
 ·exact Zu (h.t_pb) (h.t_nb) (by decide) hb
 ·exact Zu (h.t_pb) (h.t_vn hb) (by decide) rfl
theorem Zg.n_vc (h:Zg w p s) {g:Nat} (hg:p.vc.ownBlock=some g):g∉p.nb :: p.vn.ownBlock.toList:=by
 intro hm;simp only [List.mem_cons,Option.mem_toList] at hm;rcases hm with hb|hb
 ·exact Zu (h.t_vc hg) (h.t_nb) (by decide) hb
 ·exact Zu (h.t_vc hg) (h.t_vn hb) (by decide) rfl
theorem Zg.n_vk (h:Zg w p s) {g:Nat} (hg:p.vk.ownBlock=some g):g∉p.nb :: p.vn.ownBlock.toList:=by
 intro hm;simp only [List.mem_cons,Option.mem_toList] at hm;rcases hm with hb|hb
 ·exact Zu (h.t_vk hg) (h.t_nb) (by decide) hb
 ·exact Zu (h.t_vk hg) (h.t_vn hb) (by decide) rfl
theorem Zg.n_vo (h:Zg w p s) {g:Nat} (hg:p.vo.ownBlock=some g):g∉p.nb :: p.vn.ownBlock.toList:=by
 intro hm;simp only [List.mem_cons,Option.mem_toList] at hm;rcases hm with hb|hb
 ·exact Zu (h.t_vo hg) (h.t_nb) (by decide) hb
 ·exact absurd hg (h.ne1 _ hb)
theorem Zg.n_vr (h:Zg w p s) {g:Nat} (hg:p.vr.ownBlock=some g):g∉p.nb :: p.vn.ownBlock.toList:=by
 intro hm;simp only [List.mem_cons,Option.mem_toList] at hm;rcases hm with hb|hb
 ·exact Zu (h.t_vr hg) (h.t_nb) (by decide) hb
 ·exact Zu (h.t_vr hg) (h.t_vn hb) (by decide) rfl
theorem Zg.n_vb (h:Zg w p s) {g:Nat} (hg:p.vb.ownBlock=some g):g∉p.nb :: p.vn.ownBlock.toList:=by
 intro hm;simp only [List.mem_cons,Option.mem_toList] at hm;rcases hm with hb|hb
 ·exact Zu (h.t_vb hg) (h.t_nb) (by decide) hb
 ·exact Zu (h.t_vb hg) (h.t_vn hb) (by decide) rfl
theorem Zg.k_mb (h:Zg w p s):p.mb∉p.kb :: p.vk.ownBlock.toList:=by
 intro hm;simp only [List.mem_cons,Option.mem_toList] at hm;rcases hm with hb|hb
 ·exact Zu (h.t_mb) (h.t_kb) (by decide) hb
 ·exact Zu (h.t_mb) (h.t_vk hb) (by decide) rfl
theorem Zg.k_nb (h:Zg w p s):p.nb∉p.kb :: p.vk.ownBlock.toList:=by
 intro hm;simp only [List.mem_cons,Option.mem_toList] at hm;rcases hm with hb|hb
 ·exact Zu (h.t_nb) (h.t_kb) (by decide) hb
 ·exact Zu (h.t_nb) (h.t_vk hb) (by decide) rfl
theorem Zg.k_bb (h:Zg w p s):p.bb∉p.kb :: p.vk.ownBlock.toList:=by
 intro hm;simp only [List.mem_cons,Option.mem_toList] at hm;rcases hm with hb|hb
 ·exact Zu (h.t_bb) (h.t_kb) (by decide) hb
 ·exact Zu (h.t_bb) (h.t_vk hb) (by decide) rfl
theorem Zg.k_pb (h:Zg w p s):p.pb∉p.kb :: p.vk.ownBlock.toList:=by
 intro hm;simp only [List.mem_cons,Option.mem_toList] at hm;rcases hm with hb|hb
 ·exact Zu (h.t_pb) (h.t_kb) (by decide) hb
 ·exact Zu (h.t_pb) (h.t_vk hb) (by decide) rfl
theorem Zg.k_vc (h:Zg w p s) {g:Nat} (hg:p.vc.ownBlock=some g):g∉p.kb :: p.vk.ownBlock.toList:=by
 intro hm;simp only [List.mem_cons,Option.mem_toList] at hm;rcases hm with hb|hb
 ·exact Zu (h.t_vc hg) (h.t_kb) (by decide) hb
 ·exact Zu (h.t_vc hg) (h.t_vk hb) (by decide) rfl
theorem Zg.k_vn (h:Zg w p s) {g:Nat} (hg:p.vn.ownBlock=some g):g∉p.kb :: p.vk.ownBlock.toList:=by
 intro hm;simp only [List.mem_cons,Option.mem_toList] at hm;rcases hm with hb|hb
 ·exact Zu (h.t_vn hg) (h.t_kb) (by decide) hb
 ·exact Zu (h.t_vn hg) (h.t_vk hb) (by decide) rfl
theorem Zg.k_vo (h:Zg w p s) {g:Nat} (hg:p.vo.ownBlock=some g):g∉p.kb :: p.vk.ownBlock.toList:=by
 intro hm;simp only [List.mem_cons,Option.mem_toList] at hm;rcases hm with hb|hb
 ·exact Zu (h.t_vo hg) (h.t_kb) (by decide) hb
 ·exact Zu (h.t_vo hg) (h.t_vk hb) (by decide) rfl
theorem Zg.k_vr (h:Zg w p s) {g:Nat} (hg:p.vr.ownBlock=some g):g∉p.kb :: p.vk.ownBlock.toList:=by
 intro hm;simp only [List.mem_cons,Option.mem_toList] at hm;rcases hm with hb|hb
 ·exact Zu (h.t_vr hg) (h.t_kb) (by decide) hb
 ·exact Zu (h.t_vr hg) (h.t_vk hb) (by decide) rfl
theorem Zg.k_vb (h:Zg w p s) {g:Nat} (hg:p.vb.ownBlock=some g):g∉p.kb :: p.vk.ownBlock.toList:=by
 intro hm;simp only [List.mem_cons,Option.mem_toList] at hm;rcases hm with hb|hb
 ·exact Zu (h.t_vb hg) (h.t_kb) (by decide) hb
 ·exact absurd hg (h.ne2 _ hb)
theorem Zg.b_mb (h:Zg w p s):p.mb∉p.bb :: p.pb :: p.vb.ownBlock.toList:=by
 intro hm;simp only [List.mem_cons,Option.mem_toList] at hm;rcases hm with hb|hb|hb
 ·exact Zu (h.t_mb) (h.t_bb) (by decide) hb
 ·exact Zu (h.t_mb) (h.t_pb) (by decide) hb
 ·exact Zu (h.t_mb) (h.t_vb hb) (by decide) rfl
theorem Zg.b_nb (h:Zg w p s):p.nb∉p.bb :: p.pb :: p.vb.ownBlock.toList:=by
 intro hm;simp only [List.mem_cons,Option.mem_toList] at hm;rcases hm with hb|hb|hb
 ·exact Zu (h.t_nb) (h.t_bb) (by decide) hb
 ·exact Zu (h.t_nb) (h.t_pb) (by decide) hb
 ·exact Zu (h.t_nb) (h.t_vb hb) (by decide) rfl
theorem Zg.b_kb (h:Zg w p s):p.kb∉p.bb :: p.pb :: p.vb.ownBlock.toList:=by
 intro hm;simp only [List.mem_cons,Option.mem_toList] at hm;rcases hm with hb|hb|hb
 ·exact Zu (h.t_kb) (h.t_bb) (by decide) hb
 ·exact Zu (h.t_kb) (h.t_pb) (by decide) hb
 ·exact Zu (h.t_kb) (h.t_vb hb) (by decide) rfl
theorem Zg.b_vc (h:Zg w p s) {g:Nat} (hg:p.vc.ownBlock=some g):g∉p.bb :: p.pb :: p.vb.ownBlock.toList:=by
 intro hm;simp only [List.mem_cons,Option.mem_toList] at hm;rcases hm with hb|hb|hb
 ·exact Zu (h.t_vc hg) (h.t_bb) (by decide) hb
 ·exact Zu (h.t_vc hg) (h.t_pb) (by decide) hb
 ·exact Zu (h.t_vc hg) (h.t_vb hb) (by decide) rfl
theorem Zg.b_vn (h:Zg w p s) {g:Nat} (hg:p.vn.ownBlock=some g):g∉p.bb :: p.pb :: p.vb.ownBlock.toList:=by
 intro hm;simp only [List.mem_cons,Option.mem_toList] at hm;rcases hm with hb|hb|hb
 ·exact Zu (h.t_vn hg) (h.t_bb) (by decide) hb
 ·exact Zu (h.t_vn hg) (h.t_pb) (by decide) hb
 ·exact Zu (h.t_vn hg) (h.t_vb hb) (by decide) rfl
theorem Zg.b_vk (h:Zg w p s) {g:Nat} (hg:p.vk.ownBlock=some g):g∉p.bb :: p.pb :: p.vb.ownBlock.toList:=by
 intro hm;simp only [List.mem_cons,Option.mem_toList] at hm;rcases hm with hb|hb|hb
 ·exact Zu (h.t_vk hg) (h.t_bb) (by decide) hb
 ·exact Zu (h.t_vk hg) (h.t_pb) (by decide) hb
 ·exact absurd hb (h.ne2 _ hg)
theorem Zg.b_vo (h:Zg w p s) {g:Nat} (hg:p.vo.ownBlock=some g):g∉p.bb :: p.pb :: p.vb.ownBlock.toList:=by
 intro hm;simp only [List.mem_cons,Option.mem_toList] at hm;rcases hm with hb|hb|hb
 ·exact Zu (h.t_vo hg) (h.t_bb) (by decide) hb
 ·exact Zu (h.t_vo hg) (h.t_pb) (by decide) hb
 ·exact Zu (h.t_vo hg) (h.t_vb hb) (by decide) rfl
theorem Zg.b_vr (h:Zg w p s) {g:Nat} (hg:p.vr.ownBlock=some g):g∉p.bb :: p.pb :: p.vb.ownBlock.toList:=by
 intro hm;simp only [List.mem_cons,Option.mem_toList] at hm;rcases hm with hb|hb|hb
 ·exact Zu (h.t_vr hg) (h.t_bb) (by decide) hb
 ·exact Zu (h.t_vr hg) (h.t_pb) (by decide) hb
 ·exact Zu (h.t_vr hg) (h.t_vb hb) (by decide) rfl
theorem Zg.o_nb (h:Zg w p s):p.nb∉p.mb :: p.vo.ownBlock.toList:=by
 intro hm;simp only [List.mem_cons,Option.mem_toList] at hm;rcases hm with hb|hb
 ·exact Zu (h.t_nb) (h.t_mb) (by decide) hb
 ·exact Zu (h.t_nb) (h.t_vo hb) (by decide) rfl
theorem Zg.o_kb (h:Zg w p s):p.kb∉p.mb :: p.vo.ownBlock.toList:=by
 intro hm;simp only [List.mem_cons,Option.mem_toList] at hm;rcases hm with hb|hb
 ·exact Zu (h.t_kb) (h.t_mb) (by decide) hb
 ·exact Zu (h.t_kb) (h.t_vo hb) (by decide) rfl
theorem Zg.o_bb (h:Zg w p s):p.bb∉p.mb :: p.vo.ownBlock.toList:=by
 intro hm;simp only [List.mem_cons,Option.mem_toList] at hm;rcases hm with hb|hb
 ·exact Zu (h.t_bb) (h.t_mb) (by decide) hb
 ·exact Zu (h.t_bb) (h.t_vo hb) (by decide) rfl
theorem Zg.o_pb (h:Zg w p s):p.pb∉p.mb :: p.vo.ownBlock.toList:=by
 intro hm;simp only [List.mem_cons,Option.mem_toList] at hm;rcases hm with hb|hb
 ·exact Zu (h.t_pb) (h.t_mb) (by decide) hb
 ·exact Zu (h.t_pb) (h.t_vo hb) (by decide) rfl
theorem Zg.o_vc (h:Zg w p s) {g:Nat} (hg:p.vc.ownBlock=some g):g∉p.mb :: p.vo.ownBlock.toList:=by
 intro hm;simp only [List.mem_cons,Option.mem_toList] at hm;rcases hm with hb|hb
 ·exact Zu (h.t_vc hg) (h.t_mb) (by decide) hb
 ·exact Zu (h.t_vc hg) (h.t_vo hb) (by decide) rfl
theorem Zg.o_vn (h:Zg w p s) {g:Nat} (hg:p.vn.ownBlock=some g):g∉p.mb :: p.vo.ownBlock.toList:=by
 intro hm;simp only [List.mem_cons,Option.mem_toList] at hm;rcases hm with hb|hb
 ·exact Zu (h.t_vn hg) (h.t_mb) (by decide) hb
 ·exact absurd hb (h.ne1 _ hg)
theorem Zg.o_vk (h:Zg w p s) {g:Nat} (hg:p.vk.ownBlock=some g):g∉p.mb :: p.vo.ownBlock.toList:=by
 intro hm;simp only [List.mem_cons,Option.mem_toList] at hm;rcases hm with hb|hb
 ·exact Zu (h.t_vk hg) (h.t_mb) (by decide) hb
 ·exact Zu (h.t_vk hg) (h.t_vo hb) (by decide) rfl
theorem Zg.o_vr (h:Zg w p s) {g:Nat} (hg:p.vr.ownBlock=some g):g∉p.mb :: p.vo.ownBlock.toList:=by
 intro hm;simp only [List.mem_cons,Option.mem_toList] at hm;rcases hm with hb|hb
 ·exact Zu (h.t_vr hg) (h.t_mb) (by decide) hb
 ·exact Zu (h.t_vr hg) (h.t_vo hb) (by decide) rfl
theorem Zg.o_vb (h:Zg w p s) {g:Nat} (hg:p.vb.ownBlock=some g):g∉p.mb :: p.vo.ownBlock.toList:=by
 intro hm;simp only [List.mem_cons,Option.mem_toList] at hm;rcases hm with hb|hb
 ·exact Zu (h.t_vb hg) (h.t_mb) (by decide) hb
 ·exact Zu (h.t_vb hg) (h.t_vo hb) (by decide) rfl
theorem Zg.r_nb (h:Zg w p s):p.nb∉p.mb :: p.vr.ownBlock.toList:=by
 intro hm;simp only [List.mem_cons,Option.mem_toList] at hm;rcases hm with hb|hb
 ·exact Zu (h.t_nb) (h.t_mb) (by decide) hb
 ·exact Zu (h.t_nb) (h.t_vr hb) (by decide) rfl
theorem Zg.r_kb (h:Zg w p s):p.kb∉p.mb :: p.vr.ownBlock.toList:=by
 intro hm;simp only [List.mem_cons,Option.mem_toList] at hm;rcases hm with hb|hb
 ·exact Zu (h.t_kb) (h.t_mb) (by decide) hb
 ·exact Zu (h.t_kb) (h.t_vr hb) (by decide) rfl
theorem Zg.r_bb (h:Zg w p s):p.bb∉p.mb :: p.vr.ownBlock.toList:=by
 intro hm;simp only [List.mem_cons,Option.mem_toList] at hm;rcases hm with hb|hb
 ·exact Zu (h.t_bb) (h.t_mb) (by decide) hb
 ·exact Zu (h.t_bb) (h.t_vr hb) (by decide) rfl
theorem Zg.r_pb (h:Zg w p s):p.pb∉p.mb :: p.vr.ownBlock.toList:=by
 intro hm;simp only [List.mem_cons,Option.mem_toList] at hm;rcases hm with hb|hb
 ·exact Zu (h.t_pb) (h.t_mb) (by decide) hb
 ·exact Zu (h.t_pb) (h.t_vr hb) (by decide) rfl
theorem Zg.r_vc (h:Zg w p s) {g:Nat} (hg:p.vc.ownBlock=some g):g∉p.mb :: p.vr.ownBlock.toList:=by
 intro hm;simp only [List.mem_cons,Option.mem_toList] at hm;rcases hm with hb|hb
 ·exact Zu (h.t_vc hg) (h.t_mb) (by decide) hb
 ·exact Zu (h.t_vc hg) (h.t_vr hb) (by decide) rfl
theorem Zg.r_vn (h:Zg w p s) {g:Nat} (hg:p.vn.ownBlock=some g):g∉p.mb :: p.vr.ownBlock.toList:=by
 intro hm;simp only [List.mem_cons,Option.mem_toList] at hm;rcases hm with hb|hb
 ·exact Zu (h.t_vn hg) (h.t_mb) (by decide) hb
 ·exact Zu (h.t_vn hg) (h.t_vr hb) (by decide) rfl
theorem Zg.r_vk (h:Zg w p s) {g:Nat} (hg:p.vk.ownBlock=some g):g∉p.mb :: p.vr.ownBlock.toList:=by
 intro hm;simp only [List.mem_cons,Option.mem_toList] at hm;rcases hm with hb|hb
 ·exact Zu (h.t_vk hg) (h.t_mb) (by decide) hb
 ·exact Zu (h.t_vk hg) (h.t_vr hb) (by decide) rfl
theorem Zg.r_vo (h:Zg w p s) {g:Nat} (hg:p.vo.ownBlock=some g):g∉p.mb :: p.vr.ownBlock.toList:=by
 intro hm;simp only [List.mem_cons,Option.mem_toList] at hm;rcases hm with hb|hb
 ·exact Zu (h.t_vo hg) (h.t_mb) (by decide) hb
 ·exact Zu (h.t_vo hg) (h.t_vr hb) (by decide) rfl
theorem Zg.r_vb (h:Zg w p s) {g:Nat} (hg:p.vb.ownBlock=some g):g∉p.mb :: p.vr.ownBlock.toList:=by
 intro hm;simp only [List.mem_cons,Option.mem_toList] at hm;rcases hm with hb|hb
 ·exact Zu (h.t_vb hg) (h.t_mb) (by decide) hb
 ·exact Zu (h.t_vb hg) (h.t_vr hb) (by decide) rfl
theorem Zg.m_nb (h:Zg w p s):p.nb∉[p.mb]:=by
 intro hm;simp only [List.mem_cons,or_false,List.not_mem_nil] at hm;have hb:=hm
 ·exact Zu (h.t_nb) (h.t_mb) (by decide) hb
theorem Zg.m_kb (h:Zg w p s):p.kb∉[p.mb]:=by
 intro hm;simp only [List.mem_cons,or_false,List.not_mem_nil] at hm;have hb:=hm
 ·exact Zu (h.t_kb) (h.t_mb) (by decide) hb
theorem Zg.m_bb (h:Zg w p s):p.bb∉[p.mb]:=by
 intro hm;simp only [List.mem_cons,or_false,List.not_mem_nil] at hm;have hb:=hm
 ·exact Zu (h.t_bb) (h.t_mb) (by decide) hb
theorem Zg.m_pb (h:Zg w p s):p.pb∉[p.mb]:=by
 intro hm;simp only [List.mem_cons,or_false,List.not_mem_nil] at hm;have hb:=hm
 ·exact Zu (h.t_pb) (h.t_mb) (by decide) hb
theorem Zg.m_vc (h:Zg w p s) {g:Nat} (hg:p.vc.ownBlock=some g):g∉[p.mb]:=by
 intro hm;simp only [List.mem_cons,or_false,List.not_mem_nil] at hm;have hb:=hm
 ·exact Zu (h.t_vc hg) (h.t_mb) (by decide) hb
theorem Zg.m_vn (h:Zg w p s) {g:Nat} (hg:p.vn.ownBlock=some g):g∉[p.mb]:=by
 intro hm;simp only [List.mem_cons,or_false,List.not_mem_nil] at hm;have hb:=hm
 ·exact Zu (h.t_vn hg) (h.t_mb) (by decide) hb
theorem Zg.m_vk (h:Zg w p s) {g:Nat} (hg:p.vk.ownBlock=some g):g∉[p.mb]:=by
 intro hm;simp only [List.mem_cons,or_false,List.not_mem_nil] at hm;have hb:=hm
 ·exact Zu (h.t_vk hg) (h.t_mb) (by decide) hb
theorem Zg.m_vo (h:Zg w p s) {g:Nat} (hg:p.vo.ownBlock=some g):g∉[p.mb]:=by
 intro hm;simp only [List.mem_cons,or_false,List.not_mem_nil] at hm;have hb:=hm
 ·exact Zu (h.t_vo hg) (h.t_mb) (by decide) hb
theorem Zg.m_vr (h:Zg w p s) {g:Nat} (hg:p.vr.ownBlock=some g):g∉[p.mb]:=by
 intro hm;simp only [List.mem_cons,or_false,List.not_mem_nil] at hm;have hb:=hm
 ·exact Zu (h.t_vr hg) (h.t_mb) (by decide) hb
theorem Zg.m_vb (h:Zg w p s) {g:Nat} (hg:p.vb.ownBlock=some g):g∉[p.mb]:=by
 intro hm;simp only [List.mem_cons,or_false,List.not_mem_nil] at hm;have hb:=hm
 ·exact Zu (h.t_vb hg) (h.t_mb) (by decide) hb
theorem Zg.setNums (h:Zg w p s) {vn:Value} {xs:List Nat} (hs:V8 w' p.nb vn 64 xs) (ho:Us w p.vn vn) (m:Ze (p.nb :: p.vn.ownBlock.toList) w w'):
  Zg w' {p with vn:=vn} {s with nums:=xs}/\Hu w p w' {p with vn:=vn}:=by
 refine ⟨⟨m.at h.hd h.n_mb,Zs h.code m λ g hg=>h.n_vc hg,hs,h.calls.mod m h.n_kb λ g hg=>h.n_vk hg,Zs h.out m λ g hg=>h.n_vo hg,Zs h.reads m λ g hg=>h.n_vr hg,h.buf.mod m h.n_bb h.n_pb λ g hg=>h.n_vb hg,?_,h.ne2⟩,⟨m.mono ?_,?_,rfl⟩⟩
 ·intro g hg hg';rcases ho with e|⟨q,e,hq⟩
  ·exact h.ne1 g (by rw [<-e];exact hg) hg'
  ·rw [e] at hg;obtain rfl:=Zo_ hg;have:=Ys h.out hg';omega
 ·intro x hx;left;rw [Y2];simp only [List.mem_cons,Option.mem_toList] at hx;rcases hx with rfl|hx <;> simp [*]
 ·intro k hk;rw [Y2] at hk ⊢
  simp only at hk;rcases ho with e|⟨q,e,hq⟩
  ·rw [e] at hk;exact .inl hk
  ·rw [e] at hk;rcases hk with hk|hk|hk|hk|hk|hk|hk|hk|hk|hk|hk
   all_goals first|exact .inr (by have:=Zo_ hk;omega)|simp [hk]
theorem Zg.setCalls (h:Zg w p s) {vk:Value} {xs:List Int} (hs:V7 w' p.kb vk 16 xs) (ho:Us w p.vk vk) (m:Ze (p.kb :: p.vk.ownBlock.toList) w w'):
  Zg w' {p with vk:=vk} {s with calls:=xs}/\Hu w p w' {p with vk:=vk}:=by
 refine ⟨⟨m.at h.hd h.k_mb,Zs h.code m λ g hg=>h.k_vc hg,h.nums.mod m h.k_nb λ g hg=>h.k_vn hg,hs,Zs h.out m λ g hg=>h.k_vo hg,Zs h.reads m λ g hg=>h.k_vr hg,h.buf.mod m h.k_bb h.k_pb λ g hg=>h.k_vb hg,h.ne1,?_⟩,⟨m.mono ?_,?_,rfl⟩⟩
 ·intro g hg hg';rcases ho with e|⟨q,e,hq⟩
  ·exact h.ne2 g (by rw [<-e];exact hg) hg'
  ·rw [e] at hg;obtain rfl:=Zo_ hg;have:=Ys h.buf.row hg';omega
 ·intro x hx;left;rw [Y2];simp only [List.mem_cons,Option.mem_toList] at hx;rcases hx with rfl|hx <;> simp [*]
 ·intro k hk;rw [Y2] at hk ⊢
  simp only at hk;rcases ho with e|⟨q,e,hq⟩
  ·rw [e] at hk;exact .inl hk
  ·rw [e] at hk;rcases hk with hk|hk|hk|hk|hk|hk|hk|hk|hk|hk|hk
   all_goals first|exact .inr (by have:=Zo_ hk;omega)|simp [hk]
theorem Zg.setBuf (h:Zg w p s) {vb:Value} {b:Xj} (hs:Vd w' p.bb p.pb vb b) (ho:Us w p.vb vb) (m:Ze (p.bb :: p.pb :: p.vb.ownBlock.toList) w w'):
  Zg w' {p with vb:=vb} {s with buf:=b}/\Hu w p w' {p with vb:=vb}:=by
 refine ⟨⟨m.at h.hd h.b_mb,Zs h.code m λ g hg=>h.b_vc hg,h.nums.mod m h.b_nb λ g hg=>h.b_vn hg,h.calls.mod m h.b_kb λ g hg=>h.b_vk hg,Zs h.out m λ g hg=>h.b_vo hg,Zs h.reads m λ g hg=>h.b_vr hg,hs,h.ne1,?_⟩,⟨m.mono ?_,?_,rfl⟩⟩
 ·intro g hg hg';rcases ho with e|⟨q,e,hq⟩
  ·exact h.ne2 g hg (by rw [<-e];exact hg')
  ·rw [e] at hg';obtain rfl:=Zo_ hg';have:=Ys h.calls.2 hg;omega
 ·intro x hx;left;rw [Y2];simp only [List.mem_cons,Option.mem_toList] at hx;rcases hx with rfl|rfl|hx <;> simp [*]
 ·intro k hk;rw [Y2] at hk ⊢
  simp only at hk;rcases ho with e|⟨q,e,hq⟩
  ·rw [e] at hk;exact .inl hk
  ·rw [e] at hk;rcases hk with hk|hk|hk|hk|hk|hk|hk|hk|hk|hk|hk
   all_goals first|exact .inr (by have:=Zo_ hk;omega)|simp [hk]
theorem Zg.setHd (h:Zg w p s) (m:Ze [p.mb] w w') (hd:w'.heap[p.mb]? =some (.cells (Qo p s') 185 (0,0))) (e1:s'.code=s.code) (e2:s'.nums=s.nums) (e3:s'.calls=s.calls) (e4:s'.out=s.out) (e5:s'.reads=s.reads) (e6:s'.buf=s.buf):Zg w' p s'/\Hu w p w' p:=by
 refine ⟨⟨hd,?_,?_,?_,?_,?_,?_,h.ne1,h.ne2⟩,.of m (by simp [Y2])⟩
 ·rw [e1];exact Zs h.code m λ g hg=>h.m_vc hg
 ·rw [e2];exact h.nums.mod m h.m_nb λ g hg=>h.m_vn hg
 ·rw [e3];exact h.calls.mod m h.m_kb λ g hg=>h.m_vk hg
 ·rw [e4];exact Zs h.out m λ g hg=>h.m_vo hg
 ·rw [e5];exact Zs h.reads m λ g hg=>h.m_vr hg
 ·rw [e6];exact h.buf.mod m h.m_bb h.m_pb λ g hg=>h.m_vb hg
theorem Zg.set1 (h:Zg w p s) (i:Nat) (u:Value) (hc:(Qo p s).setIfInBounds i u=Qo p s') (e1:s'.code=s.code) (e2:s'.nums=s.nums) (e3:s'.calls=s.calls) (e4:s'.out=s.out) (e5:s'.reads=s.reads) (e6:s'.buf=s.buf):
  Zg (w.setCell ⟨p.mb,i,none⟩ u) p s'/\Hu w p (w.setCell ⟨p.mb,i,none⟩ u) p:=
 h.setHd ((Zr_ _ _).setCell _ _ (.inl (by simp))) (by rw [<-hc];exact Zd _ h.hd) e1 e2 e3 e4 e5 e6
theorem Zg.cell (h:Zg w p s) (i:Nat) {u:Value} (hu:(Qo p s)[i]? =some u):w.cell? ⟨p.mb,i,none⟩=some u/\w.frozen? ⟨p.mb,i,none⟩=false:=
 ⟨Za h.hd hu,Zb h.hd⟩
theorem Zg.setOut (h:Zg w p s) {w1:World} {vo:Value} {xs:List Nat} (hs:w1.ownsRow 0 51 1 vo xs.length (xs.map (Value.float .f64))) (ho:Us w p.vo vo) (m:Ze p.vo.ownBlock.toList w w1):
  Zg (w1.setCell ⟨p.mb,32,none⟩ vo) {p with vo:=vo} {s with out:=xs}/\Hu w p (w1.setCell ⟨p.mb,32,none⟩ vo) {p with vo:=vo}:=by
 have m2:Ze (p.mb :: p.vo.ownBlock.toList) w (w1.setCell ⟨p.mb,32,none⟩ vo):=(m.mono (λ x hx=>.inl (by simp at hx ⊢;simp [hx]))).setCell _ _ (.inl (by simp));have hmb:p.mb∉p.vo.ownBlock.toList:=λ hm=>Zu h.t_mb (h.t_vo (by simpa using hm)) (by decide) rfl;have hvo:∀ g,vo.ownBlock=some g->g≠p.mb:=λ g hg e=>by
  subst e;have:=Zn (m.at h.hd hmb);rw [Yc hs hg] at this;simp at this
 refine ⟨⟨?_,Zs h.code m2 λ g hg=>h.o_vc hg,h.nums.mod m2 h.o_nb λ g hg=>h.o_vn hg,h.calls.mod m2 h.o_kb λ g hg=>h.o_vk hg,?_,Zs h.reads m2 λ g hg=>h.o_vr hg,h.buf.mod m2 h.o_bb h.o_pb λ g hg=>h.o_vb hg,?_,h.ne2⟩,⟨m2.mono ?_,?_,rfl⟩⟩
 ·exact Zd (i:=32) vo (m.at h.hd hmb)
 ·exact Zs hs ((Zr_ [p.mb] w1).setCell ⟨p.mb,32,none⟩ vo (.inl (by simp))) (λ g hg=>by simp [hvo g hg])
 ·intro g hg hg';rcases ho with e|⟨q,e,hq⟩
  ·exact h.ne1 g hg (by rw [<-e];exact hg')
  ·rw [e] at hg';obtain rfl:=Zo_ hg';have:=Ys h.nums.2 hg;omega
 ·intro x hx;left;rw [Y2];simp only [List.mem_cons,Option.mem_toList] at hx;rcases hx with rfl|hx <;> simp [*]
 ·intro k hk;rw [Y2] at hk ⊢
  simp only at hk;rcases ho with e|⟨q,e,hq⟩
  ·rw [e] at hk;exact .inl hk
  ·rw [e] at hk;rcases hk with hk|hk|hk|hk|hk|hk|hk|hk|hk|hk|hk
   all_goals first|exact .inr (by have:=Zo_ hk;omega)|simp [hk]
theorem Zg.setReads (h:Zg w p s) {w1:World} {vr:Value} {xs:List (Int×Nat)} (hs:w1.ownsRow 0 53 2 vr xs.length (Yh xs)) (ho:Us w p.vr vr) (m:Ze p.vr.ownBlock.toList w w1):
  Zg (w1.setCell ⟨p.mb,33,none⟩ vr) {p with vr:=vr} {s with reads:=xs}/\Hu w p (w1.setCell ⟨p.mb,33,none⟩ vr) {p with vr:=vr}:=by
 have m2:Ze (p.mb :: p.vr.ownBlock.toList) w (w1.setCell ⟨p.mb,33,none⟩ vr):=(m.mono (λ x hx=>.inl (by simp at hx ⊢;simp [hx]))).setCell _ _ (.inl (by simp));have hmb:p.mb∉p.vr.ownBlock.toList:=λ hm=>Zu h.t_mb (h.t_vr (by simpa using hm)) (by decide) rfl;have hvr:∀ g,vr.ownBlock=some g->g≠p.mb:=λ g hg e=>by
  subst e;have:=Zn (m.at h.hd hmb);rw [Yc hs hg] at this;simp at this
 refine ⟨⟨?_,Zs h.code m2 λ g hg=>h.r_vc hg,h.nums.mod m2 h.r_nb λ g hg=>h.r_vn hg,h.calls.mod m2 h.r_kb λ g hg=>h.r_vk hg,Zs h.out m2 λ g hg=>h.r_vo hg,?_,h.buf.mod m2 h.r_bb h.r_pb λ g hg=>h.r_vb hg,h.ne1,h.ne2⟩,⟨m2.mono ?_,?_,rfl⟩⟩
 ·exact Zd (i:=33) vr (m.at h.hd hmb)
 ·exact Zs hs ((Zr_ [p.mb] w1).setCell ⟨p.mb,33,none⟩ vr (.inl (by simp))) (λ g hg=>by simp [hvr g hg])
 ·intro x hx;left;rw [Y2];simp only [List.mem_cons,Option.mem_toList] at hx;rcases hx with rfl|hx <;> simp [*]
 ·intro k hk;rw [Y2] at hk ⊢
  simp only at hk;rcases ho with e|⟨q,e,hq⟩
  ·rw [e] at hk;exact .inl hk
  ·rw [e] at hk;rcases hk with hk|hk|hk|hk|hk|hk|hk|hk|hk|hk|hk
   all_goals first|exact .inr (by have:=Zo_ hk;omega)|simp [hk]
end
section
attribute [local go_sem] Zj
structure Xg where
 kind:Int
 cell:Int
 x:Nat
 first:Bool
def Xg.val (a:Xg):Value:=.agg #[.int .i64 a.kind,.int .i64 a.cell,.float .f64 a.x,.bool a.first]
def Zz (k:Int):Xg:=⟨k,0,0,false⟩
def Zl.ends (s:Zl) (h c e:Int):Zl:={s with how:=h,ecode:=c,eerr:=e}
def Zl.push (s:Zl) (x:Nat):Zl:={s with nums:=s.nums++[x]}
def Zl.pop (s:Zl):Zl:={s with nums:=s.nums.dropLast}
def Zl.pick (s:Zl) (n:Nat):Nat:=s.nums.getD (s.nums.length - 1 - n) 0
def Zl.top (s:Zl):Nat:=s.pick 0
def Ut (x:Nat):Bool:=!Fb x&&(FloatKind.f64.format.order x 0 !=some .eq)
def Db (f:Nat->Nat) (k v:Nat):Nat->Nat:=λ i=>if i=k then v else f i
def Zl.reckon (v:Nat) (i:Xf) (s:Zl):Zl:=
 if i.op=1 then s.push (Zt i.x)
 else if i.op=2 then s.pop
 else if i.op=3 then s.push s.top
 else if i.op=4 then (s.pop.pop.push s.top).push s.pop.top
 else if i.op=5 then s.push (s.pick i.n.toNat)
 else if i.op=6 then s.push (s.args i.n.toNat)
 else if i.op=7 then s.push (s.locals i.n.toNat)
 else if i.op=8 then {s.pop with locals:=Db s.locals i.n.toNat s.top}
 else if i.op=9 then s.pop.push (Zt v)
 else if i.op=10 then s.pop.pop.push (Cf i.n (Zt s.pop.top) (Zt s.top) v)
 else if i.op=18 then {s.pop with out:=s.out++[s.top]}
 else s
def Zl.readE (s:Zl):Except Int (Zl×Xg):=
 match Vj s.top s.c0 with
 |none=>.error 50
 |some c=>if s.buf.known c=true then .ok ({(s.pop.push (s.buf.val c)) with reads:=s.reads++[(c,s.buf.val c)]},⟨2,c,s.buf.val c,false⟩)
  else .ok ({s.pop with waits:=true,cell:=c},⟨1,c,0,false⟩)
def Zl.writeE (s:Zl):Except Int (Zl×Xg):=
 if s.tag≠2 then .error 81 else
 match Vj s.top s.c0 with
 |none=>.error 50
 |some c=>if s.buf.known c=false/\(s.buf.order.length:Int)=s.buf.most then .error 70
  else .ok ({s.pop.pop with buf:=s.buf.put c (s.pick 1)},⟨3,c,s.pick 1,!s.buf.known c⟩)
def Zl.doE (v:Nat) (i:Xf) (s:Zl):Except Int (Zl×Xg):=
 if i.op=16 then s.readE
 else if i.op=17 then s.writeE
 else if i.op=19 then .ok (s.ends 2 i.n 0,Zz 4)
 else if i.op=20 then .ok (s.ends 1 0 0,Zz 4)
 else if i.op=11 then .ok ({s with place:=i.n},Zz 0)
 else if i.op=12\/i.op=13 then .ok ({s.pop with place:=if Ut s.top=(i.op==12) then i.n else s.place},Zz 0)
 else if i.op=14 then .ok ({s with calls:=s.calls++[s.place],place:=i.n},Zz 0)
 else if i.op=15 then (match s.calls.getLast? with
  |none=>.ok (s.ends 1 0 0,Zz 4)
  |some at_=>.ok ({s with calls:=s.calls.dropLast,place:=at_},Zz 0))
 else .ok (s.reckon v i,Zz 0)
def needOf (i:Xf):Int:=if i.op=5 then i.n+1 else Qs i.op
def Zl.readyB (s:Zl) (i:Xf):Bool:=
 !((decide ((s.nums.length:Int) < needOf i) || decide (64 < (s.nums.length:Int) - Qs i.op+Jm i.op)) || (i.op==14&&((s.calls.length:Int)==16)))
def Dw:Xf:=⟨0,0,0⟩
def Zl.at (s:Zl):Xf:=s.code.getD s.place.toNat Dw
def Zl.next (s:Zl):Zl:={s with used:=s.used+1,place:=s.place+1}
def Zl.fault (s:Zl) (e:Int):Zl×Xg:=(s.ends 3 0 e,Zz 4)
def Zl.go (s:Zl) (v:Nat):Zl×Xg:=
 if s.next.readyB s.at=false then s.next.fault 82 else
 match s.next.doE v s.at with
 |.ok r=>r
 |.error e=>s.next.fault e
def Zl.step (s:Zl) (v:Nat):Zl×Xg:=
 if s.waits=true then (s,⟨1,s.cell,0,false⟩)
 else if s.how≠0 then (s,Zz 4)
 else if s.bad=true then s.fault 50
 else if s.used=s.c2 then s.fault 80
 else if s.place=s.code.length then s.fault 50
 else s.go v
def Zl.give (s:Zl) (x:Nat):Zl:={(s.push (Zt x)) with reads:=s.reads++[(s.cell,Zt x)],waits:=false}
structure Yl (s:Zl):Prop where
 used0:0<=s.used
 used1:s.used<=s.c2
 fuel:s.c2<=1024
 place0:0<=s.place
 place1:s.place<=s.code.length
 nums:s.nums.length<=64
 calls:s.calls.length<=16
 call:∀ c∈s.calls,0<=c/\c<=s.code.length
 out:(s.out.length:Int)<=s.used
 reads:(s.reads.length:Int)+(if s.waits=true then 1 else 0)<=s.used
 room:s.waits=true->s.nums.length < 64
 bad:s.bad=!Xv s.tag s.code
 c0:s.c0<=256
 order:∀ k∈s.buf.order,0<=k/\k < 256
theorem Md {k:Int} (h:0<=k/\k < 256):(Lit.int .i64 k).wf=true:=by
 show (decide (IntKind.i64.min<=k)&&decide (k<=IntKind.i64.max))=true;have e1:IntKind.i64.min=-9223372036854775808:=by decide
 have e2:IntKind.i64.max=9223372036854775807:=by decide
 rw [e1,e2];simp;omega
theorem Mf {l:List Nat} (h:0 < l.length):l=l.dropLast++[l.getD (l.length - 1 - 0) 0]:=by
 cases hl:l.reverse with
 |nil=>simp at hl;subst hl;simp at h
 |cons x t=>
  have:l=t.reverse++[x]:=by rw [<-List.reverse_reverse l,hl];simp
  subst this;simp
end
section
attribute [local go_sem] Zj
variable {w w':World} {p p':MP} {s s':Zl}
def Zk (w:World) (p:MP) (s':Zl) (w':World):Prop:=∃ p',Zg w' p' s'/\Hu w p w' p'
theorem Zk.same (h:Zg w p s):Zk w p s w:=⟨p,h,Hu.refl _ _⟩
theorem Zk.mod0 {w1:World} (h:Zk w p s w1) (m:Ze [] w1 w'):Zk w p s w':=by
 obtain ⟨q,h1,h2⟩:=h;exact ⟨q,h1.mod m (by simp),h2.trans (.fresh m)⟩
theorem Zk.alloc {w1:World} (h:Zk w p s w1) (o:Obj):Zk w p s (w1.alloc o):=h.mod0 ((Zr_ _ _).alloc _)
theorem Zk.drew {w1:World} (h:Zk w p s w1):Zk w p s w1.drew:=h.mod0 ((Zr_ _ _).drew)
theorem Zk.drewN' {w1:World} (h:Zk w p s w1) (n:Nat):Zk w p s (w1.drewN n):=h.mod0 ((Zr_ _ _).drewN n)
theorem Zk.set1 {w1:World} (h:Zk w p s w1) (i:Nat) (u:Value) (s':Zl) (hc:∀ q:MP,(Qo q s).setIfInBounds i u=Qo q s') (e1:s'.code=s.code) (e2:s'.nums=s.nums) (e3:s'.calls=s.calls) (e4:s'.out=s.out) (e5:s'.reads=s.reads) (e6:s'.buf=s.buf):Zk w p s' (w1.setCell ⟨p.mb,i,none⟩ u):=by
 obtain ⟨q,h1,h2⟩:=h;obtain ⟨k1,k2⟩:=h1.set1 i u (hc q) e1 e2 e3 e4 e5 e6;rw [h2.mb] at k1 k2;exact ⟨q,k1,h2.trans k2⟩
theorem Zk.size {w1:World} (h:Zk w p s w1):w.heap.size<=w1.heap.size:=by
 obtain ⟨q,h1,h2⟩:=h;exact h2.md.size
theorem Zk.cell {w1:World} (h:Zk w p s w1) (i:Nat) {u:Value} (hu:∀ q,(Qo q s)[i]? =some u):w1.cell? ⟨p.mb,i,none⟩=some u/\w1.frozen? ⟨p.mb,i,none⟩=false:=by
 obtain ⟨q,h1,h2⟩:=h;rw [<-h2.mb];exact h1.cell i (hu q)
theorem Uh (e:Int) (he:e≠0) (w:World):Calls Tryz.prog 141 #[.int .i64 e] w λ x w'=>x=.panicked [{v:=.iface 235 (.int .i64 e),recovered:=false}]/\w'=w:=by
 have h1:(e !=0)=true:=by simp [he]
 go_enter func141,ntmps141;go_wp2;exact ⟨rfl,rfl,rfl⟩
theorem must_k (w:World):Calls Tryz.prog 141 #[.int .i64 0] w λ x w'=>x=.returned (.tuple #[])/\w'=w:=by
 go_enter func141,ntmps141;go_wp2;go_end0;exact ⟨rfl,rfl⟩
theorem mpush_c (h:Zg w p s) (hl:s.nums.length < 64) (x:Nat):Calls Tryz.prog 145 #[.pointer (some ⟨p.mb,0,none⟩),.float .f64 x] w λ e w'=>e=.returned (.tuple #[])/\Zk w p (s.push x) w':=by
 have r:=(h.cell 23 (u:=.pointer (some ⟨p.nb,0,none⟩)) rfl).1;go_enter func145,ntmps145;go_wp2_with fail;refine (S7 h.nums (by omega) (by omega) x).mono ?_;rintro e w1 ⟨rfl,v',h1,h2,h3⟩;go_wp2;go_end0;exact ⟨rfl,_,h.setNums h1 h2 h3⟩
theorem mpop_c (h:Zg w p s) (hl:0 < s.nums.length) (hb:s.nums.length<=64):Calls Tryz.prog 164 #[.pointer (some ⟨p.mb,0,none⟩)] w λ e w'=>e=.returned (.float .f64 s.top)/\Zk w p s.pop w':=by
 have r:=(h.cell 23 (u:=.pointer (some ⟨p.nb,0,none⟩)) rfl).1;have hn:V8 w p.nb p.vn 64 (s.nums.dropLast++[s.top]):=by
  have:=h.nums
  rwa [Mf hl] at this
 go_enter func164,ntmps164;go_wp2_with fail;refine (Mh hn (by simp;omega)).mono ?_;rintro e w1 ⟨rfl,v',h1,h2,h3⟩;go_wp2;go_ret;exact ⟨rfl,_,h.setNums h1 (.inl h2) (h3.mono (by simp))⟩
theorem mends_c (h:Zg w p s) (a b c:Int):Calls Tryz.prog 140 #[.pointer (some ⟨p.mb,0,none⟩),.agg #[.int .i64 a,.int .i64 b,.int .i64 c]] w λ e w'=>e=.returned (Zz 4).val/\Zk w p (s.ends a b c) w':=by
 have hlt:=lt_of_block h.hd;have r29:=(h.cell 29 (u:=.int .i64 s.how) rfl).1;have f29:=(h.cell 29 (u:=.int .i64 s.how) rfl).2;have r30:=(h.cell 30 (u:=.int .i64 s.ecode) rfl).1;have f30:=(h.cell 30 (u:=.int .i64 s.ecode) rfl).2;have r31:=(h.cell 31 (u:=.int .i64 s.eerr) rfl).1;have f31:=(h.cell 31 (u:=.int .i64 s.eerr) rfl).2;have HH:=Zh_ h;clear h;go_enter func140,ntmps140;go_wp2;refine bodyPost_ret (v:=(Zz 4).val) (by simp [results,results140,go_sem,Zz,Xg.val]) rfl ⟨rfl,?_⟩;exact (((((Zk.same HH.out).set1 29 _ {s with how:=a} (λ _=>rfl) rfl rfl rfl rfl rfl rfl).set1 30 _ {s with how:=a,ecode:=b} (λ _=>rfl) rfl rfl rfl rfl rfl rfl).set1 31 _ (s.ends a b c) (λ _=>rfl) rfl rfl rfl rfl rfl rfl).alloc _).alloc _
theorem Ry (h:Zg w p s) (hl:0 < s.nums.length) (hb:s.nums.length<=64):Calls Tryz.prog 173 #[.pointer (some ⟨p.mb,0,none⟩)] w λ e w'=>(match Vj s.top s.c0 with|some c=>e=.returned (.int .i64 c)|none=>e=.panicked [{v:=.iface 235 (.int .i64 50),recovered:=false}])/\∃ n,w'=w.drewN n:=by
 have r0:=(h.cell 0 (u:=.int .i64 s.c0) rfl).1;have r:=(h.cell 23 (u:=.pointer (some ⟨p.nb,0,none⟩)) rfl).1;obtain ⟨o,ho⟩:∃ o,o=Vj s.top s.c0:=⟨_,rfl⟩;rw [<-ho];have hp:=Vf h.nums 0 hl (by omega);have hi:=λ w=>idx_c s.top s.c0 w;rw [show s.nums.getD (s.nums.length - 1 - 0) 0=s.top from rfl] at hp;rw [<-ho] at hi;clear h ho;cases o with
 |none=>
  go_enter func173,ntmps173;go_wp2_with fail;refine hp.mono ?_;rintro e w1 ⟨rfl,n,rfl⟩;go_wp2_with fail;refine (hi _).mono ?_;rintro e w1 ⟨rfl,rfl⟩;go_wp2_with fail;refine (Uh 50 (by decide) _).mono ?_;rintro e w1 ⟨rfl,rfl⟩;go_wp2;exact ⟨rfl,rfl,n,rfl⟩
 |some c=>
  go_enter func173,ntmps173;go_wp2_with fail;refine hp.mono ?_;rintro e w1 ⟨rfl,n,rfl⟩;go_wp2_with fail;refine (hi _).mono ?_;rintro e w1 ⟨rfl,rfl⟩;go_wp2;go_ret;exact ⟨rfl,n,rfl⟩
end
section
attribute [local go_sem] Zj
variable {w w':World} {p p':MP} {s s':Zl}
theorem takes_bd (k:Int) (h1:1<=k) (h2:k<=20):0<=Qs k/\Qs k<=2/\0<=Jm k/\Jm k<=2:=by
 rcases (show k=1\/k=2\/k=3\/k=4\/k=5\/k=6\/k=7\/k=8\/k=9\/k=10\/k=11\/k=12\/k=13\/k=14\/k=15\/k=16\/k=17\/k=18\/k=19\/k=20 by omega) with rfl|rfl|rfl|rfl|rfl|rfl|rfl|rfl|rfl|rfl|rfl|rfl|rfl|rfl|rfl|rfl|rfl|rfl|rfl|rfl <;> decide
def ReadyP (b:Bool) (w:World) (e:Ending) (w':World):Prop:=e=(if b=true then .returned (.tuple #[]) else .panicked [{v:=.iface 235 (.int .i64 82),recovered:=false}])/\Ze [] w w'
theorem ready_c (h:Zg w p s) (op n:Int) (x:Nat) (h1:1<=op) (h2:op<=20) (h5:op=5->0<=n/\n<=63) (hn:s.nums.length<=64) (_:s.calls.length<=16):Calls Tryz.prog 142 #[.pointer (some ⟨p.mb,0,none⟩),.agg #[.int .i64 op,.int .i64 n,.float .f64 x]] w (ReadyP (s.readyB ⟨op,n,x⟩) w):=by
 obtain ⟨t0,t1,l0,l1⟩:=takes_bd op h1 h2;have HE:=λ w=>eff_c op h1 h2 w;have HL:=λ (w':World) (m:Ze [] w w')=>stk_lenF (h.nums.mod m (by simp) (by simp));have HK:=λ (w':World) (m:Ze [] w w')=>stk_lenI (h.calls.mod m (by simp) (by simp));have hr:s.readyB ⟨op,n,x⟩=!((decide ((s.nums.length:Int) < (if op=5 then n+1 else Qs op)) || decide (64 < (s.nums.length:Int) - Qs op+Jm op)) || (op==14&&((s.calls.length:Int)==16))):=rfl;rw [hr];clear hr;generalize Qs op=t at *
 generalize Jm op=l at *
 obtain ⟨N,hN⟩:∃ N:Int,N=s.nums.length:=⟨_,rfl⟩;obtain ⟨K,hK⟩:∃ K:Int,K=s.calls.length:=⟨_,rfl⟩;rw [<-hN,<-hK];rw [<-hN] at HL;rw [<-hK] at HK;have N0:0<=N:=by omega
 have N1:N<=64:=by omega
 have w1:IntKind.i64.wrap (N - t)=N - t:=IntWalk.i64_in _ (by omega);have w2:IntKind.i64.wrap (N - t+l)=N - t+l:=IntWalk.i64_in _ (by omega);have hlt:=lt_of_block h.hd;have r23:=λ (w':World) (m:Ze [] w w')=>((h.mod m (by simp)).cell 23 (u:=.pointer (some ⟨p.nb,0,none⟩)) rfl).1;have r24:=λ (w':World) (m:Ze [] w w')=>((h.mod m (by simp)).cell 24 (u:=.pointer (some ⟨p.kb,0,none⟩)) rfl).1;clear h hN hK t0 t1 l0 l1 N0 N1
 by_cases e5:op=5
 ·subst e5;rw [if_pos rfl];have w0:IntKind.i64.wrap (n+1)=n+1:=IntWalk.i64_in _ (by have:=h5 rfl;omega);clear h5 h1 h2;cases d1:decide (N < n+1)
  ·cases d2:decide (64 < N - t+l)
   ·skip
    go_enter func142,ntmps142;go_wp2_with fail;refine (HE _).mono ?_;rintro e w3 ⟨rfl,D1⟩;have D:Ze [] w w3:=((Zr_ _ _).alloc _).trans D1;have q0:w3.cell? ⟨w.heap.size,0,none⟩=some (.int .i64 5):=Za (D1.at (Zc _ _) (by simp)) rfl;have q1:w3.cell? ⟨w.heap.size,1,none⟩=some (.int .i64 n):=Za (D1.at (Zc _ _) (by simp)) rfl;have q23:=r23 w3 D;have q24:=r24 w3 D;clear D1;go_wp2_with fail;refine (HL _ D).mono ?_;rintro e w4 ⟨rfl,hw4⟩;have hw4':=hw4.symm;subst hw4';go_wp2;go_end0;exact ⟨rfl,D⟩
   ·skip
    go_enter func142,ntmps142;go_wp2_with fail;refine (HE _).mono ?_;rintro e w3 ⟨rfl,D1⟩;have D:Ze [] w w3:=((Zr_ _ _).alloc _).trans D1;have q0:w3.cell? ⟨w.heap.size,0,none⟩=some (.int .i64 5):=Za (D1.at (Zc _ _) (by simp)) rfl;have q1:w3.cell? ⟨w.heap.size,1,none⟩=some (.int .i64 n):=Za (D1.at (Zc _ _) (by simp)) rfl;have q23:=r23 w3 D;have q24:=r24 w3 D;clear D1;go_wp2_with fail;refine (HL _ D).mono ?_;rintro e w4 ⟨rfl,hw4⟩;have hw4':=hw4.symm;subst hw4';go_wp2_with fail;refine (Uh 82 (by decide) _).mono ?_;rintro e w4 ⟨rfl,hw4⟩;have hw4':=hw4.symm;subst hw4';go_wp2;exact ⟨rfl,rfl,D⟩
  ·skip
   go_enter func142,ntmps142;go_wp2_with fail;refine (HE _).mono ?_;rintro e w3 ⟨rfl,D1⟩;have D:Ze [] w w3:=((Zr_ _ _).alloc _).trans D1;have q0:w3.cell? ⟨w.heap.size,0,none⟩=some (.int .i64 5):=Za (D1.at (Zc _ _) (by simp)) rfl;have q1:w3.cell? ⟨w.heap.size,1,none⟩=some (.int .i64 n):=Za (D1.at (Zc _ _) (by simp)) rfl;have q23:=r23 w3 D;have q24:=r24 w3 D;clear D1;go_wp2_with fail;refine (HL _ D).mono ?_;rintro e w4 ⟨rfl,hw4⟩;have hw4':=hw4.symm;subst hw4';go_wp2_with fail;refine (Uh 82 (by decide) _).mono ?_;rintro e w4 ⟨rfl,hw4⟩;have hw4':=hw4.symm;subst hw4';go_wp2;exact ⟨rfl,rfl,D⟩
 ·rw [if_neg e5];have b5:(op==5)=false:=by simp [e5]
  clear h5 h1 h2 e5;cases d1:decide (N < t)
  ·cases d2:decide (64 < N - t+l)
   ·cases d3:(op==14)
    ·skip
     go_enter func142,ntmps142;go_wp2_with fail;refine (HE _).mono ?_;rintro e w3 ⟨rfl,D1⟩;have D:Ze [] w w3:=((Zr_ _ _).alloc _).trans D1;have q0:w3.cell? ⟨w.heap.size,0,none⟩=some (.int .i64 op):=Za (D1.at (Zc _ _) (by simp)) rfl;have q1:w3.cell? ⟨w.heap.size,1,none⟩=some (.int .i64 n):=Za (D1.at (Zc _ _) (by simp)) rfl;have q23:=r23 w3 D;have q24:=r24 w3 D;clear D1;go_wp2_with fail;refine (HL _ D).mono ?_;rintro e w4 ⟨rfl,hw4⟩;have hw4':=hw4.symm;subst hw4';go_wp2;go_end0;exact ⟨rfl,D⟩
    ·cases d4:(K==16)
     ·skip
      go_enter func142,ntmps142;go_wp2_with fail;refine (HE _).mono ?_;rintro e w3 ⟨rfl,D1⟩;have D:Ze [] w w3:=((Zr_ _ _).alloc _).trans D1;have q0:w3.cell? ⟨w.heap.size,0,none⟩=some (.int .i64 op):=Za (D1.at (Zc _ _) (by simp)) rfl;have q1:w3.cell? ⟨w.heap.size,1,none⟩=some (.int .i64 n):=Za (D1.at (Zc _ _) (by simp)) rfl;have q23:=r23 w3 D;have q24:=r24 w3 D;clear D1;go_wp2_with fail;refine (HL _ D).mono ?_;rintro e w4 ⟨rfl,hw4⟩;have hw4':=hw4.symm;subst hw4';go_wp2_with fail;refine (HK _ D).mono ?_;rintro e w4 ⟨rfl,hw4⟩;have hw4':=hw4.symm;subst hw4';go_wp2;go_end0;exact ⟨rfl,D⟩
     ·skip
      go_enter func142,ntmps142;go_wp2_with fail;refine (HE _).mono ?_;rintro e w3 ⟨rfl,D1⟩;have D:Ze [] w w3:=((Zr_ _ _).alloc _).trans D1;have q0:w3.cell? ⟨w.heap.size,0,none⟩=some (.int .i64 op):=Za (D1.at (Zc _ _) (by simp)) rfl;have q1:w3.cell? ⟨w.heap.size,1,none⟩=some (.int .i64 n):=Za (D1.at (Zc _ _) (by simp)) rfl;have q23:=r23 w3 D;have q24:=r24 w3 D;clear D1;go_wp2_with fail;refine (HL _ D).mono ?_;rintro e w4 ⟨rfl,hw4⟩;have hw4':=hw4.symm;subst hw4';go_wp2_with fail;refine (HK _ D).mono ?_;rintro e w4 ⟨rfl,hw4⟩;have hw4':=hw4.symm;subst hw4';go_wp2_with fail;refine (Uh 82 (by decide) _).mono ?_;rintro e w4 ⟨rfl,hw4⟩;have hw4':=hw4.symm;subst hw4';go_wp2;exact ⟨rfl,rfl,D⟩
   ·skip
    go_enter func142,ntmps142;go_wp2_with fail;refine (HE _).mono ?_;rintro e w3 ⟨rfl,D1⟩;have D:Ze [] w w3:=((Zr_ _ _).alloc _).trans D1;have q0:w3.cell? ⟨w.heap.size,0,none⟩=some (.int .i64 op):=Za (D1.at (Zc _ _) (by simp)) rfl;have q1:w3.cell? ⟨w.heap.size,1,none⟩=some (.int .i64 n):=Za (D1.at (Zc _ _) (by simp)) rfl;have q23:=r23 w3 D;have q24:=r24 w3 D;clear D1;go_wp2_with fail;refine (HL _ D).mono ?_;rintro e w4 ⟨rfl,hw4⟩;have hw4':=hw4.symm;subst hw4';go_wp2_with fail;refine (Uh 82 (by decide) _).mono ?_;rintro e w4 ⟨rfl,hw4⟩;have hw4':=hw4.symm;subst hw4';go_wp2;exact ⟨rfl,rfl,D⟩
  ·skip
   go_enter func142,ntmps142;go_wp2_with fail;refine (HE _).mono ?_;rintro e w3 ⟨rfl,D1⟩;have D:Ze [] w w3:=((Zr_ _ _).alloc _).trans D1;have q0:w3.cell? ⟨w.heap.size,0,none⟩=some (.int .i64 op):=Za (D1.at (Zc _ _) (by simp)) rfl;have q1:w3.cell? ⟨w.heap.size,1,none⟩=some (.int .i64 n):=Za (D1.at (Zc _ _) (by simp)) rfl;have q23:=r23 w3 D;have q24:=r24 w3 D;clear D1;go_wp2_with fail;refine (HL _ D).mono ?_;rintro e w4 ⟨rfl,hw4⟩;have hw4':=hw4.symm;subst hw4';go_wp2_with fail;refine (Uh 82 (by decide) _).mono ?_;rintro e w4 ⟨rfl,hw4⟩;have hw4':=hw4.symm;subst hw4';go_wp2;exact ⟨rfl,rfl,D⟩
end
end Go.Proofs.YtkhonmhnchdpkaaGreat

/- Floats: their bits, the one NaN; the contracts of number and of the reference's. -/
import Derived.Test.YtobmgnoceacoaaaBase
import Derived.Laws.Externs
import Derived.Laws.Cover2
namespace Go.Proofs.Ytobmgnoceacoaaa
open Go.RowKit

theorem ex127 : Extern.find Try.f127 = some Extern.MathFloatBits.float64frombits := by kernel_rfl
theorem ex130 : Extern.find Try.f130 = some Extern.MathFloatBits.float64bits := by kernel_rfl
theorem run127 (n : Int) (w : World) : (callFunc 127 #[.int .u64 n]).run Try.prog w = .ok (.value (.float .f64 n.toNat)) w := by
  rw [run_callFunc_extern Try.func127 (by kernel_rfl) (by kernel_rfl) (by kernel_rfl) ex127]
  rfl
theorem run130 (b : Nat) (w : World) : (callFunc 130 #[.float .f64 b]).run Try.prog w = .ok (.value (.int .u64 (b : Int))) w := by
  rw [run_callFunc_extern Try.func130 (by kernel_rfl) (by kernel_rfl) (by kernel_rfl) ex130]
  rfl

theorem run_store_float (P : Program) (w : World) (a : Addr) (m : Mode) (k : FloatKind) (b : Nat) : (store a (.float k b) m).run P w = stored P w a (.float k b) m := run_store P w a _ m rfl

/-- Is it a NaN? -/
def nanB (x : Nat) : Bool := FloatKind.f64.format.order x x != some .eq
/-- The number with the one NaN. -/
def fixB (x : Nat) : Nat := if nanB x = true then 9221120237041090560 else x
theorem fixB_fixB (x : Nat) : fixB (fixB x) = fixB x := by
  have h : nanB 9221120237041090560 = true := by decide +kernel
  unfold fixB
  by_cases hx : nanB x = true
  · rw [if_pos hx, if_pos h]
  · rw [if_neg hx, if_neg hx]

theorem fix_c (x : Nat) (w : World) : Calls Try.prog 151 #[.float .f64 x] w fun e w' => e = .returned (.float .f64 (fixB x)) ∧ w' = w := by
  have h1 := run127 9221120237041090560 w
  rw [show (9221120237041090560 : Int).toNat = 9221120237041090560 from rfl] at h1
  by_cases h : nanB x = true
  · have hx : fixB x = 9221120237041090560 := if_pos h
    have hn : (FloatKind.f64.format.order x x != some .eq) = true := h
    rw [hx]
    clear hx h
    go_enter Try.func151, Try.ntmps151
    go_wp2
    go_ret
    exact ⟨rfl, rfl⟩
  · have hx : fixB x = x := if_neg h
    have hn : (FloatKind.f64.format.order x x != some .eq) = false := by simpa [nanB] using h
    rw [hx]
    clear hx h
    go_enter Try.func151, Try.ntmps151
    go_wp2
    go_ret
    exact ⟨rfl, rfl⟩
theorem fix_r (x : Nat) (w : World) : Calls Try.prog 83 #[.float .f64 x] w fun e w' => e = .returned (.float .f64 (fixB x)) ∧ w' = w := by
  have h1 := run127 9221120237041090560 w
  rw [show (9221120237041090560 : Int).toNat = 9221120237041090560 from rfl] at h1
  by_cases h : nanB x = true
  · have hx : fixB x = 9221120237041090560 := if_pos h
    have hn : (FloatKind.f64.format.order x x != some .eq) = true := h
    rw [hx]
    clear hx h
    go_enter Try.func83, Try.ntmps83
    go_wp2
    go_ret
    exact ⟨rfl, rfl⟩
  · have hx : fixB x = x := if_neg h
    have hn : (FloatKind.f64.format.order x x != some .eq) = false := by simpa [nanB] using h
    rw [hx]
    clear hx h
    go_enter Try.func83, Try.ntmps83
    go_wp2
    go_ret
    exact ⟨rfl, rfl⟩

theorem bits_c (x : Nat) (w : World) : Calls Try.prog 126 #[.float .f64 x] w fun e w' => e = .returned (.int .u64 (fixB x : Int)) ∧ w' = w := by
  have h1 := run130 (fixB x)
  go_enter Try.func126, Try.ntmps126
  go_wp2_with fail
  refine (fix_c x _).mono ?_; rintro e w1 ⟨rfl, hw1⟩
  have hw1' := hw1.symm
  subst hw1'
  go_wp2
  go_ret
  exact ⟨rfl, rfl⟩
theorem of_c (n : Int) (w : World) : Calls Try.prog 132 #[.int .u64 n] w fun e w' => e = .returned (.float .f64 (fixB n.toNat)) ∧ w' = w := by
  have h1 := run127 n
  go_enter Try.func132, Try.ntmps132
  go_wp2_with fail
  refine (fix_c n.toNat _).mono ?_; rintro e w1 ⟨rfl, hw1⟩
  have hw1' := hw1.symm
  subst hw1'
  go_wp2
  go_ret
  exact ⟨rfl, rfl⟩
theorem of_r (n : Int) (w : World) : Calls Try.prog 131 #[.int .u64 n] w fun e w' => e = .returned (.float .f64 (fixB n.toNat)) ∧ w' = w := by
  have h1 := run127 n
  go_enter Try.func131, Try.ntmps131
  go_wp2_with fail
  refine (fix_r n.toNat _).mono ?_; rintro e w1 ⟨rfl, hw1⟩
  have hw1' := hw1.symm
  subst hw1'
  go_wp2
  go_ret
  exact ⟨rfl, rfl⟩
theorem bits_r (x : Nat) (w : World) : Calls Try.prog 85 #[.float .f64 x] w fun e w' => e = .returned (.int .u64 (fixB x : Int)) ∧ w' = w := by
  have h1 := run130 x w
  by_cases h : nanB x = true
  · have hx : fixB x = 9221120237041090560 := if_pos h
    have hn : (FloatKind.f64.format.order x x != some .eq) = true := h
    rw [hx]
    clear hx h
    go_enter Try.func85, Try.ntmps85
    go_wp2
    go_ret
    exact ⟨rfl, rfl⟩
  · have hx : fixB x = x := if_neg h
    have hn : (FloatKind.f64.format.order x x != some .eq) = false := by simpa [nanB] using h
    rw [hx]
    clear hx h
    go_enter Try.func85, Try.ntmps85
    go_wp2
    go_ret
    exact ⟨rfl, rfl⟩
theorem raw_c (n : Int) (w : World) : Calls Try.prog 75 #[.int .u64 n] w fun e w' => e = .returned (.float .f64 n.toNat) ∧ w' = w := by
  have h1 := run127 n
  go_enter Try.func75, Try.ntmps75
  go_wp2
  go_ret
  exact ⟨rfl, rfl⟩
theorem exact_c (x : Nat) (w : World) : Calls Try.prog 81 #[.float .f64 x, .float .f64 x] w fun e w' => e = .returned (.bool true) ∧ w' = w := by
  have h1 := run130 x
  go_enter Try.func81, Try.ntmps81
  go_wp2
  go_ret
  exact ⟨rfl, rfl⟩
end Go.Proofs.Ytobmgnoceacoaaa

/- MemNumbers: the walk. -/
import Derived.Test.YtobmgnoceacoaaaMN
import Derived.Test.YtobmgnoceacoaaaMO
namespace Go.Proofs.Ytobmgnoceacoaaa
open Go.RowKit

theorem fresh_len (n : Nat) : (MemS.fresh n).ws.length = n := by simp [MemS.fresh]

set_option maxHeartbeats 1000000 in
theorem memNumbers_walk (w : World) : Calls Try.prog 3 #[] w fun e w' => e = .returned (.bool true) ∧ Mod [] w w' := by
  go_enter Try.func3, Try.ntmps3
  go_wp2_with fail
  refine (new_bad 4097 (by omega) _).mono ?_; rintro e w1 ⟨rfl, rfl⟩
  go_wp2_with fail
  refine (new_i 4096 (by omega) (by omega) _).mono ?_; rintro e w1 ⟨rfl, M1, d1⟩
  go_wp2_with fail
  refine (len_c M1).mono ?_; rintro e w2 ⟨rfl, M2, d2⟩
  rw [fresh_len, show ((Int.toNat 4096 : Nat) : Int) = 4096 from rfl]
  go_wp2
  go_ret
  exact ⟨rfl, ((d1.weak _).trans d2).fresh (by simp)⟩
end Go.Proofs.Ytobmgnoceacoaaa

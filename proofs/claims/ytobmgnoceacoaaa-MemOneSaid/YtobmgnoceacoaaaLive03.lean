/- 'live' of layer 3 answers true. -/
import Derived.Test.YtobmgnoceacoaaaMN
import Derived.Test.YtobmgnoceacoaaaML
import Derived.Test.YtobmgnoceacoaaaMS
import Derived.Test.YtobmgnoceacoaaaMP
import Derived.Test.YtobmgnoceacoaaaMO
namespace Go.Proofs.Ytobmgnoceacoaaa
open Go.RowKit

set_option maxHeartbeats 1000000 in
theorem live03 (w : World) : Calls Try.prog 27 #[] w fun e w' => e = .returned (.bool true) ∧ Mod [] w w' := by
  go_enter Try.func27, Try.ntmps27
  go_wp2_with fail
  refine (new_i 2 (by omega) (by omega) _).mono ?_; rintro e w1 ⟨rfl, M1, d1⟩
  go_wp2_with fail
  refine (open_c M1).mono ?_; rintro e w2 ⟨rfl, M2, d2⟩
  go_wp2_with fail
  refine (store_c M2 1 7).mono ?_; rintro e w3 ⟨rfl, M3, d3⟩
  rw [show (MemS.fresh (Int.toNat 2)).opened.acc 1 = 0 from by decide +kernel]
  go_wp2_with fail
  refine (load_c M3 1).mono ?_; rintro e w4 ⟨rfl, M4, d4⟩
  rw [show ((MemS.fresh (Int.toNat 2)).opened.store 1 7).acc 1 = 31 from by decide +kernel]
  go_wp2_with fail
  refine (peek_c M4 1).mono ?_; rintro e w5 ⟨rfl, M5, d5⟩
  rw [show (((MemS.fresh (Int.toNat 2)).opened.store 1 7).load 1).peek 1 = 7 from by decide +kernel, show (((MemS.fresh (Int.toNat 2)).opened.store 1 7).load 1).bad 1 = 0 from by decide +kernel]
  go_wp2_with fail
  refine (count_c M5).mono ?_; rintro e w6 ⟨rfl, M6, d6⟩
  rw [show (((MemS.fresh (Int.toNat 2)).opened.store 1 7).load 1).ct = 1 from by decide +kernel]
  go_wp2_with fail
  refine (len_c M6).mono ?_; rintro e w7 ⟨rfl, M7, d7⟩
  rw [show (((MemS.fresh (Int.toNat 2)).opened.store 1 7).load 1).ws.length = 2 from by decide +kernel]
  go_wp2
  go_ret
  exact ⟨rfl, ((d1.weak _).trans (d2.trans (d3.trans (d4.trans (d5.trans (d6.trans d7)))))).fresh (by simp)⟩
end Go.Proofs.Ytobmgnoceacoaaa

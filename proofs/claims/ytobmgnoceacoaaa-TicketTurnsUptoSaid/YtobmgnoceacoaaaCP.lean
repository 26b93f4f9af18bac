/- The contracts of census, and of the reference's: places, stamps, claims. -/
import Derived.Test.YtobmgnoceacoaaaML
import Derived.Test.YtobmgnoceacoaaaMS
import Derived.Test.YtobmgnoceacoaaaMV
namespace Go.Proofs.Ytobmgnoceacoaaa
open Go.RowKit

/-- What is wrong with a thread's place. -/
def plErr (p3 th : Int) : Int := if th < 0 ∨ 8 ≤ th then 100 else if p3 < 0 ∨ 4096 < p3 then 30 else 0
def plAt (p3 th : Int) : Int := if plErr p3 th = 0 then p3 + th else 0
def wordAt (p3 th : Int) : Int := if p3 < 0 ∨ 4096 < p3 then -1 else p3 + th
theorem plErr_thread {p3 th : Int} (h : th < 0 ∨ 8 ≤ th) : plErr p3 th = 100 := if_pos h
theorem plErr_place {p3 th : Int} (h0 : 0 ≤ th) (h8 : th < 8) (h : p3 < 0 ∨ 4096 < p3) : plErr p3 th = 30 := by unfold plErr; rw [if_neg (by omega), if_pos h]
theorem plErr_ok {p3 th : Int} (h0 : 0 ≤ th) (h8 : th < 8) (h : 0 ≤ p3) (h' : p3 ≤ 4096) : plErr p3 th = 0 := by unfold plErr; rw [if_neg (by omega), if_neg (by omega)]
theorem plErr_cases (p3 th : Int) : ((th < 0 ∨ 8 ≤ th) ∧ plErr p3 th = 100) ∨ (0 ≤ th ∧ th < 8 ∧ (p3 < 0 ∨ 4096 < p3) ∧ plErr p3 th = 30) ∨ (0 ≤ th ∧ th < 8 ∧ 0 ≤ p3 ∧ p3 ≤ 4096 ∧ plErr p3 th = 0) := by
  by_cases h : th < 0 ∨ 8 ≤ th
  · exact .inl ⟨h, plErr_thread h⟩
  · by_cases k : p3 < 0 ∨ 4096 < p3
    · exact .inr (.inl ⟨by omega, by omega, k, plErr_place (by omega) (by omega) k⟩)
    · exact .inr (.inr ⟨by omega, by omega, by omega, by omega, plErr_ok (by omega) (by omega) (by omega) (by omega)⟩)
theorem plErr_zero {p3 th : Int} (h : plErr p3 th = 0) : 0 ≤ th ∧ th < 8 ∧ 0 ≤ p3 ∧ p3 ≤ 4096 := by
  rcases plErr_cases p3 th with ⟨_, e⟩ | ⟨_, _, _, e⟩ | ⟨a, b, c, d, _⟩
  · omega
  · omega
  · exact ⟨a, b, c, d⟩
theorem acc_neg (s : MemS) {i : Int} (h : i < 0) : s.acc i = 30 := if_pos (.inl h)
theorem bad_neg (s : MemS) {i : Int} (h : i < 0) : s.bad i = 30 := if_pos (.inl h)
theorem store_bad (s : MemS) {i : Int} (v : Int) (h : s.acc i ≠ 0) : s.store i v = s := if_neg h
theorem load_bad (s : MemS) {i : Int} (h : s.acc i ≠ 0) : s.load i = s := if_neg h
theorem got_bad (s : MemS) {i : Int} (h : s.acc i ≠ 0) : s.got i = 0 := if_neg h

set_option maxHeartbeats 1000000 in
theorem place13_a (p0 p1 p2 p3 p4 p5 th : Int) (h : th < 0) (w : World) :
    Calls Try.prog 113 #[.agg #[.int .i64 p0, .int .i64 p1, .int .i64 p2, .int .i64 p3, .int .i64 p4, .int .i64 p5], .int .i64 th] w fun e w' => e = .returned (.tuple #[.int .i64 0, .int .i64 100]) ∧ w' = w.alloc (.cells #[.int .i64 p0, .int .i64 p1, .int .i64 p2, .int .i64 p3, .int .i64 p4, .int .i64 p5] 35) := by
  go_enter Try.func113, Try.ntmps113
  go_wp2
  go_ret2
  exact ⟨rfl, rfl⟩

set_option maxHeartbeats 1000000 in
theorem place13_b (p0 p1 p2 p3 p4 p5 th : Int) (h : 8 ≤ th) (w : World) :
    Calls Try.prog 113 #[.agg #[.int .i64 p0, .int .i64 p1, .int .i64 p2, .int .i64 p3, .int .i64 p4, .int .i64 p5], .int .i64 th] w fun e w' => e = .returned (.tuple #[.int .i64 0, .int .i64 100]) ∧ w' = w.alloc (.cells #[.int .i64 p0, .int .i64 p1, .int .i64 p2, .int .i64 p3, .int .i64 p4, .int .i64 p5] 35) := by
  go_enter Try.func113, Try.ntmps113
  go_wp2
  go_ret2
  exact ⟨rfl, rfl⟩

set_option maxHeartbeats 1000000 in
theorem place13_c (p0 p1 p2 p3 p4 p5 th : Int) (h0 : 0 ≤ th) (h8 : th < 8) (h : p3 < 0) (w : World) :
    Calls Try.prog 113 #[.agg #[.int .i64 p0, .int .i64 p1, .int .i64 p2, .int .i64 p3, .int .i64 p4, .int .i64 p5], .int .i64 th] w fun e w' => e = .returned (.tuple #[.int .i64 0, .int .i64 30]) ∧ w' = w.alloc (.cells #[.int .i64 p0, .int .i64 p1, .int .i64 p2, .int .i64 p3, .int .i64 p4, .int .i64 p5] 35) := by
  go_enter Try.func113, Try.ntmps113
  go_wp2
  go_ret2
  exact ⟨rfl, rfl⟩

set_option maxHeartbeats 1000000 in
theorem place13_d (p0 p1 p2 p3 p4 p5 th : Int) (h0 : 0 ≤ th) (h8 : th < 8) (h : 4096 < p3) (w : World) :
    Calls Try.prog 113 #[.agg #[.int .i64 p0, .int .i64 p1, .int .i64 p2, .int .i64 p3, .int .i64 p4, .int .i64 p5], .int .i64 th] w fun e w' => e = .returned (.tuple #[.int .i64 0, .int .i64 30]) ∧ w' = w.alloc (.cells #[.int .i64 p0, .int .i64 p1, .int .i64 p2, .int .i64 p3, .int .i64 p4, .int .i64 p5] 35) := by
  go_enter Try.func113, Try.ntmps113
  go_wp2
  go_ret2
  exact ⟨rfl, rfl⟩

set_option maxHeartbeats 1000000 in
theorem place13_e (p0 p1 p2 p3 p4 p5 th : Int) (h0 : 0 ≤ th) (h8 : th < 8) (h : 0 ≤ p3) (h' : p3 ≤ 4096) (w : World) :
    Calls Try.prog 113 #[.agg #[.int .i64 p0, .int .i64 p1, .int .i64 p2, .int .i64 p3, .int .i64 p4, .int .i64 p5], .int .i64 th] w fun e w' => e = .returned (.tuple #[.int .i64 (p3 + th), .int .i64 0]) ∧ w' = w.alloc (.cells #[.int .i64 p0, .int .i64 p1, .int .i64 p2, .int .i64 p3, .int .i64 p4, .int .i64 p5] 35) := by
  go_enter Try.func113, Try.ntmps113
  go_wp2
  go_ret2
  exact ⟨rfl, rfl⟩

theorem place13 (p0 p1 p2 p3 p4 p5 th : Int) (w : World) :
    Calls Try.prog 113 #[.agg #[.int .i64 p0, .int .i64 p1, .int .i64 p2, .int .i64 p3, .int .i64 p4, .int .i64 p5], .int .i64 th] w fun e w' => e = .returned (.tuple #[.int .i64 (plAt p3 th), .int .i64 (plErr p3 th)]) ∧ w' = w.alloc (.cells #[.int .i64 p0, .int .i64 p1, .int .i64 p2, .int .i64 p3, .int .i64 p4, .int .i64 p5] 35) := by
  rcases plErr_cases p3 th with ⟨h, he⟩ | ⟨h0, h8, h, he⟩ | ⟨h0, h8, h, h', he⟩
  · have ha : plAt p3 th = 0 := by unfold plAt; rw [he]; rfl
    rw [ha, he]
    rcases h with h | h
    · exact place13_a _ _ _ _ _ _ _ h w
    · exact place13_b _ _ _ _ _ _ _ h w
  · have ha : plAt p3 th = 0 := by unfold plAt; rw [he]; rfl
    rw [ha, he]
    rcases h with h | h
    · exact place13_c _ _ _ _ _ _ _ h0 h8 h w
    · exact place13_d _ _ _ _ _ _ _ h0 h8 h w
  · have ha : plAt p3 th = p3 + th := by unfold plAt; rw [he]; rfl
    rw [ha, he]
    exact place13_e _ _ _ _ _ _ _ h0 h8 h h' w

theorem maybe13_no1 (th : Int) (h : th < 0) (w : World) : Calls Try.prog 143 #[.int .i64 th] w fun e w' => e = .returned (.bool false) ∧ w' = w := by
  go_enter Try.func143, Try.ntmps143
  go_wp2
  go_ret
  exact ⟨by first | rfl | (simp; done) | (simp; omega), rfl⟩

theorem maybe13_no2 (th : Int) (h0 : 0 ≤ th) (h : 8 ≤ th) (w : World) : Calls Try.prog 143 #[.int .i64 th] w fun e w' => e = .returned (.bool false) ∧ w' = w := by
  go_enter Try.func143, Try.ntmps143
  go_wp2
  go_ret
  exact ⟨by first | rfl | (simp; done) | (simp; omega), rfl⟩

theorem maybe13_yes (th : Int) (h0 : 0 ≤ th) (h8 : th < 8) (w : World) : Calls Try.prog 143 #[.int .i64 th] w fun e w' => e = .returned (.bool true) ∧ w' = w := by
  go_enter Try.func143, Try.ntmps143
  go_wp2
  go_ret
  exact ⟨by first | rfl | (simp; done) | (simp; omega), rfl⟩

theorem maybe13_no (th : Int) (h : th < 0 ∨ 8 ≤ th) (w : World) : Calls Try.prog 143 #[.int .i64 th] w fun e w' => e = .returned (.bool false) ∧ w' = w := by
  by_cases h0 : th < 0
  · exact maybe13_no1 th h0 w
  · exact maybe13_no2 th (by omega) (by omega) w

theorem word13_a (p0 p1 p2 p3 p4 p5 th : Int) (h : p3 < 0) (w : World) : Calls Try.prog 144 #[.agg #[.int .i64 p0, .int .i64 p1, .int .i64 p2, .int .i64 p3, .int .i64 p4, .int .i64 p5], .int .i64 th] w fun e w' => e = .returned (.int .i64 (-1)) ∧ w' = w.alloc (.cells #[.int .i64 p0, .int .i64 p1, .int .i64 p2, .int .i64 p3, .int .i64 p4, .int .i64 p5] 35) := by
  go_enter Try.func144, Try.ntmps144
  go_wp2
  go_ret
  exact ⟨rfl, rfl⟩

theorem word13_b (p0 p1 p2 p3 p4 p5 th : Int) (h : 4096 < p3) (w : World) : Calls Try.prog 144 #[.agg #[.int .i64 p0, .int .i64 p1, .int .i64 p2, .int .i64 p3, .int .i64 p4, .int .i64 p5], .int .i64 th] w fun e w' => e = .returned (.int .i64 (-1)) ∧ w' = w.alloc (.cells #[.int .i64 p0, .int .i64 p1, .int .i64 p2, .int .i64 p3, .int .i64 p4, .int .i64 p5] 35) := by
  go_enter Try.func144, Try.ntmps144
  go_wp2
  go_ret
  exact ⟨rfl, rfl⟩

theorem word13_c (p0 p1 p2 p3 p4 p5 th : Int) (h0 : 0 ≤ th) (h8 : th < 8) (h : 0 ≤ p3) (h' : p3 ≤ 4096) (w : World) : Calls Try.prog 144 #[.agg #[.int .i64 p0, .int .i64 p1, .int .i64 p2, .int .i64 p3, .int .i64 p4, .int .i64 p5], .int .i64 th] w fun e w' => e = .returned (.int .i64 (p3 + th)) ∧ w' = w.alloc (.cells #[.int .i64 p0, .int .i64 p1, .int .i64 p2, .int .i64 p3, .int .i64 p4, .int .i64 p5] 35) := by
  go_enter Try.func144, Try.ntmps144
  go_wp2
  go_ret
  exact ⟨rfl, rfl⟩

theorem word13 (p0 p1 p2 p3 p4 p5 th : Int) (h0 : 0 ≤ th) (h8 : th < 8) (w : World) : Calls Try.prog 144 #[.agg #[.int .i64 p0, .int .i64 p1, .int .i64 p2, .int .i64 p3, .int .i64 p4, .int .i64 p5], .int .i64 th] w fun e w' => e = .returned (.int .i64 (wordAt p3 th)) ∧ w' = w.alloc (.cells #[.int .i64 p0, .int .i64 p1, .int .i64 p2, .int .i64 p3, .int .i64 p4, .int .i64 p5] 35) := by
  by_cases h : p3 < 0
  · rw [show wordAt p3 th = -1 from if_pos (.inl h)]; exact word13_a _ _ _ _ _ _ _ h w
  · by_cases k : 4096 < p3
    · rw [show wordAt p3 th = -1 from if_pos (.inr k)]; exact word13_b _ _ _ _ _ _ _ k w
    · rw [show wordAt p3 th = p3 + th from if_neg (by omega)]; exact word13_c _ _ _ _ _ _ _ h0 h8 (by omega) (by omega) w

end Go.Proofs.Ytobmgnoceacoaaa

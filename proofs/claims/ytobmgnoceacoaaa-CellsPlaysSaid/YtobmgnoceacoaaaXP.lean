/- The contracts of cells: places. -/
import Derived.Test.YtobmgnoceacoaaaML
import Derived.Test.YtobmgnoceacoaaaMS
import Derived.Test.YtobmgnoceacoaaaMN
import Derived.Test.YtobmgnoceacoaaaMV
namespace Go.Proofs.Ytobmgnoceacoaaa
open Go.RowKit

/-- What is wrong with a cell's place, and where it lies. -/
def xpErr (p4 c : Int) : Int := if c < 0 ∨ 256 ≤ c then 60 else if p4 < 0 ∨ 4096 < p4 then 30 else 0
def xpAt (p4 c k : Int) : Int := if xpErr p4 c = 0 then p4 + 3 * c + k else 0
theorem xpErr_cell {p4 c : Int} (h : c < 0 ∨ 256 ≤ c) : xpErr p4 c = 60 := if_pos h
theorem xpErr_place {p4 c : Int} (h0 : 0 ≤ c) (h8 : c < 256) (h : p4 < 0 ∨ 4096 < p4) : xpErr p4 c = 30 := by unfold xpErr; rw [if_neg (by omega), if_pos h]
theorem xpErr_ok {p4 c : Int} (h0 : 0 ≤ c) (h8 : c < 256) (h : 0 ≤ p4) (h' : p4 ≤ 4096) : xpErr p4 c = 0 := by unfold xpErr; rw [if_neg (by omega), if_neg (by omega)]
theorem xpErr_cases (p4 c : Int) : ((c < 0 ∨ 256 ≤ c) ∧ xpErr p4 c = 60) ∨ (0 ≤ c ∧ c < 256 ∧ (p4 < 0 ∨ 4096 < p4) ∧ xpErr p4 c = 30) ∨ (0 ≤ c ∧ c < 256 ∧ 0 ≤ p4 ∧ p4 ≤ 4096 ∧ xpErr p4 c = 0) := by
  by_cases h : c < 0 ∨ 256 ≤ c
  · exact .inl ⟨h, xpErr_cell h⟩
  · by_cases k : p4 < 0 ∨ 4096 < p4
    · exact .inr (.inl ⟨by omega, by omega, k, xpErr_place (by omega) (by omega) k⟩)
    · exact .inr (.inr ⟨by omega, by omega, by omega, by omega, xpErr_ok (by omega) (by omega) (by omega) (by omega)⟩)
theorem xpErr_zero {p4 c : Int} (h : xpErr p4 c = 0) : 0 ≤ c ∧ c < 256 ∧ 0 ≤ p4 ∧ p4 ≤ 4096 := by
  rcases xpErr_cases p4 c with ⟨_, e⟩ | ⟨_, _, _, e⟩ | ⟨a, b, c, d, _⟩
  · omega
  · omega
  · exact ⟨a, b, c, d⟩

set_option maxHeartbeats 1000000 in
theorem place11_a (p0 p1 p2 p3 p4 p5 c k : Int) (h : c < 0) (w : World) :
    Calls Try.prog 90 #[.agg #[.int .i64 p0, .int .i64 p1, .int .i64 p2, .int .i64 p3, .int .i64 p4, .int .i64 p5], .int .i64 c, .int .i64 k] w fun e w' => e = .returned (.tuple #[.int .i64 0, .int .i64 60]) ∧ w' = w.alloc (.cells #[.int .i64 p0, .int .i64 p1, .int .i64 p2, .int .i64 p3, .int .i64 p4, .int .i64 p5] 35) := by
  go_enter Try.func90, Try.ntmps90
  go_wp2
  go_ret2
  exact ⟨rfl, rfl⟩

set_option maxHeartbeats 1000000 in
theorem place11_b (p0 p1 p2 p3 p4 p5 c k : Int) (h : 256 ≤ c) (w : World) :
    Calls Try.prog 90 #[.agg #[.int .i64 p0, .int .i64 p1, .int .i64 p2, .int .i64 p3, .int .i64 p4, .int .i64 p5], .int .i64 c, .int .i64 k] w fun e w' => e = .returned (.tuple #[.int .i64 0, .int .i64 60]) ∧ w' = w.alloc (.cells #[.int .i64 p0, .int .i64 p1, .int .i64 p2, .int .i64 p3, .int .i64 p4, .int .i64 p5] 35) := by
  go_enter Try.func90, Try.ntmps90
  go_wp2
  go_ret2
  exact ⟨rfl, rfl⟩

set_option maxHeartbeats 1000000 in
theorem place11_c (p0 p1 p2 p3 p4 p5 c k : Int) (h0 : 0 ≤ c) (h8 : c < 256) (h : p4 < 0) (w : World) :
    Calls Try.prog 90 #[.agg #[.int .i64 p0, .int .i64 p1, .int .i64 p2, .int .i64 p3, .int .i64 p4, .int .i64 p5], .int .i64 c, .int .i64 k] w fun e w' => e = .returned (.tuple #[.int .i64 0, .int .i64 30]) ∧ w' = w.alloc (.cells #[.int .i64 p0, .int .i64 p1, .int .i64 p2, .int .i64 p3, .int .i64 p4, .int .i64 p5] 35) := by
  go_enter Try.func90, Try.ntmps90
  go_wp2
  go_ret2
  exact ⟨rfl, rfl⟩

set_option maxHeartbeats 1000000 in
theorem place11_d (p0 p1 p2 p3 p4 p5 c k : Int) (h0 : 0 ≤ c) (h8 : c < 256) (h : 4096 < p4) (w : World) :
    Calls Try.prog 90 #[.agg #[.int .i64 p0, .int .i64 p1, .int .i64 p2, .int .i64 p3, .int .i64 p4, .int .i64 p5], .int .i64 c, .int .i64 k] w fun e w' => e = .returned (.tuple #[.int .i64 0, .int .i64 30]) ∧ w' = w.alloc (.cells #[.int .i64 p0, .int .i64 p1, .int .i64 p2, .int .i64 p3, .int .i64 p4, .int .i64 p5] 35) := by
  go_enter Try.func90, Try.ntmps90
  go_wp2
  go_ret2
  exact ⟨rfl, rfl⟩

set_option maxHeartbeats 1000000 in
theorem place11_e (p0 p1 p2 p3 p4 p5 c k : Int) (h0 : 0 ≤ c) (h8 : c < 256) (h : 0 ≤ p4) (h' : p4 ≤ 4096) (hk0 : 0 ≤ k) (hk : k ≤ 2) (w : World) :
    Calls Try.prog 90 #[.agg #[.int .i64 p0, .int .i64 p1, .int .i64 p2, .int .i64 p3, .int .i64 p4, .int .i64 p5], .int .i64 c, .int .i64 k] w fun e w' => e = .returned (.tuple #[.int .i64 (p4 + 3 * c + k), .int .i64 0]) ∧ w' = w.alloc (.cells #[.int .i64 p0, .int .i64 p1, .int .i64 p2, .int .i64 p3, .int .i64 p4, .int .i64 p5] 35) := by
  go_enter Try.func90, Try.ntmps90
  go_wp2
  go_ret2
  exact ⟨rfl, rfl⟩

theorem place11 (p0 p1 p2 p3 p4 p5 c k : Int) (hk0 : 0 ≤ k) (hk : k ≤ 2) (w : World) :
    Calls Try.prog 90 #[.agg #[.int .i64 p0, .int .i64 p1, .int .i64 p2, .int .i64 p3, .int .i64 p4, .int .i64 p5], .int .i64 c, .int .i64 k] w fun e w' => e = .returned (.tuple #[.int .i64 (xpAt p4 c k), .int .i64 (xpErr p4 c)]) ∧ w' = w.alloc (.cells #[.int .i64 p0, .int .i64 p1, .int .i64 p2, .int .i64 p3, .int .i64 p4, .int .i64 p5] 35) := by
  rcases xpErr_cases p4 c with ⟨h, he⟩ | ⟨h0, h8, h, he⟩ | ⟨h0, h8, h, h', he⟩
  · have ha : xpAt p4 c k = 0 := by unfold xpAt; rw [he]; rfl
    rw [ha, he]; rcases h with h | h
    · exact place11_a _ _ _ _ _ _ _ _ h w
    · exact place11_b _ _ _ _ _ _ _ _ h w
  · have ha : xpAt p4 c k = 0 := by unfold xpAt; rw [he]; rfl
    rw [ha, he]; rcases h with h | h
    · exact place11_c _ _ _ _ _ _ _ _ h0 h8 h w
    · exact place11_d _ _ _ _ _ _ _ _ h0 h8 h w
  · have ha : xpAt p4 c k = p4 + 3 * c + k := by unfold xpAt; rw [he]; rfl
    rw [ha, he]; exact place11_e _ _ _ _ _ _ _ _ h0 h8 h h' hk0 hk w

theorem fresh11 (n : Int) (h1 : 1 ≤ n) (h2 : n ≤ 4096) (w : World) : Calls Try.prog 26 #[.int .i64 n] w fun e w' => ∃ a b, e = .returned (.pointer (some ⟨a, 0, none⟩)) ∧ MemAt 142 w' a b (.fresh n.toNat) ∧ w.heap.size ≤ a ∧ w.heap.size ≤ b ∧ Mod [] w w' := by
  go_enter Try.func26, Try.ntmps26
  go_wp2_with fail
  refine (new_e n h1 h2 _).mono ?_; rintro e w1 ⟨a, b, rfl, M1, ha, hb, d1⟩
  go_wp2
  go_ret
  exact ⟨a, b, rfl, M1, ha, hb, d1⟩

/-- 'Peek' refuses a cell that may not be, and a place that is none. -/
theorem peek11_cell {a b : Nat} {s : MemS} {w : World} (hM : MemAt 142 w a b s) (p0 p1 p2 p3 p4 p5 c : Int) (h : (xpErr p4 c != 0) = true) :
    Calls Try.prog 25 #[.pointer (some ⟨a, 0, none⟩), .agg #[.int .i64 p0, .int .i64 p1, .int .i64 p2, .int .i64 p3, .int .i64 p4, .int .i64 p5], .int .i64 c] w fun e w' => e = .returned (.tuple #[.agg #[.int .u64 0, .int .u64 0, .int .u64 0], .int .i64 (xpErr p4 c)]) ∧ MemAt 142 w' a b s ∧ Mod [] w w' := by
  go_enter Try.func25, Try.ntmps25
  go_wp2_with fail
  refine (place11 _ _ _ _ _ _ _ 0 (by omega) (by omega) _).mono ?_; rintro e w1 ⟨rfl, rfl⟩
  go_wp2
  exact bodyPost_ret (v := .tuple #[.agg #[.int .u64 0, .int .u64 0, .int .u64 0], .int .i64 (xpErr p4 c)]) (by simp [results, Try.results25, go_sem]) rfl ⟨rfl, ((hM.alloc _).alloc _).alloc _, (((Mod.refl _ _).alloc _).alloc _).alloc _⟩

theorem peek11_bad {a b : Nat} {s : MemS} {w : World} (hM : MemAt 142 w a b s) (p0 p1 p2 p3 p4 p5 c : Int) (h : xpErr p4 c = 0) (hb : (s.bad (p4 + 3 * c + 2) != 0) = true) :
    Calls Try.prog 25 #[.pointer (some ⟨a, 0, none⟩), .agg #[.int .i64 p0, .int .i64 p1, .int .i64 p2, .int .i64 p3, .int .i64 p4, .int .i64 p5], .int .i64 c] w fun e w' => e = .returned (.tuple #[.agg #[.int .u64 0, .int .u64 0, .int .u64 0], .int .i64 (s.bad (p4 + 3 * c + 2))]) ∧ MemAt 142 w' a b s ∧ Mod [] w w' := by
  obtain ⟨h0, h1, h2, h3⟩ := xpErr_zero h
  clear h
  go_enter Try.func25, Try.ntmps25
  go_wp2_with fail
  refine (place11_e _ _ _ _ _ _ _ 0 h0 h1 h2 h3 (by omega) (by omega) _).mono ?_; rintro e w1 ⟨rfl, rfl⟩
  go_wp2_with fail
  refine (peek_cq (((hM.alloc _).alloc _).alloc _) _).mono ?_; rintro e w1 ⟨rfl, rfl⟩
  go_wp2
  exact bodyPost_ret (v := .tuple #[.agg #[.int .u64 0, .int .u64 0, .int .u64 0], .int .i64 (s.bad (p4 + 3 * c + 2))]) (by simp [results, Try.results25, go_sem]) rfl ⟨rfl, ((hM.alloc _).alloc _).alloc _, (((Mod.refl _ _).alloc _).alloc _).alloc _⟩

set_option maxHeartbeats 1000000 in
theorem cellsNumbers_walk (w : World) : Calls Try.prog 4 #[] w fun e w' => e = .returned (.bool true) ∧ Mod [] w w' := by
  go_enter Try.func4, Try.ntmps4
  go_wp2_with fail
  refine (fresh11 3 (by omega) (by omega) _).mono ?_; rintro e w1 ⟨a, b, rfl, M1, ha, hb, D1⟩
  go_wp2_with fail
  refine (peek11_cell M1 0 0 0 0 0 0 256 (by decide +kernel)).mono ?_; rintro e w2 ⟨rfl, M2, d2⟩
  rw [show xpErr 0 256 = 60 from by decide +kernel]
  have D2 := D1.trans d2
  clear M1 D1 d2 M2
  go_wp2_with fail
  refine (fresh11 3 (by omega) (by omega) _).mono ?_; rintro e w3 ⟨a', b', rfl, M3, ha', hb', d3⟩
  have D3 : Mod [] w w3 := (D2.alloc _).trans d3
  clear D2 d3
  go_wp2_with fail
  refine (peek11_bad M3 0 0 0 0 0 0 1 (by decide +kernel) (by decide +kernel)).mono ?_; rintro e w4 ⟨rfl, M4, d4⟩
  rw [show (MemS.fresh (Int.toNat 3)).bad (0 + 3 * 1 + 2) = 30 from by decide +kernel]
  have D4 := D3.trans d4
  clear M3 D3 d4 M4
  go_wp2
  go_ret
  exact ⟨rfl, D4.alloc _⟩

end Go.Proofs.Ytobmgnoceacoaaa

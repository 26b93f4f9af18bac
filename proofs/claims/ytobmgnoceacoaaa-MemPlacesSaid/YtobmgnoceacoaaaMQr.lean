/- The contracts of the reference's MayBe and Place. -/
import Derived.Test.YtobmgnoceacoaaaMQ
namespace Go.Proofs.Ytobmgnoceacoaaa
open Go.RowKit

set_option maxHeartbeats 1000000 in
theorem maybe_bad0 (c t f k : Int)  (hb : c < 1) (w : World) :
    Calls Try.prog 91 #[.agg #[.int .i64 c, .int .i64 t, .int .i64 f, .int .i64 k]] w fun e w' => e = .returned (.bool false) ∧ Mod [] w w' := by
  go_enter Try.func91, Try.ntmps91
  go_wp2
  go_ret
  exact ⟨by first | rfl | (simp; omega), (by repeat (first | with_reducible exact Mod.refl _ _ | with_reducible assumption | with_reducible refine Mod.drew ?_ | with_reducible refine Mod.alloc ?_ _ | with_reducible refine Mod.set_new ?_ _ _ _ (by simp)))⟩
set_option maxHeartbeats 1000000 in
theorem maybe_bad1 (c t f k : Int) (h0 : 1 ≤ c) (hb : 256 < c) (w : World) :
    Calls Try.prog 91 #[.agg #[.int .i64 c, .int .i64 t, .int .i64 f, .int .i64 k]] w fun e w' => e = .returned (.bool false) ∧ Mod [] w w' := by
  go_enter Try.func91, Try.ntmps91
  go_wp2
  go_ret
  exact ⟨by first | rfl | (simp; omega), (by repeat (first | with_reducible exact Mod.refl _ _ | with_reducible assumption | with_reducible refine Mod.drew ?_ | with_reducible refine Mod.alloc ?_ _ | with_reducible refine Mod.set_new ?_ _ _ _ (by simp)))⟩
set_option maxHeartbeats 1000000 in
theorem maybe_bad2 (c t f k : Int) (h0 : 1 ≤ c) (h1 : c ≤ 256) (hb : t < 1) (w : World) :
    Calls Try.prog 91 #[.agg #[.int .i64 c, .int .i64 t, .int .i64 f, .int .i64 k]] w fun e w' => e = .returned (.bool false) ∧ Mod [] w w' := by
  go_enter Try.func91, Try.ntmps91
  go_wp2
  go_ret
  exact ⟨by first | rfl | (simp; omega), (by repeat (first | with_reducible exact Mod.refl _ _ | with_reducible assumption | with_reducible refine Mod.drew ?_ | with_reducible refine Mod.alloc ?_ _ | with_reducible refine Mod.set_new ?_ _ _ _ (by simp)))⟩
set_option maxHeartbeats 1000000 in
theorem maybe_bad3 (c t f k : Int) (h0 : 1 ≤ c) (h1 : c ≤ 256) (h2 : 1 ≤ t) (hb : 8 < t) (w : World) :
    Calls Try.prog 91 #[.agg #[.int .i64 c, .int .i64 t, .int .i64 f, .int .i64 k]] w fun e w' => e = .returned (.bool false) ∧ Mod [] w w' := by
  go_enter Try.func91, Try.ntmps91
  go_wp2
  go_ret
  exact ⟨by first | rfl | (simp; omega), (by repeat (first | with_reducible exact Mod.refl _ _ | with_reducible assumption | with_reducible refine Mod.drew ?_ | with_reducible refine Mod.alloc ?_ _ | with_reducible refine Mod.set_new ?_ _ _ _ (by simp)))⟩
set_option maxHeartbeats 1000000 in
theorem maybe_bad4 (c t f k : Int) (h0 : 1 ≤ c) (h1 : c ≤ 256) (h2 : 1 ≤ t) (h3 : t ≤ 8) (hb : f < 1) (w : World) :
    Calls Try.prog 91 #[.agg #[.int .i64 c, .int .i64 t, .int .i64 f, .int .i64 k]] w fun e w' => e = .returned (.bool false) ∧ Mod [] w w' := by
  go_enter Try.func91, Try.ntmps91
  go_wp2
  go_ret
  exact ⟨by first | rfl | (simp; omega), (by repeat (first | with_reducible exact Mod.refl _ _ | with_reducible assumption | with_reducible refine Mod.drew ?_ | with_reducible refine Mod.alloc ?_ _ | with_reducible refine Mod.set_new ?_ _ _ _ (by simp)))⟩
set_option maxHeartbeats 1000000 in
theorem maybe_bad5 (c t f k : Int) (h0 : 1 ≤ c) (h1 : c ≤ 256) (h2 : 1 ≤ t) (h3 : t ≤ 8) (h4 : 1 ≤ f) (hb : 1024 < f) (w : World) :
    Calls Try.prog 91 #[.agg #[.int .i64 c, .int .i64 t, .int .i64 f, .int .i64 k]] w fun e w' => e = .returned (.bool false) ∧ Mod [] w w' := by
  go_enter Try.func91, Try.ntmps91
  go_wp2
  go_ret
  exact ⟨by first | rfl | (simp; omega), (by repeat (first | with_reducible exact Mod.refl _ _ | with_reducible assumption | with_reducible refine Mod.drew ?_ | with_reducible refine Mod.alloc ?_ _ | with_reducible refine Mod.set_new ?_ _ _ _ (by simp)))⟩
set_option maxHeartbeats 1000000 in
theorem maybe_bad6 (c t f k : Int) (h0 : 1 ≤ c) (h1 : c ≤ 256) (h2 : 1 ≤ t) (h3 : t ≤ 8) (h4 : 1 ≤ f) (h5 : f ≤ 1024) (hb : k < 1) (w : World) :
    Calls Try.prog 91 #[.agg #[.int .i64 c, .int .i64 t, .int .i64 f, .int .i64 k]] w fun e w' => e = .returned (.bool false) ∧ Mod [] w w' := by
  go_enter Try.func91, Try.ntmps91
  go_wp2
  go_ret
  exact ⟨by first | rfl | (simp; omega), (by repeat (first | with_reducible exact Mod.refl _ _ | with_reducible assumption | with_reducible refine Mod.drew ?_ | with_reducible refine Mod.alloc ?_ _ | with_reducible refine Mod.set_new ?_ _ _ _ (by simp)))⟩
set_option maxHeartbeats 1000000 in
theorem maybe_bad7 (c t f k : Int) (h0 : 1 ≤ c) (h1 : c ≤ 256) (h2 : 1 ≤ t) (h3 : t ≤ 8) (h4 : 1 ≤ f) (h5 : f ≤ 1024) (h6 : 1 ≤ k) (hb : 32 < k) (w : World) :
    Calls Try.prog 91 #[.agg #[.int .i64 c, .int .i64 t, .int .i64 f, .int .i64 k]] w fun e w' => e = .returned (.bool false) ∧ Mod [] w w' := by
  go_enter Try.func91, Try.ntmps91
  go_wp2
  go_ret
  exact ⟨by first | rfl | (simp; omega), (by repeat (first | with_reducible exact Mod.refl _ _ | with_reducible assumption | with_reducible refine Mod.drew ?_ | with_reducible refine Mod.alloc ?_ _ | with_reducible refine Mod.set_new ?_ _ _ _ (by simp)))⟩
theorem maybe_bad (c t f k : Int) (h : ¬ CfgOk c t f k) (w : World) :
    Calls Try.prog 91 #[.agg #[.int .i64 c, .int .i64 t, .int .i64 f, .int .i64 k]] w fun e w' => e = .returned (.bool false) ∧ Mod [] w w' := by
  unfold CfgOk at h
  by_cases b0 : c < 1
  · exact maybe_bad0 c t f k  b0 w
  by_cases b1 : 256 < c
  · exact maybe_bad1 c t f k (by omega) b1 w
  by_cases b2 : t < 1
  · exact maybe_bad2 c t f k (by omega) (by omega) b2 w
  by_cases b3 : 8 < t
  · exact maybe_bad3 c t f k (by omega) (by omega) (by omega) b3 w
  by_cases b4 : f < 1
  · exact maybe_bad4 c t f k (by omega) (by omega) (by omega) (by omega) b4 w
  by_cases b5 : 1024 < f
  · exact maybe_bad5 c t f k (by omega) (by omega) (by omega) (by omega) (by omega) b5 w
  by_cases b6 : k < 1
  · exact maybe_bad6 c t f k (by omega) (by omega) (by omega) (by omega) (by omega) (by omega) b6 w
  by_cases b7 : 32 < k
  · exact maybe_bad7 c t f k (by omega) (by omega) (by omega) (by omega) (by omega) (by omega) (by omega) b7 w
  · omega
set_option maxHeartbeats 1000000 in
theorem maybe_ok (c t f k : Int) (h : CfgOk c t f k) (w : World) :
    Calls Try.prog 91 #[.agg #[.int .i64 c, .int .i64 t, .int .i64 f, .int .i64 k]] w fun e w' => e = .returned (.bool true) ∧ Mod [] w w' := by
  obtain ⟨h0, h1, h2, h3, h4, h5, h6, h7⟩ := h
  go_enter Try.func91, Try.ntmps91
  go_wp2
  go_ret
  exact ⟨by first | rfl | (simp; omega), (by repeat (first | with_reducible exact Mod.refl _ _ | with_reducible assumption | with_reducible refine Mod.drew ?_ | with_reducible refine Mod.alloc ?_ _ | with_reducible refine Mod.set_new ?_ _ _ _ (by simp)))⟩
set_option maxHeartbeats 1000000 in
theorem placer_bad (c t f k : Int) (h : ¬ CfgOk c t f k) (w : World) :
    Calls Try.prog 30 #[.agg #[.int .i64 c, .int .i64 t, .int .i64 f, .int .i64 k]] w fun e w' => e = .returned (.tuple #[.agg #[.int .i64 0, .int .i64 0, .int .i64 0, .int .i64 0, .int .i64 0, .int .i64 0], .int .i64 1]) ∧ Mod [] w w' := by
  go_enter Try.func30, Try.ntmps30
  go_wp2_with fail
  refine (maybe_bad c t f k h _).mono ?_; rintro e w1 ⟨rfl, d1⟩
  have B1 : w1.heap[w.heap.size]? = some (.cells #[.int .i64 c, .int .i64 t, .int .i64 f, .int .i64 k] 40 (0, 0)) := d1.at (blk_alloc_old _ (heap_alloc_new _ _)) (by simp)
  have B2 : w1.heap[w.heap.size + 1]? = some (.cells #[.int .i64 0, .int .i64 0, .int .i64 0, .int .i64 0, .int .i64 0, .int .i64 0] 35 (0, 0)) := d1.at (by have := heap_alloc_new (w.alloc (.cells #[.int .i64 c, .int .i64 t, .int .i64 f, .int .i64 k] 40)) (.cells #[.int .i64 0, .int .i64 0, .int .i64 0, .int .i64 0, .int .i64 0, .int .i64 0] 35); rwa [World.size_alloc] at this) (by simp)
  have b1_0 := cell_of_blk (i := 0) B1 rfl
  have b1_1 := cell_of_blk (i := 1) B1 rfl
  have b1_2 := cell_of_blk (i := 2) B1 rfl
  have b1_3 := cell_of_blk (i := 3) B1 rfl
  have b2_0 := cell_of_blk (i := 0) B2 rfl
  have f2_0 := free_of_blk (i := 0) B2
  have b2_1 := cell_of_blk (i := 1) B2 rfl
  have f2_1 := free_of_blk (i := 1) B2
  have b2_2 := cell_of_blk (i := 2) B2 rfl
  have f2_2 := free_of_blk (i := 2) B2
  have b2_3 := cell_of_blk (i := 3) B2 rfl
  have f2_3 := free_of_blk (i := 3) B2
  have b2_4 := cell_of_blk (i := 4) B2 rfl
  have f2_4 := free_of_blk (i := 4) B2
  have b2_5 := cell_of_blk (i := 5) B2 rfl
  have f2_5 := free_of_blk (i := 5) B2
  have hsz := lt_of_block B2
  clear B1 B2
  have D1 : Mod [] w w1 := ((((Mod.refl _ _).alloc _).alloc _)).trans d1
  clear d1
  clear h
  go_wp2
  exact bodyPost_ret (v := .tuple #[.agg #[.int .i64 0, .int .i64 0, .int .i64 0, .int .i64 0, .int .i64 0, .int .i64 0], .int .i64 1]) (by simp [results, Try.results30, go_sem, b2_0, b2_1, b2_2, b2_3, b2_4, b2_5]) rfl ⟨rfl, (by repeat (first | with_reducible exact Mod.refl _ _ | with_reducible assumption | with_reducible refine Mod.drew ?_ | with_reducible refine Mod.alloc ?_ _ | with_reducible refine Mod.set_new ?_ _ _ _ (by simp)))⟩
set_option maxHeartbeats 1000000 in
theorem placer_ok (c t f k : Int) (h : CfgOk c t f k) (w : World) :
    Calls Try.prog 30 #[.agg #[.int .i64 c, .int .i64 t, .int .i64 f, .int .i64 k]] w fun e w' => e = .returned (.tuple #[.agg #[.int .i64 0, .int .i64 1, .int .i64 2, .int .i64 3, .int .i64 (3 + t), .int .i64 (3 + t + 3 * c)], .int .i64 0]) ∧ Mod [] w w' := by
  go_enter Try.func30, Try.ntmps30
  go_wp2_with fail
  refine (maybe_ok c t f k h _).mono ?_; rintro e w1 ⟨rfl, d1⟩
  have B1 : w1.heap[w.heap.size]? = some (.cells #[.int .i64 c, .int .i64 t, .int .i64 f, .int .i64 k] 40 (0, 0)) := d1.at (blk_alloc_old _ (heap_alloc_new _ _)) (by simp)
  have B2 : w1.heap[w.heap.size + 1]? = some (.cells #[.int .i64 0, .int .i64 0, .int .i64 0, .int .i64 0, .int .i64 0, .int .i64 0] 35 (0, 0)) := d1.at (by have := heap_alloc_new (w.alloc (.cells #[.int .i64 c, .int .i64 t, .int .i64 f, .int .i64 k] 40)) (.cells #[.int .i64 0, .int .i64 0, .int .i64 0, .int .i64 0, .int .i64 0, .int .i64 0] 35); rwa [World.size_alloc] at this) (by simp)
  have b1_0 := cell_of_blk (i := 0) B1 rfl
  have b1_1 := cell_of_blk (i := 1) B1 rfl
  have b1_2 := cell_of_blk (i := 2) B1 rfl
  have b1_3 := cell_of_blk (i := 3) B1 rfl
  have b2_0 := cell_of_blk (i := 0) B2 rfl
  have f2_0 := free_of_blk (i := 0) B2
  have b2_1 := cell_of_blk (i := 1) B2 rfl
  have f2_1 := free_of_blk (i := 1) B2
  have b2_2 := cell_of_blk (i := 2) B2 rfl
  have f2_2 := free_of_blk (i := 2) B2
  have b2_3 := cell_of_blk (i := 3) B2 rfl
  have f2_3 := free_of_blk (i := 3) B2
  have b2_4 := cell_of_blk (i := 4) B2 rfl
  have f2_4 := free_of_blk (i := 4) B2
  have b2_5 := cell_of_blk (i := 5) B2 rfl
  have f2_5 := free_of_blk (i := 5) B2
  have hsz := lt_of_block B2
  clear B1 B2
  have D1 : Mod [] w w1 := ((((Mod.refl _ _).alloc _).alloc _)).trans d1
  clear d1
  obtain ⟨h0, h1, h2, h3, h4, h5, h6, h7⟩ := h
  go_wp2
  exact bodyPost_ret (v := .tuple #[.agg #[.int .i64 0, .int .i64 1, .int .i64 2, .int .i64 3, .int .i64 (3 + t), .int .i64 (3 + t + 3 * c)], .int .i64 0]) (by simp [results, Try.results30, go_sem, b2_0, b2_1, b2_2, b2_3, b2_4, b2_5]) rfl ⟨rfl, (by repeat (first | with_reducible exact Mod.refl _ _ | with_reducible assumption | with_reducible refine Mod.drew ?_ | with_reducible refine Mod.alloc ?_ _ | with_reducible refine Mod.set_new ?_ _ _ _ (by simp)))⟩
end Go.Proofs.Ytobmgnoceacoaaa

/- MemPlaces: the walk. -/
import Derived.Test.YtobmgnoceacoaaaMQr
import Derived.Test.YtobmgnoceacoaaaLive03
namespace Go.Proofs.Ytobmgnoceacoaaa
open Go.RowKit

set_option maxHeartbeats 1000000 in
theorem memPlaces_ok (c t f k : Int) (h : CfgOk c t f k) (w : World) :
    Calls Try.prog 6 #[.agg #[.int .i64 c, .int .i64 t, .int .i64 f, .int .i64 k]] w fun e w' => e = .returned (.bool true) ∧ Mod [] w w' := by
  go_enter Try.func6, Try.ntmps6
  go_wp2_with fail
  refine (live03 _).mono ?_; rintro e w1 ⟨rfl, d1⟩
  have B1 : w1.heap[w.heap.size]? = some (.cells #[.int .i64 c, .int .i64 t, .int .i64 f, .int .i64 k] 40 (0, 0)) := d1.at (heap_alloc_new _ _) (by simp)
  have b1_0 := cell_of_blk (i := 0) B1 rfl
  have b1_1 := cell_of_blk (i := 1) B1 rfl
  have b1_2 := cell_of_blk (i := 2) B1 rfl
  have b1_3 := cell_of_blk (i := 3) B1 rfl
  have z1 := lt_of_block B1
  have D1 : Mod [] w w1 := ((Mod.refl _ _).alloc _).trans d1
  clear d1
  go_wp2_with fail
  refine (place_ok c t f k h _).mono ?_; rintro e w2 ⟨rfl, d2⟩
  have B2 := d2.at B1 (by simp)
  clear B1 b1_0 b1_1 b1_2 b1_3
  have b2_0 := cell_of_blk (i := 0) B2 rfl
  have b2_1 := cell_of_blk (i := 1) B2 rfl
  have b2_2 := cell_of_blk (i := 2) B2 rfl
  have b2_3 := cell_of_blk (i := 3) B2 rfl
  have z2 := lt_of_block B2
  have D2 := D1.trans d2
  clear D1 d2
  go_wp2_with fail
  refine (placer_ok c t f k h _).mono ?_; rintro e w3 ⟨rfl, d3⟩
  have B3 : w3.heap[w2.heap.size]? = some (.cells #[.int .i64 0, .int .i64 1, .int .i64 2, .int .i64 3, .int .i64 (3 + t), .int .i64 (3 + t + 3 * c)] 35 (0, 0)) := d3.at (heap_alloc_new _ _) (by simp)
  clear B2 b2_0 b2_1 b2_2 b2_3
  have b3_0 := cell_of_blk (i := 0) B3 rfl
  have b3_1 := cell_of_blk (i := 1) B3 rfl
  have b3_2 := cell_of_blk (i := 2) B3 rfl
  have b3_3 := cell_of_blk (i := 3) B3 rfl
  have b3_4 := cell_of_blk (i := 4) B3 rfl
  have b3_5 := cell_of_blk (i := 5) B3 rfl
  have z3 := lt_of_block B3
  have D3 := (D2.alloc _).trans d3
  clear D2 d3 B3 h
  go_wp2
  go_ret
  exact ⟨rfl, (by repeat (first | with_reducible exact Mod.refl _ _ | with_reducible assumption | with_reducible refine Mod.drew ?_ | with_reducible refine Mod.alloc ?_ _ | with_reducible refine Mod.set_new ?_ _ _ _ (by simp)))⟩

set_option maxHeartbeats 1000000 in
theorem memPlaces_bad (c t f k : Int) (h : ¬ CfgOk c t f k) (w : World) :
    Calls Try.prog 6 #[.agg #[.int .i64 c, .int .i64 t, .int .i64 f, .int .i64 k]] w fun e w' => e = .returned (.bool true) ∧ Mod [] w w' := by
  go_enter Try.func6, Try.ntmps6
  go_wp2_with fail
  refine (live03 _).mono ?_; rintro e w1 ⟨rfl, d1⟩
  have B1 : w1.heap[w.heap.size]? = some (.cells #[.int .i64 c, .int .i64 t, .int .i64 f, .int .i64 k] 40 (0, 0)) := d1.at (heap_alloc_new _ _) (by simp)
  have b1_0 := cell_of_blk (i := 0) B1 rfl
  have b1_1 := cell_of_blk (i := 1) B1 rfl
  have b1_2 := cell_of_blk (i := 2) B1 rfl
  have b1_3 := cell_of_blk (i := 3) B1 rfl
  have z1 := lt_of_block B1
  have D1 : Mod [] w w1 := ((Mod.refl _ _).alloc _).trans d1
  clear d1
  go_wp2_with fail
  refine (place_bad c t f k h _).mono ?_; rintro e w2 ⟨rfl, d2⟩
  have B2 := d2.at B1 (by simp)
  clear B1 b1_0 b1_1 b1_2 b1_3
  have b2_0 := cell_of_blk (i := 0) B2 rfl
  have b2_1 := cell_of_blk (i := 1) B2 rfl
  have b2_2 := cell_of_blk (i := 2) B2 rfl
  have b2_3 := cell_of_blk (i := 3) B2 rfl
  have z2 := lt_of_block B2
  have D2 := D1.trans d2
  clear D1 d2
  go_wp2_with fail
  refine (placer_bad c t f k h _).mono ?_; rintro e w3 ⟨rfl, d3⟩
  have B3 : w3.heap[w2.heap.size]? = some (.cells #[.int .i64 0, .int .i64 0, .int .i64 0, .int .i64 0, .int .i64 0, .int .i64 0] 35 (0, 0)) := d3.at (heap_alloc_new _ _) (by simp)
  clear B2 b2_0 b2_1 b2_2 b2_3
  have b3_0 := cell_of_blk (i := 0) B3 rfl
  have b3_1 := cell_of_blk (i := 1) B3 rfl
  have b3_2 := cell_of_blk (i := 2) B3 rfl
  have b3_3 := cell_of_blk (i := 3) B3 rfl
  have b3_4 := cell_of_blk (i := 4) B3 rfl
  have b3_5 := cell_of_blk (i := 5) B3 rfl
  have z3 := lt_of_block B3
  have D3 := (D2.alloc _).trans d3
  clear D2 d3 B3 h
  go_wp2
  go_ret
  exact ⟨rfl, (by repeat (first | with_reducible exact Mod.refl _ _ | with_reducible assumption | with_reducible refine Mod.drew ?_ | with_reducible refine Mod.alloc ?_ _ | with_reducible refine Mod.set_new ?_ _ _ _ (by simp)))⟩

theorem memPlaces_walk (c t f k : Int) (w : World) :
    Calls Try.prog 6 #[.agg #[.int .i64 c, .int .i64 t, .int .i64 f, .int .i64 k]] w fun e w' => e = .returned (.bool true) ∧ Mod [] w w' := by
  by_cases h : CfgOk c t f k
  · exact memPlaces_ok c t f k h w
  · exact memPlaces_bad c t f k h w

end Go.Proofs.Ytobmgnoceacoaaa

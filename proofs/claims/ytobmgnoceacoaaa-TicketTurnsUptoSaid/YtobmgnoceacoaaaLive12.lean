/- Layer 12: 'two' and 'live'; TicketNumbers: the walk. -/
import Derived.Test.YtobmgnoceacoaaaTK
import Derived.Test.YtobmgnoceacoaaaMN
import Derived.Test.YtobmgnoceacoaaaMO
namespace Go.Proofs.Ytobmgnoceacoaaa
open Go.RowKit

set_option maxHeartbeats 1000000 in
theorem two12 (w : World) : Calls Try.prog 45 #[] w fun e w' => ∃ a b, e = .returned (.pointer (some ⟨a, 0, none⟩)) ∧ MemAt 142 w' a b (.fresh 2) ∧ w.heap.size ≤ a ∧ w.heap.size ≤ b ∧ Mod [] w w' := by
  go_enter Try.func45, Try.ntmps45
  go_wp2_with fail
  refine (new_e 2 (by omega) (by omega) _).mono ?_; rintro e w1 ⟨a, b, rfl, M1, ha, hb, d1⟩
  go_wp2
  go_ret
  exact ⟨a, b, rfl, M1, ha, hb, d1⟩

set_option maxRecDepth 100000 in
set_option maxHeartbeats 4000000 in
theorem live12 (w : World) : Calls Try.prog 50 #[] w fun e w' => e = .returned (.bool true) ∧ Mod [] w w' := by
  go_enter Try.func50, Try.ntmps50
  go_wp2_with fail
  refine (two12 _).mono ?_; rintro e w1 ⟨a, b, rfl, M1, ha, hb, d1⟩
  have hal := M1.lta
  have hbl := M1.ltb
  go_wp2_with fail
  have B1 : (w1.alloc (.cells #[.int .i64 0, .int .i64 1, .int .i64 0, .int .i64 0, .int .i64 0, .int .i64 0] 35)).heap[w1.heap.size]? = some (.cells #[.int .i64 0, .int .i64 1, .int .i64 0, .int .i64 0, .int .i64 0, .int .i64 0] 35 (0, 0)) := heap_alloc_new _ _
  refine (open_c (M1.alloc _)).mono ?_; rintro e w2 ⟨rfl, M2, d2⟩
  have B2 := d2.at B1 (by simp; omega)
  clear B1  M1
  have p2_0 := cell_of_blk (i := 0) B2 rfl
  have p2_1 := cell_of_blk (i := 1) B2 rfl
  have p2_2 := cell_of_blk (i := 2) B2 rfl
  have p2_3 := cell_of_blk (i := 3) B2 rfl
  have p2_4 := cell_of_blk (i := 4) B2 rfl
  have p2_5 := cell_of_blk (i := 5) B2 rfl
  have D2 : Mod [] w w2 := (d1.alloc _).then d2 (by simp; omega)
  clear d2
  go_wp2_with fail
  refine (draw_c M2 0 1 0 0 0 0).mono ?_; rintro e w3 ⟨rfl, M3, d3⟩
  have B3 := d3.at B2 (by simp; omega)
  clear B2 p2_0 p2_1 p2_2 p2_3 p2_4 p2_5 M2
  have p3_0 := cell_of_blk (i := 0) B3 rfl
  have p3_1 := cell_of_blk (i := 1) B3 rfl
  have p3_2 := cell_of_blk (i := 2) B3 rfl
  have p3_3 := cell_of_blk (i := 3) B3 rfl
  have p3_4 := cell_of_blk (i := 4) B3 rfl
  have p3_5 := cell_of_blk (i := 5) B3 rfl
  rw [show ((MemS.fresh 2).opened).got 0 = 0 from by decide +kernel]
  rw [show ((MemS.fresh 2).opened).acc 0 = 0 from by decide +kernel]
  have D3 := D2.then d3 (by simp; omega)
  clear d3
  go_wp2_with fail
  refine (open_c M3).mono ?_; rintro e w4 ⟨rfl, M4, d4⟩
  have B4 := d4.at B3 (by simp; omega)
  clear B3 p3_0 p3_1 p3_2 p3_3 p3_4 p3_5 M3
  have p4_0 := cell_of_blk (i := 0) B4 rfl
  have p4_1 := cell_of_blk (i := 1) B4 rfl
  have p4_2 := cell_of_blk (i := 2) B4 rfl
  have p4_3 := cell_of_blk (i := 3) B4 rfl
  have p4_4 := cell_of_blk (i := 4) B4 rfl
  have p4_5 := cell_of_blk (i := 5) B4 rfl
  have D4 := D3.then d4 (by simp; omega)
  clear d4
  go_wp2_with fail
  refine (draw_c M4 0 1 0 0 0 0).mono ?_; rintro e w5 ⟨rfl, M5, d5⟩
  have B5 := d5.at B4 (by simp; omega)
  clear B4 p4_0 p4_1 p4_2 p4_3 p4_4 p4_5 M4
  have p5_0 := cell_of_blk (i := 0) B5 rfl
  have p5_1 := cell_of_blk (i := 1) B5 rfl
  have p5_2 := cell_of_blk (i := 2) B5 rfl
  have p5_3 := cell_of_blk (i := 3) B5 rfl
  have p5_4 := cell_of_blk (i := 4) B5 rfl
  have p5_5 := cell_of_blk (i := 5) B5 rfl
  rw [show ((((MemS.fresh 2).opened).add 0 1).opened).got 0 = 1 from by decide +kernel]
  rw [show ((((MemS.fresh 2).opened).add 0 1).opened).acc 0 = 0 from by decide +kernel]
  have D5 := D4.then d5 (by simp; omega)
  clear d5
  go_wp2_with fail
  refine (ahead_c M5 0 1 0 0 0 0 1).mono ?_; rintro e w6 ⟨rfl, M6, d6⟩
  have B6 := d6.at B5 (by simp; omega)
  clear B5 p5_0 p5_1 p5_2 p5_3 p5_4 p5_5 M5
  have p6_0 := cell_of_blk (i := 0) B6 rfl
  have p6_1 := cell_of_blk (i := 1) B6 rfl
  have p6_2 := cell_of_blk (i := 2) B6 rfl
  have p6_3 := cell_of_blk (i := 3) B6 rfl
  have p6_4 := cell_of_blk (i := 4) B6 rfl
  have p6_5 := cell_of_blk (i := 5) B6 rfl
  rw [show (((((MemS.fresh 2).opened).add 0 1).opened).add 0 1).ahead 1 1 = 1 from by decide +kernel]
  rw [show (((((MemS.fresh 2).opened).add 0 1).opened).add 0 1).bad 1 = 0 from by decide +kernel]
  have D6 := D5.then d6 (by simp; omega)
  clear d6
  go_wp2_with fail
  refine (pass_c M6 0 1 0 0 0 0 0).mono ?_; rintro e w7 ⟨rfl, M7, d7⟩
  have B7 := d7.at B6 (by simp; omega)
  clear B6 p6_0 p6_1 p6_2 p6_3 p6_4 p6_5 M6
  have p7_0 := cell_of_blk (i := 0) B7 rfl
  have p7_1 := cell_of_blk (i := 1) B7 rfl
  have p7_2 := cell_of_blk (i := 2) B7 rfl
  have p7_3 := cell_of_blk (i := 3) B7 rfl
  have p7_4 := cell_of_blk (i := 4) B7 rfl
  have p7_5 := cell_of_blk (i := 5) B7 rfl
  rw [show (((((MemS.fresh 2).opened).add 0 1).opened).add 0 1).acc 1 = 31 from by decide +kernel]
  have D7 := D6.then d7 (by simp; omega)
  clear d7
  go_wp2_with fail
  refine (open_c M7).mono ?_; rintro e w8 ⟨rfl, M8, d8⟩
  have B8 := d8.at B7 (by simp; omega)
  clear B7 p7_0 p7_1 p7_2 p7_3 p7_4 p7_5 M7
  have p8_0 := cell_of_blk (i := 0) B8 rfl
  have p8_1 := cell_of_blk (i := 1) B8 rfl
  have p8_2 := cell_of_blk (i := 2) B8 rfl
  have p8_3 := cell_of_blk (i := 3) B8 rfl
  have p8_4 := cell_of_blk (i := 4) B8 rfl
  have p8_5 := cell_of_blk (i := 5) B8 rfl
  have D8 := D7.then d8 (by simp; omega)
  clear d8
  go_wp2_with fail
  refine (pass_c M8 0 1 0 0 0 0 0).mono ?_; rintro e w9 ⟨rfl, M9, d9⟩
  have B9 := d9.at B8 (by simp; omega)
  clear B8 p8_0 p8_1 p8_2 p8_3 p8_4 p8_5 M8
  have p9_0 := cell_of_blk (i := 0) B9 rfl
  have p9_1 := cell_of_blk (i := 1) B9 rfl
  have p9_2 := cell_of_blk (i := 2) B9 rfl
  have p9_3 := cell_of_blk (i := 3) B9 rfl
  have p9_4 := cell_of_blk (i := 4) B9 rfl
  have p9_5 := cell_of_blk (i := 5) B9 rfl
  rw [show (((((((MemS.fresh 2).opened).add 0 1).opened).add 0 1).store 1 (IntKind.u64.wrap (0 + 1))).opened).acc 1 = 0 from by decide +kernel]
  have D9 := D8.then d9 (by simp; omega)
  clear d9
  go_wp2_with fail
  refine (open_c M9).mono ?_; rintro e w10 ⟨rfl, M10, d10⟩
  have B10 := d10.at B9 (by simp; omega)
  clear B9 p9_0 p9_1 p9_2 p9_3 p9_4 p9_5 M9
  have p10_0 := cell_of_blk (i := 0) B10 rfl
  have p10_1 := cell_of_blk (i := 1) B10 rfl
  have p10_2 := cell_of_blk (i := 2) B10 rfl
  have p10_3 := cell_of_blk (i := 3) B10 rfl
  have p10_4 := cell_of_blk (i := 4) B10 rfl
  have p10_5 := cell_of_blk (i := 5) B10 rfl
  have D10 := D9.then d10 (by simp; omega)
  clear d10
  go_wp2_with fail
  refine (look_c M10 0 1 0 0 0 0 1).mono ?_; rintro e w11 ⟨rfl, M11, d11⟩
  have B11 := d11.at B10 (by simp; omega)
  clear B10 p10_0 p10_1 p10_2 p10_3 p10_4 p10_5 M10
  have p11_0 := cell_of_blk (i := 0) B11 rfl
  have p11_1 := cell_of_blk (i := 1) B11 rfl
  have p11_2 := cell_of_blk (i := 2) B11 rfl
  have p11_3 := cell_of_blk (i := 3) B11 rfl
  have p11_4 := cell_of_blk (i := 4) B11 rfl
  have p11_5 := cell_of_blk (i := 5) B11 rfl
  rw [show (((((((((MemS.fresh 2).opened).add 0 1).opened).add 0 1).store 1 (IntKind.u64.wrap (0 + 1))).opened).store 1 (IntKind.u64.wrap (0 + 1))).opened).look 1 1 = true from by decide +kernel]
  rw [show (((((((((MemS.fresh 2).opened).add 0 1).opened).add 0 1).store 1 (IntKind.u64.wrap (0 + 1))).opened).store 1 (IntKind.u64.wrap (0 + 1))).opened).acc 1 = 0 from by decide +kernel]
  have D11 := D10.then d11 (by simp; omega)
  clear d11
  clear M11
  go_wp2
  go_ret
  exact ⟨rfl, D11⟩

end Go.Proofs.Ytobmgnoceacoaaa

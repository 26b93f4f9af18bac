/- Layer 13: 'fresh', 'comes', 'live'; CensusNumbers: the walk. -/
import Derived.Test.YtobmgnoceacoaaaCZ
import Derived.Test.YtobmgnoceacoaaaMN
namespace Go.Proofs.Ytobmgnoceacoaaa
open Go.RowKit

deriving instance DecidableEq for MemS

theorem fresh13 (n : Int) (h1 : 1 ≤ n) (h2 : n ≤ 4096) (w : World) : Calls Try.prog 54 #[.int .i64 n] w fun e w' => ∃ a b, e = .returned (.pointer (some ⟨a, 0, none⟩)) ∧ MemAt 142 w' a b (.fresh n.toNat) ∧ w.heap.size ≤ a ∧ w.heap.size ≤ b ∧ Mod [] w w' := by
  go_enter Try.func54, Try.ntmps54
  go_wp2_with fail
  refine (new_e n h1 h2 _).mono ?_; rintro e w1 ⟨a, b, rfl, M1, ha, hb, d1⟩
  go_wp2
  go_ret
  exact ⟨a, b, rfl, M1, ha, hb, d1⟩

theorem comes13 {a b k : Nat} {s : MemS} {w : World} (hM : MemAt 142 w a b s) (c : ComS) (hi : c.Inv) (hk : w.heap[k]? = some (.cells c.arr 160 (0, 0))) :
    Calls Try.prog 62 #[.pointer (some ⟨a, 0, none⟩), .pointer (some ⟨k, 0, none⟩)] w fun e w' => e = .returned (.tuple #[.bool (c.over s.opened), .int .i64 (c.err s.opened)]) ∧ MemAt 142 w' a b (c.mem s.opened) ∧ w'.heap[k]? = some (.cells (c.next s.opened).arr 160 (0, 0)) ∧ Mod [a, b, k] w w' := by
  have hka : k ≠ a := blk_ne hk hM.hd (by decide)
  have hkb : k ≠ b := blk_ne hk hM.ws (by decide)
  go_enter Try.func62, Try.ntmps62
  go_wp2_with fail
  refine (open_c hM).mono ?_; rintro e w1 ⟨rfl, M1, d1⟩
  have K1 := d1.at hk (by simp; omega)
  go_wp2_with fail
  refine (comStep_c M1 c hi K1).mono ?_; rintro e w2 ⟨rfl, M2, K2, d2⟩
  go_wp2
  go_ret2
  exact ⟨rfl, M2, K2, (d1.mono (by simp)).trans d2⟩

set_option maxRecDepth 100000 in
set_option maxHeartbeats 4000000 in
theorem live13 (w : World) : Calls Try.prog 61 #[] w fun e w' => e = .returned (.bool true) ∧ Mod [] w w' := by
  go_enter Try.func61, Try.ntmps61
  go_wp2_with fail
  refine (fresh13 4 (by omega) (by omega) _).mono ?_; rintro e w0 ⟨a, b, rfl, M0, ha, hb, D0⟩
  rw [show MemS.fresh (Int.toNat 4) = (MemS.mk [0, 0, 0, 0] false 0) from by decide +kernel] at M0
  have hal := M0.lta
  have hbl := M0.ltb
  go_wp2_with fail
  refine (come_c 0 0 0 1 0 0 1 _).mono ?_; rintro e w1 ⟨rfl, hw1⟩
  have A1 : Mod [] w0 w1 := hw1 ▸ (((Mod.refl _ _).alloc _).alloc _).alloc _
  have P1 : w1.heap[w0.heap.size]? = some (.cells #[.int .i64 0, .int .i64 0, .int .i64 0, .int .i64 1, .int .i64 0, .int .i64 0] 35 (0, 0)) := by rw [hw1]; exact blk_alloc_old _ (blk_alloc_old _ (heap_alloc_new _ _))
  have K1 : w1.heap[w0.heap.size + 1 + 1]? = some (.cells (ComS.mk 0 0 0 1 0 0 1 0 0 0).arr 160 (0, 0)) := by
    rw [hw1]; have h := heap_alloc_new ((w0.alloc (.cells #[.int .i64 0, .int .i64 0, .int .i64 0, .int .i64 1, .int .i64 0, .int .i64 0] 35)).alloc (.cells #[.int .i64 0, .int .i64 0, .int .i64 0, .int .i64 1, .int .i64 0, .int .i64 0] 35)) (.cells (ComS.mk 0 0 0 1 0 0 1 0 0 0).arr 160); rw [World.size_alloc, World.size_alloc] at h; exact h
  have z1 : Hid (w1.heap.size = w0.heap.size + 3) := Lib.hid (by rw [hw1]; simp)
  have M1 := M0.mod A1 (by simp) (by simp)
  have D1 := D0.trans A1
  clear hw1 A1 M0 D0
  have p1_0 : w1.cell? ⟨w0.heap.size, 0, none⟩ = some (.int .i64 0) := cell_of_blk P1 rfl
  have p1_1 : w1.cell? ⟨w0.heap.size, 1, none⟩ = some (.int .i64 0) := cell_of_blk P1 rfl
  have p1_2 : w1.cell? ⟨w0.heap.size, 2, none⟩ = some (.int .i64 0) := cell_of_blk P1 rfl
  have p1_3 : w1.cell? ⟨w0.heap.size, 3, none⟩ = some (.int .i64 1) := cell_of_blk P1 rfl
  have p1_4 : w1.cell? ⟨w0.heap.size, 4, none⟩ = some (.int .i64 0) := cell_of_blk P1 rfl
  have p1_5 : w1.cell? ⟨w0.heap.size, 5, none⟩ = some (.int .i64 0) := cell_of_blk P1 rfl
  simp only [World.size_alloc]
  go_wp2_with fail
  refine (look_c13 0 0 0 1 0 0 2 1 _).mono ?_; rintro e w2 ⟨rfl, hw2⟩
  have A2 : Mod [] w1 w2 := hw2 ▸ ((Mod.refl _ _).alloc _).alloc _
  have P2 := A2.at P1 (by simp)
  have K2 := A2.at K1 (by simp)
  have L2 : w2.heap[w1.heap.size + 1]? = some (.cells (ScanS.mk 0 0 0 1 0 0 2 1 0 0).arr 162 (0, 0)) := by
    rw [hw2]; have h := heap_alloc_new (w1.alloc (.cells #[.int .i64 0, .int .i64 0, .int .i64 0, .int .i64 1, .int .i64 0, .int .i64 0] 35)) (.cells (ScanS.mk 0 0 0 1 0 0 2 1 0 0).arr 162); rw [World.size_alloc] at h; exact h
  have M2 := M1.mod A2 (by simp) (by simp)
  have D2 := D1.trans A2
  clear hw2 A2 M1 D1 P1 K1 p1_0 p1_1 p1_2 p1_3 p1_4 p1_5
  have p2_0 : w2.cell? ⟨w0.heap.size, 0, none⟩ = some (.int .i64 0) := cell_of_blk P2 rfl
  have p2_1 : w2.cell? ⟨w0.heap.size, 1, none⟩ = some (.int .i64 0) := cell_of_blk P2 rfl
  have p2_2 : w2.cell? ⟨w0.heap.size, 2, none⟩ = some (.int .i64 0) := cell_of_blk P2 rfl
  have p2_3 : w2.cell? ⟨w0.heap.size, 3, none⟩ = some (.int .i64 1) := cell_of_blk P2 rfl
  have p2_4 : w2.cell? ⟨w0.heap.size, 4, none⟩ = some (.int .i64 0) := cell_of_blk P2 rfl
  have p2_5 : w2.cell? ⟨w0.heap.size, 5, none⟩ = some (.int .i64 0) := cell_of_blk P2 rfl
  go_wp2_with fail
  refine (comes13 M2 (ComS.mk 0 0 0 1 0 0 1 0 0 0) ⟨by decide, by decide, by decide, by decide⟩ K2).mono ?_; rintro e w3 ⟨rfl, M3, K3, d3⟩
  have P3 := d3.at P2 (by have := z1.out; simp; omega)
  have L3 := d3.at L2 (by have := z1.out; simp; omega)
  have D3 := D2.then d3 (by have := z1.out; simp; omega)
  rw [show (ComS.mk 0 0 0 1 0 0 1 0 0 0).over ((MemS.mk [0, 0, 0, 0] false 0).opened) = false from by decide +kernel]
  rw [show (ComS.mk 0 0 0 1 0 0 1 0 0 0).err ((MemS.mk [0, 0, 0, 0] false 0).opened) = 0 from by decide +kernel]
  rw [show (ComS.mk 0 0 0 1 0 0 1 0 0 0).mem ((MemS.mk [0, 0, 0, 0] false 0).opened) = (MemS.mk [0, 0, 0, 0] false 1) from by decide +kernel] at M3
  rw [show (ComS.mk 0 0 0 1 0 0 1 0 0 0).next ((MemS.mk [0, 0, 0, 0] false 0).opened) = (ComS.mk 0 0 0 1 0 0 1 1 0 0) from by decide +kernel] at K3
  clear d3 M2 P2 K2 L2 D2 p2_0 p2_1 p2_2 p2_3 p2_4 p2_5
  have p3_0 : w3.cell? ⟨w0.heap.size, 0, none⟩ = some (.int .i64 0) := cell_of_blk P3 rfl
  have p3_1 : w3.cell? ⟨w0.heap.size, 1, none⟩ = some (.int .i64 0) := cell_of_blk P3 rfl
  have p3_2 : w3.cell? ⟨w0.heap.size, 2, none⟩ = some (.int .i64 0) := cell_of_blk P3 rfl
  have p3_3 : w3.cell? ⟨w0.heap.size, 3, none⟩ = some (.int .i64 1) := cell_of_blk P3 rfl
  have p3_4 : w3.cell? ⟨w0.heap.size, 4, none⟩ = some (.int .i64 0) := cell_of_blk P3 rfl
  have p3_5 : w3.cell? ⟨w0.heap.size, 5, none⟩ = some (.int .i64 0) := cell_of_blk P3 rfl
  go_wp2_with fail
  refine (comes13 M3 (ComS.mk 0 0 0 1 0 0 1 1 0 0) ⟨by decide, by decide, by decide, by decide⟩ K3).mono ?_; rintro e w4 ⟨rfl, M4, K4, d4⟩
  have P4 := d4.at P3 (by have := z1.out; simp; omega)
  have L4 := d4.at L3 (by have := z1.out; simp; omega)
  have D4 := D3.then d4 (by have := z1.out; simp; omega)
  rw [show (ComS.mk 0 0 0 1 0 0 1 1 0 0).over ((MemS.mk [0, 0, 0, 0] false 1).opened) = false from by decide +kernel]
  rw [show (ComS.mk 0 0 0 1 0 0 1 1 0 0).err ((MemS.mk [0, 0, 0, 0] false 1).opened) = 0 from by decide +kernel]
  rw [show (ComS.mk 0 0 0 1 0 0 1 1 0 0).mem ((MemS.mk [0, 0, 0, 0] false 1).opened) = (MemS.mk [0, 0, 1, 0] false 2) from by decide +kernel] at M4
  rw [show (ComS.mk 0 0 0 1 0 0 1 1 0 0).next ((MemS.mk [0, 0, 0, 0] false 1).opened) = (ComS.mk 0 0 0 1 0 0 1 2 0 0) from by decide +kernel] at K4
  clear d4 M3 P3 K3 L3 D3 p3_0 p3_1 p3_2 p3_3 p3_4 p3_5
  have p4_0 : w4.cell? ⟨w0.heap.size, 0, none⟩ = some (.int .i64 0) := cell_of_blk P4 rfl
  have p4_1 : w4.cell? ⟨w0.heap.size, 1, none⟩ = some (.int .i64 0) := cell_of_blk P4 rfl
  have p4_2 : w4.cell? ⟨w0.heap.size, 2, none⟩ = some (.int .i64 0) := cell_of_blk P4 rfl
  have p4_3 : w4.cell? ⟨w0.heap.size, 3, none⟩ = some (.int .i64 1) := cell_of_blk P4 rfl
  have p4_4 : w4.cell? ⟨w0.heap.size, 4, none⟩ = some (.int .i64 0) := cell_of_blk P4 rfl
  have p4_5 : w4.cell? ⟨w0.heap.size, 5, none⟩ = some (.int .i64 0) := cell_of_blk P4 rfl
  go_wp2_with fail
  refine (open_c M4).mono ?_; rintro e w5 ⟨rfl, M5, d5⟩
  have P5 := d5.at P4 (by have := z1.out; simp; omega)
  have K5 := d5.at K4 (by have := z1.out; simp; omega)
  have L5 := d5.at L4 (by have := z1.out; simp; omega)
  have D5 := D4.then d5 (by have := z1.out; simp; omega)
  rw [show (MemS.mk [0, 0, 1, 0] false 2).opened = (MemS.mk [0, 0, 1, 0] true 2) from by decide +kernel] at M5
  clear d5 M4 P4 K4 L4 D4 p4_0 p4_1 p4_2 p4_3 p4_4 p4_5
  have p5_0 : w5.cell? ⟨w0.heap.size, 0, none⟩ = some (.int .i64 0) := cell_of_blk P5 rfl
  have p5_1 : w5.cell? ⟨w0.heap.size, 1, none⟩ = some (.int .i64 0) := cell_of_blk P5 rfl
  have p5_2 : w5.cell? ⟨w0.heap.size, 2, none⟩ = some (.int .i64 0) := cell_of_blk P5 rfl
  have p5_3 : w5.cell? ⟨w0.heap.size, 3, none⟩ = some (.int .i64 1) := cell_of_blk P5 rfl
  have p5_4 : w5.cell? ⟨w0.heap.size, 4, none⟩ = some (.int .i64 0) := cell_of_blk P5 rfl
  have p5_5 : w5.cell? ⟨w0.heap.size, 5, none⟩ = some (.int .i64 0) := cell_of_blk P5 rfl
  go_wp2_with fail
  refine (publish_c M5 0 0 0 1 0 0 1).mono ?_; rintro e w6 ⟨rfl, M6, d6⟩
  have P6 := d6.at P5 (by have := z1.out; simp; omega)
  have K6 := d6.at K5 (by have := z1.out; simp; omega)
  have L6 := d6.at L5 (by have := z1.out; simp; omega)
  have D6 := D5.then d6 (by have := z1.out; simp; omega)
  rw [show (MemS.mk [0, 0, 1, 0] true 2).acc 0 = 0 from by decide +kernel]
  rw [show (MemS.mk [0, 0, 1, 0] true 2).store 0 1 = (MemS.mk [1, 0, 1, 0] false 3) from by decide +kernel] at M6
  clear d6 M5 P5 K5 L5 D5 p5_0 p5_1 p5_2 p5_3 p5_4 p5_5
  have p6_0 : w6.cell? ⟨w0.heap.size, 0, none⟩ = some (.int .i64 0) := cell_of_blk P6 rfl
  have p6_1 : w6.cell? ⟨w0.heap.size, 1, none⟩ = some (.int .i64 0) := cell_of_blk P6 rfl
  have p6_2 : w6.cell? ⟨w0.heap.size, 2, none⟩ = some (.int .i64 0) := cell_of_blk P6 rfl
  have p6_3 : w6.cell? ⟨w0.heap.size, 3, none⟩ = some (.int .i64 1) := cell_of_blk P6 rfl
  have p6_4 : w6.cell? ⟨w0.heap.size, 4, none⟩ = some (.int .i64 0) := cell_of_blk P6 rfl
  have p6_5 : w6.cell? ⟨w0.heap.size, 5, none⟩ = some (.int .i64 0) := cell_of_blk P6 rfl
  go_wp2_with fail
  refine (comes13 M6 (ComS.mk 0 0 0 1 0 0 1 2 0 0) ⟨by decide, by decide, by decide, by decide⟩ K6).mono ?_; rintro e w7 ⟨rfl, M7, K7, d7⟩
  have P7 := d7.at P6 (by have := z1.out; simp; omega)
  have L7 := d7.at L6 (by have := z1.out; simp; omega)
  have D7 := D6.then d7 (by have := z1.out; simp; omega)
  rw [show (ComS.mk 0 0 0 1 0 0 1 2 0 0).over ((MemS.mk [1, 0, 1, 0] false 3).opened) = true from by decide +kernel]
  rw [show (ComS.mk 0 0 0 1 0 0 1 2 0 0).err ((MemS.mk [1, 0, 1, 0] false 3).opened) = 0 from by decide +kernel]
  rw [show (ComS.mk 0 0 0 1 0 0 1 2 0 0).mem ((MemS.mk [1, 0, 1, 0] false 3).opened) = (MemS.mk [1, 0, 1, 0] false 4) from by decide +kernel] at M7
  rw [show (ComS.mk 0 0 0 1 0 0 1 2 0 0).next ((MemS.mk [1, 0, 1, 0] false 3).opened) = (ComS.mk 0 0 0 1 0 0 1 3 0 1) from by decide +kernel] at K7
  clear d7 M6 P6 K6 L6 D6 p6_0 p6_1 p6_2 p6_3 p6_4 p6_5
  have p7_0 : w7.cell? ⟨w0.heap.size, 0, none⟩ = some (.int .i64 0) := cell_of_blk P7 rfl
  have p7_1 : w7.cell? ⟨w0.heap.size, 1, none⟩ = some (.int .i64 0) := cell_of_blk P7 rfl
  have p7_2 : w7.cell? ⟨w0.heap.size, 2, none⟩ = some (.int .i64 0) := cell_of_blk P7 rfl
  have p7_3 : w7.cell? ⟨w0.heap.size, 3, none⟩ = some (.int .i64 1) := cell_of_blk P7 rfl
  have p7_4 : w7.cell? ⟨w0.heap.size, 4, none⟩ = some (.int .i64 0) := cell_of_blk P7 rfl
  have p7_5 : w7.cell? ⟨w0.heap.size, 5, none⟩ = some (.int .i64 0) := cell_of_blk P7 rfl
  go_wp2_with fail
  refine (peek13_c M7 0 0 0 1 0 0 1).mono ?_; rintro e w8 ⟨rfl, M8, d8⟩
  have P8 := d8.at P7 (by have := z1.out; simp; omega)
  have K8 := d8.at K7 (by have := z1.out; simp; omega)
  have L8 := d8.at L7 (by have := z1.out; simp; omega)
  have D8 := D7.then d8 (by have := z1.out; simp; omega)
  rw [show (MemS.mk [1, 0, 1, 0] false 4).claimOf 1 1 = 0 from by decide +kernel]
  rw [show (MemS.mk [1, 0, 1, 0] false 4).isIn 1 1 = true from by decide +kernel]
  rw [show (MemS.mk [1, 0, 1, 0] false 4).peekE 1 1 = 0 from by decide +kernel]
  clear d8 M7 P7 K7 L7 D7 p7_0 p7_1 p7_2 p7_3 p7_4 p7_5
  have p8_0 : w8.cell? ⟨w0.heap.size, 0, none⟩ = some (.int .i64 0) := cell_of_blk P8 rfl
  have p8_1 : w8.cell? ⟨w0.heap.size, 1, none⟩ = some (.int .i64 0) := cell_of_blk P8 rfl
  have p8_2 : w8.cell? ⟨w0.heap.size, 2, none⟩ = some (.int .i64 0) := cell_of_blk P8 rfl
  have p8_3 : w8.cell? ⟨w0.heap.size, 3, none⟩ = some (.int .i64 1) := cell_of_blk P8 rfl
  have p8_4 : w8.cell? ⟨w0.heap.size, 4, none⟩ = some (.int .i64 0) := cell_of_blk P8 rfl
  have p8_5 : w8.cell? ⟨w0.heap.size, 5, none⟩ = some (.int .i64 0) := cell_of_blk P8 rfl
  go_wp2_with fail
  refine (open_c M8).mono ?_; rintro e w9 ⟨rfl, M9, d9⟩
  have P9 := d9.at P8 (by have := z1.out; simp; omega)
  have K9 := d9.at K8 (by have := z1.out; simp; omega)
  have L9 := d9.at L8 (by have := z1.out; simp; omega)
  have D9 := D8.then d9 (by have := z1.out; simp; omega)
  rw [show (MemS.mk [1, 0, 1, 0] false 4).opened = (MemS.mk [1, 0, 1, 0] true 4) from by decide +kernel] at M9
  clear d9 M8 P8 K8 L8 D8 p8_0 p8_1 p8_2 p8_3 p8_4 p8_5
  have p9_0 : w9.cell? ⟨w0.heap.size, 0, none⟩ = some (.int .i64 0) := cell_of_blk P9 rfl
  have p9_1 : w9.cell? ⟨w0.heap.size, 1, none⟩ = some (.int .i64 0) := cell_of_blk P9 rfl
  have p9_2 : w9.cell? ⟨w0.heap.size, 2, none⟩ = some (.int .i64 0) := cell_of_blk P9 rfl
  have p9_3 : w9.cell? ⟨w0.heap.size, 3, none⟩ = some (.int .i64 1) := cell_of_blk P9 rfl
  have p9_4 : w9.cell? ⟨w0.heap.size, 4, none⟩ = some (.int .i64 0) := cell_of_blk P9 rfl
  have p9_5 : w9.cell? ⟨w0.heap.size, 5, none⟩ = some (.int .i64 0) := cell_of_blk P9 rfl
  go_wp2_with fail
  refine (scanStep_c M9 (ScanS.mk 0 0 0 1 0 0 2 1 0 0) ⟨by decide, by decide⟩ L9).mono ?_; rintro e w10 ⟨rfl, M10, L10, d10⟩
  have P10 := d10.at P9 (by have := z1.out; simp; omega)
  have K10 := d10.at K9 (by have := z1.out; simp; omega)
  have D10 := D9.then d10 (by have := z1.out; simp; omega)
  try rw [show (ScanS.mk 0 0 0 1 0 0 2 1 0 0).over (MemS.mk [1, 0, 1, 0] true 4) = false from by decide +kernel]
  try rw [show (ScanS.mk 0 0 0 1 0 0 2 1 0 0).err (MemS.mk [1, 0, 1, 0] true 4) = 0 from by decide +kernel]
  rw [show (ScanS.mk 0 0 0 1 0 0 2 1 0 0).mem (MemS.mk [1, 0, 1, 0] true 4) = (MemS.mk [1, 0, 1, 0] false 5) from by decide +kernel] at M10
  rw [show (ScanS.mk 0 0 0 1 0 0 2 1 0 0).next (MemS.mk [1, 0, 1, 0] true 4) = (ScanS.mk 0 0 0 1 0 0 2 1 1 0) from by decide +kernel] at L10
  clear d10 M9 P9 K9 L9 D9 p9_0 p9_1 p9_2 p9_3 p9_4 p9_5
  have p10_0 : w10.cell? ⟨w0.heap.size, 0, none⟩ = some (.int .i64 0) := cell_of_blk P10 rfl
  have p10_1 : w10.cell? ⟨w0.heap.size, 1, none⟩ = some (.int .i64 0) := cell_of_blk P10 rfl
  have p10_2 : w10.cell? ⟨w0.heap.size, 2, none⟩ = some (.int .i64 0) := cell_of_blk P10 rfl
  have p10_3 : w10.cell? ⟨w0.heap.size, 3, none⟩ = some (.int .i64 1) := cell_of_blk P10 rfl
  have p10_4 : w10.cell? ⟨w0.heap.size, 4, none⟩ = some (.int .i64 0) := cell_of_blk P10 rfl
  have p10_5 : w10.cell? ⟨w0.heap.size, 5, none⟩ = some (.int .i64 0) := cell_of_blk P10 rfl
  go_wp2_with fail
  refine (open_c M10).mono ?_; rintro e w11 ⟨rfl, M11, d11⟩
  have P11 := d11.at P10 (by have := z1.out; simp; omega)
  have K11 := d11.at K10 (by have := z1.out; simp; omega)
  have L11 := d11.at L10 (by have := z1.out; simp; omega)
  have D11 := D10.then d11 (by have := z1.out; simp; omega)
  rw [show (MemS.mk [1, 0, 1, 0] false 5).opened = (MemS.mk [1, 0, 1, 0] true 5) from by decide +kernel] at M11
  clear d11 M10 P10 K10 L10 D10 p10_0 p10_1 p10_2 p10_3 p10_4 p10_5
  have p11_0 : w11.cell? ⟨w0.heap.size, 0, none⟩ = some (.int .i64 0) := cell_of_blk P11 rfl
  have p11_1 : w11.cell? ⟨w0.heap.size, 1, none⟩ = some (.int .i64 0) := cell_of_blk P11 rfl
  have p11_2 : w11.cell? ⟨w0.heap.size, 2, none⟩ = some (.int .i64 0) := cell_of_blk P11 rfl
  have p11_3 : w11.cell? ⟨w0.heap.size, 3, none⟩ = some (.int .i64 1) := cell_of_blk P11 rfl
  have p11_4 : w11.cell? ⟨w0.heap.size, 4, none⟩ = some (.int .i64 0) := cell_of_blk P11 rfl
  have p11_5 : w11.cell? ⟨w0.heap.size, 5, none⟩ = some (.int .i64 0) := cell_of_blk P11 rfl
  go_wp2_with fail
  refine (scanStep_c M11 (ScanS.mk 0 0 0 1 0 0 2 1 1 0) ⟨by decide, by decide⟩ L11).mono ?_; rintro e w12 ⟨rfl, M12, L12, d12⟩
  have P12 := d12.at P11 (by have := z1.out; simp; omega)
  have K12 := d12.at K11 (by have := z1.out; simp; omega)
  have D12 := D11.then d12 (by have := z1.out; simp; omega)
  try rw [show (ScanS.mk 0 0 0 1 0 0 2 1 1 0).over (MemS.mk [1, 0, 1, 0] true 5) = false from by decide +kernel]
  try rw [show (ScanS.mk 0 0 0 1 0 0 2 1 1 0).err (MemS.mk [1, 0, 1, 0] true 5) = 0 from by decide +kernel]
  rw [show (ScanS.mk 0 0 0 1 0 0 2 1 1 0).mem (MemS.mk [1, 0, 1, 0] true 5) = (MemS.mk [1, 0, 1, 0] false 6) from by decide +kernel] at M12
  rw [show (ScanS.mk 0 0 0 1 0 0 2 1 1 0).next (MemS.mk [1, 0, 1, 0] true 5) = (ScanS.mk 0 0 0 1 0 0 2 1 1 1) from by decide +kernel] at L12
  clear d12 M11 P11 K11 L11 D11 p11_0 p11_1 p11_2 p11_3 p11_4 p11_5
  have p12_0 : w12.cell? ⟨w0.heap.size, 0, none⟩ = some (.int .i64 0) := cell_of_blk P12 rfl
  have p12_1 : w12.cell? ⟨w0.heap.size, 1, none⟩ = some (.int .i64 0) := cell_of_blk P12 rfl
  have p12_2 : w12.cell? ⟨w0.heap.size, 2, none⟩ = some (.int .i64 0) := cell_of_blk P12 rfl
  have p12_3 : w12.cell? ⟨w0.heap.size, 3, none⟩ = some (.int .i64 1) := cell_of_blk P12 rfl
  have p12_4 : w12.cell? ⟨w0.heap.size, 4, none⟩ = some (.int .i64 0) := cell_of_blk P12 rfl
  have p12_5 : w12.cell? ⟨w0.heap.size, 5, none⟩ = some (.int .i64 0) := cell_of_blk P12 rfl
  go_wp2_with fail
  refine (claim_c (ComS.mk 0 0 0 1 0 0 1 3 0 1) K12).mono ?_; rintro e w' ⟨rfl, hw'⟩; have hw2 := hw'.symm; clear hw'; subst hw2
  go_wp2_with fail
  refine (cstamp_c (ComS.mk 0 0 0 1 0 0 1 3 0 1) K12).mono ?_; rintro e w' ⟨rfl, hw'⟩; have hw2 := hw'.symm; clear hw'; subst hw2
  go_wp2_with fail
  refine (at_c (ScanS.mk 0 0 0 1 0 0 2 1 1 1) L12).mono ?_; rintro e w' ⟨rfl, hw'⟩; have hw2 := hw'.symm; clear hw'; subst hw2
  go_wp2_with fail
  refine (polls_c (ScanS.mk 0 0 0 1 0 0 2 1 1 1) L12).mono ?_; rintro e w' ⟨rfl, hw'⟩; have hw2 := hw'.symm; clear hw'; subst hw2
  go_wp2
  go_ret
  exact ⟨rfl, D12⟩

set_option maxRecDepth 100000 in
set_option maxHeartbeats 4000000 in
theorem censusNumbers_walk (w : World) : Calls Try.prog 13 #[] w fun e w' => e = .returned (.bool true) ∧ Mod [] w w' := by
  go_enter Try.func13, Try.ntmps13
  go_wp2_with fail
  refine (fresh13 4 (by omega) (by omega) _).mono ?_; rintro e w0 ⟨a, b, rfl, M0, ha, hb, D0⟩
  rw [show MemS.fresh (Int.toNat 4) = (MemS.mk [0, 0, 0, 0] false 0) from by decide +kernel] at M0
  have hal := M0.lta
  have hbl := M0.ltb
  go_wp2_with fail
  refine (come_c 0 0 0 1 0 0 (-1) _).mono ?_; rintro e w1 ⟨rfl, hw1⟩
  have A1 : Mod [] w0 w1 := hw1 ▸ (((Mod.refl _ _).alloc _).alloc _).alloc _
  have P1 : w1.heap[w0.heap.size]? = some (.cells #[.int .i64 0, .int .i64 0, .int .i64 0, .int .i64 1, .int .i64 0, .int .i64 0] 35 (0, 0)) := by rw [hw1]; exact blk_alloc_old _ (blk_alloc_old _ (heap_alloc_new _ _))
  have K1 : w1.heap[w0.heap.size + 1 + 1]? = some (.cells (ComS.mk 0 0 0 1 0 0 (-1) 0 0 0).arr 160 (0, 0)) := by
    rw [hw1]; have h := heap_alloc_new ((w0.alloc (.cells #[.int .i64 0, .int .i64 0, .int .i64 0, .int .i64 1, .int .i64 0, .int .i64 0] 35)).alloc (.cells #[.int .i64 0, .int .i64 0, .int .i64 0, .int .i64 1, .int .i64 0, .int .i64 0] 35)) (.cells (ComS.mk 0 0 0 1 0 0 (-1) 0 0 0).arr 160); rw [World.size_alloc, World.size_alloc] at h; exact h
  have z1 : Hid (w1.heap.size = w0.heap.size + 3) := Lib.hid (by rw [hw1]; simp)
  have M1 := M0.mod A1 (by simp) (by simp)
  have D1 := D0.trans A1
  clear hw1 A1 M0 D0
  have p1_0 : w1.cell? ⟨w0.heap.size, 0, none⟩ = some (.int .i64 0) := cell_of_blk P1 rfl
  have p1_1 : w1.cell? ⟨w0.heap.size, 1, none⟩ = some (.int .i64 0) := cell_of_blk P1 rfl
  have p1_2 : w1.cell? ⟨w0.heap.size, 2, none⟩ = some (.int .i64 0) := cell_of_blk P1 rfl
  have p1_3 : w1.cell? ⟨w0.heap.size, 3, none⟩ = some (.int .i64 1) := cell_of_blk P1 rfl
  have p1_4 : w1.cell? ⟨w0.heap.size, 4, none⟩ = some (.int .i64 0) := cell_of_blk P1 rfl
  have p1_5 : w1.cell? ⟨w0.heap.size, 5, none⟩ = some (.int .i64 0) := cell_of_blk P1 rfl
  simp only [World.size_alloc]
  go_wp2_with fail
  refine (look_c13 0 0 0 1 0 0 0 0 _).mono ?_; rintro e w2 ⟨rfl, hw2⟩
  have A2 : Mod [] w1 w2 := hw2 ▸ ((Mod.refl _ _).alloc _).alloc _
  have P2 := A2.at P1 (by simp)
  have K2 := A2.at K1 (by simp)
  have L2 : w2.heap[w1.heap.size + 1]? = some (.cells (ScanS.mk 0 0 0 1 0 0 0 0 0 0).arr 162 (0, 0)) := by
    rw [hw2]; have h := heap_alloc_new (w1.alloc (.cells #[.int .i64 0, .int .i64 0, .int .i64 0, .int .i64 1, .int .i64 0, .int .i64 0] 35)) (.cells (ScanS.mk 0 0 0 1 0 0 0 0 0 0).arr 162); rw [World.size_alloc] at h; exact h
  have M2 := M1.mod A2 (by simp) (by simp)
  have D2 := D1.trans A2
  clear hw2 A2 M1 D1 P1 K1 p1_0 p1_1 p1_2 p1_3 p1_4 p1_5
  have p2_0 : w2.cell? ⟨w0.heap.size, 0, none⟩ = some (.int .i64 0) := cell_of_blk P2 rfl
  have p2_1 : w2.cell? ⟨w0.heap.size, 1, none⟩ = some (.int .i64 0) := cell_of_blk P2 rfl
  have p2_2 : w2.cell? ⟨w0.heap.size, 2, none⟩ = some (.int .i64 0) := cell_of_blk P2 rfl
  have p2_3 : w2.cell? ⟨w0.heap.size, 3, none⟩ = some (.int .i64 1) := cell_of_blk P2 rfl
  have p2_4 : w2.cell? ⟨w0.heap.size, 4, none⟩ = some (.int .i64 0) := cell_of_blk P2 rfl
  have p2_5 : w2.cell? ⟨w0.heap.size, 5, none⟩ = some (.int .i64 0) := cell_of_blk P2 rfl
  go_wp2_with fail
  refine (open_c M2).mono ?_; rintro e w3 ⟨rfl, M3, d3⟩
  have P3 := d3.at P2 (by have := z1.out; simp; omega)
  have K3 := d3.at K2 (by have := z1.out; simp; omega)
  have L3 := d3.at L2 (by have := z1.out; simp; omega)
  have D3 := D2.then d3 (by have := z1.out; simp; omega)
  rw [show (MemS.mk [0, 0, 0, 0] false 0).opened = (MemS.mk [0, 0, 0, 0] true 0) from by decide +kernel] at M3
  clear d3 M2 P2 K2 L2 D2 p2_0 p2_1 p2_2 p2_3 p2_4 p2_5
  have p3_0 : w3.cell? ⟨w0.heap.size, 0, none⟩ = some (.int .i64 0) := cell_of_blk P3 rfl
  have p3_1 : w3.cell? ⟨w0.heap.size, 1, none⟩ = some (.int .i64 0) := cell_of_blk P3 rfl
  have p3_2 : w3.cell? ⟨w0.heap.size, 2, none⟩ = some (.int .i64 0) := cell_of_blk P3 rfl
  have p3_3 : w3.cell? ⟨w0.heap.size, 3, none⟩ = some (.int .i64 1) := cell_of_blk P3 rfl
  have p3_4 : w3.cell? ⟨w0.heap.size, 4, none⟩ = some (.int .i64 0) := cell_of_blk P3 rfl
  have p3_5 : w3.cell? ⟨w0.heap.size, 5, none⟩ = some (.int .i64 0) := cell_of_blk P3 rfl
  go_wp2_with fail
  refine (comStep_c M3 (ComS.mk 0 0 0 1 0 0 (-1) 0 0 0) ⟨by decide, by decide, by decide, by decide⟩ K3).mono ?_; rintro e w4 ⟨rfl, M4, K4, d4⟩
  have P4 := d4.at P3 (by have := z1.out; simp; omega)
  have L4 := d4.at L3 (by have := z1.out; simp; omega)
  have D4 := D3.then d4 (by have := z1.out; simp; omega)
  rw [show (ComS.mk 0 0 0 1 0 0 (-1) 0 0 0).over (MemS.mk [0, 0, 0, 0] true 0) = false from by decide +kernel]
  rw [show (ComS.mk 0 0 0 1 0 0 (-1) 0 0 0).err (MemS.mk [0, 0, 0, 0] true 0) = 100 from by decide +kernel]
  rw [show (ComS.mk 0 0 0 1 0 0 (-1) 0 0 0).mem (MemS.mk [0, 0, 0, 0] true 0) = (MemS.mk [0, 0, 0, 0] true 0) from by decide +kernel] at M4
  rw [show (ComS.mk 0 0 0 1 0 0 (-1) 0 0 0).next (MemS.mk [0, 0, 0, 0] true 0) = (ComS.mk 0 0 0 1 0 0 (-1) 0 0 0) from by decide +kernel] at K4
  clear d4 M3 P3 K3 L3 D3 p3_0 p3_1 p3_2 p3_3 p3_4 p3_5
  have p4_0 : w4.cell? ⟨w0.heap.size, 0, none⟩ = some (.int .i64 0) := cell_of_blk P4 rfl
  have p4_1 : w4.cell? ⟨w0.heap.size, 1, none⟩ = some (.int .i64 0) := cell_of_blk P4 rfl
  have p4_2 : w4.cell? ⟨w0.heap.size, 2, none⟩ = some (.int .i64 0) := cell_of_blk P4 rfl
  have p4_3 : w4.cell? ⟨w0.heap.size, 3, none⟩ = some (.int .i64 1) := cell_of_blk P4 rfl
  have p4_4 : w4.cell? ⟨w0.heap.size, 4, none⟩ = some (.int .i64 0) := cell_of_blk P4 rfl
  have p4_5 : w4.cell? ⟨w0.heap.size, 5, none⟩ = some (.int .i64 0) := cell_of_blk P4 rfl
  go_wp2_with fail
  refine (scanStep_c M4 (ScanS.mk 0 0 0 1 0 0 0 0 0 0) ⟨by decide, by decide⟩ L4).mono ?_; rintro e w5 ⟨rfl, M5, L5, d5⟩
  have P5 := d5.at P4 (by have := z1.out; simp; omega)
  have K5 := d5.at K4 (by have := z1.out; simp; omega)
  have D5 := D4.then d5 (by have := z1.out; simp; omega)
  try rw [show (ScanS.mk 0 0 0 1 0 0 0 0 0 0).over (MemS.mk [0, 0, 0, 0] true 0) = false from by decide +kernel]
  try rw [show (ScanS.mk 0 0 0 1 0 0 0 0 0 0).err (MemS.mk [0, 0, 0, 0] true 0) = 100 from by decide +kernel]
  rw [show (ScanS.mk 0 0 0 1 0 0 0 0 0 0).mem (MemS.mk [0, 0, 0, 0] true 0) = (MemS.mk [0, 0, 0, 0] true 0) from by decide +kernel] at M5
  rw [show (ScanS.mk 0 0 0 1 0 0 0 0 0 0).next (MemS.mk [0, 0, 0, 0] true 0) = (ScanS.mk 0 0 0 1 0 0 0 0 0 0) from by decide +kernel] at L5
  clear d5 M4 P4 K4 L4 D4 p4_0 p4_1 p4_2 p4_3 p4_4 p4_5
  have p5_0 : w5.cell? ⟨w0.heap.size, 0, none⟩ = some (.int .i64 0) := cell_of_blk P5 rfl
  have p5_1 : w5.cell? ⟨w0.heap.size, 1, none⟩ = some (.int .i64 0) := cell_of_blk P5 rfl
  have p5_2 : w5.cell? ⟨w0.heap.size, 2, none⟩ = some (.int .i64 0) := cell_of_blk P5 rfl
  have p5_3 : w5.cell? ⟨w0.heap.size, 3, none⟩ = some (.int .i64 1) := cell_of_blk P5 rfl
  have p5_4 : w5.cell? ⟨w0.heap.size, 4, none⟩ = some (.int .i64 0) := cell_of_blk P5 rfl
  have p5_5 : w5.cell? ⟨w0.heap.size, 5, none⟩ = some (.int .i64 0) := cell_of_blk P5 rfl
  go_wp2_with fail
  refine (leave_c M5 0 0 0 1 0 0 8).mono ?_; rintro e w6 ⟨rfl, M6, d6⟩
  have P6 := d6.at P5 (by have := z1.out; simp; omega)
  have K6 := d6.at K5 (by have := z1.out; simp; omega)
  have L6 := d6.at L5 (by have := z1.out; simp; omega)
  have D6 := D5.then d6 (by have := z1.out; simp; omega)
  rw [show (MemS.mk [0, 0, 0, 0] true 0).leaveE 1 8 = 100 from by decide +kernel]
  rw [show (MemS.mk [0, 0, 0, 0] true 0).leave 1 8 = (MemS.mk [0, 0, 0, 0] true 0) from by decide +kernel] at M6
  clear d6 M5 P5 K5 L5 D5 p5_0 p5_1 p5_2 p5_3 p5_4 p5_5
  have p6_0 : w6.cell? ⟨w0.heap.size, 0, none⟩ = some (.int .i64 0) := cell_of_blk P6 rfl
  have p6_1 : w6.cell? ⟨w0.heap.size, 1, none⟩ = some (.int .i64 0) := cell_of_blk P6 rfl
  have p6_2 : w6.cell? ⟨w0.heap.size, 2, none⟩ = some (.int .i64 0) := cell_of_blk P6 rfl
  have p6_3 : w6.cell? ⟨w0.heap.size, 3, none⟩ = some (.int .i64 1) := cell_of_blk P6 rfl
  have p6_4 : w6.cell? ⟨w0.heap.size, 4, none⟩ = some (.int .i64 0) := cell_of_blk P6 rfl
  have p6_5 : w6.cell? ⟨w0.heap.size, 5, none⟩ = some (.int .i64 0) := cell_of_blk P6 rfl
  go_wp2_with fail
  refine (leave_c M6 0 0 0 1 0 0 5).mono ?_; rintro e w7 ⟨rfl, M7, d7⟩
  have P7 := d7.at P6 (by have := z1.out; simp; omega)
  have K7 := d7.at K6 (by have := z1.out; simp; omega)
  have L7 := d7.at L6 (by have := z1.out; simp; omega)
  have D7 := D6.then d7 (by have := z1.out; simp; omega)
  rw [show (MemS.mk [0, 0, 0, 0] true 0).leaveE 1 5 = 30 from by decide +kernel]
  rw [show (MemS.mk [0, 0, 0, 0] true 0).leave 1 5 = (MemS.mk [0, 0, 0, 0] true 0) from by decide +kernel] at M7
  clear d7 M6 P6 K6 L6 D6 p6_0 p6_1 p6_2 p6_3 p6_4 p6_5
  have p7_0 : w7.cell? ⟨w0.heap.size, 0, none⟩ = some (.int .i64 0) := cell_of_blk P7 rfl
  have p7_1 : w7.cell? ⟨w0.heap.size, 1, none⟩ = some (.int .i64 0) := cell_of_blk P7 rfl
  have p7_2 : w7.cell? ⟨w0.heap.size, 2, none⟩ = some (.int .i64 0) := cell_of_blk P7 rfl
  have p7_3 : w7.cell? ⟨w0.heap.size, 3, none⟩ = some (.int .i64 1) := cell_of_blk P7 rfl
  have p7_4 : w7.cell? ⟨w0.heap.size, 4, none⟩ = some (.int .i64 0) := cell_of_blk P7 rfl
  have p7_5 : w7.cell? ⟨w0.heap.size, 5, none⟩ = some (.int .i64 0) := cell_of_blk P7 rfl
  go_wp2_with fail
  refine (at_c (ScanS.mk 0 0 0 1 0 0 0 0 0 0) L7).mono ?_; rintro e w' ⟨rfl, hw'⟩; have hw2 := hw'.symm; clear hw'; subst hw2
  go_wp2
  go_ret
  exact ⟨rfl, D7⟩

end Go.Proofs.Ytobmgnoceacoaaa

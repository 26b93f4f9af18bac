/- Layer 13: clones go on (119). -/
import Derived.Test.YtobmgnoceacoaaaKept13
import Derived.Test.YtobmgnoceacoaaaMC
import Derived.Test.YtobmgnoceacoaaaMO
namespace Go.Proofs.Ytobmgnoceacoaaa
open Go.RowKit
variable {w0 w : World} {x a b c d k kr l lr : Nat} {s : MemS} {co : ComS} {sc : ScanS}

set_option maxRecDepth 100000 in
set_option maxHeartbeats 4000000 in
theorem clones13 (h : W13 w0 w x a b c d k kr l lr s co sc) :
    Calls Try.prog 119 #[.pointer (some ⟨x, 0, none⟩)] w fun e w' => e = .returned (.tuple #[]) ∧ ∃ k' l', W13 w0 w' x a b c d k' kr l' lr s co sc := by
  have gx := lt_of_block h.hx
  have ga := h.bo.m.lta
  have gb := h.bo.m.ltb
  have gc := h.bo.r.lta
  have gd := h.bo.r.ltb
  have gk := lt_of_block h.hk
  have gkr := lt_of_block h.hkr
  have gl := lt_of_block h.hl
  have glr := lt_of_block h.hlr
  have HG := Lib.hid h.ge
  have n_a_x : Hid (a ≠ x) := Lib.hid (blk_ne h.bo.m.hd h.hx (by decide))
  have n_b_x : Hid (b ≠ x) := Lib.hid (blk_ne h.bo.m.ws h.hx (by decide))
  have n_c_x : Hid (c ≠ x) := Lib.hid (blk_ne h.bo.r.hd h.hx (by decide))
  have n_d_x : Hid (d ≠ x) := Lib.hid (blk_ne h.bo.r.ws h.hx (by decide))
  have n_k_x : Hid (k ≠ x) := Lib.hid (blk_ne h.hk h.hx (by decide))
  have n_kr_x : Hid (kr ≠ x) := Lib.hid (blk_ne h.hkr h.hx (by decide))
  have n_l_x : Hid (l ≠ x) := Lib.hid (blk_ne h.hl h.hx (by decide))
  have n_lr_x : Hid (lr ≠ x) := Lib.hid (blk_ne h.hlr h.hx (by decide))
  have n_a_k : Hid (a ≠ k) := Lib.hid (blk_ne h.bo.m.hd h.hk (by decide))
  have n_b_k : Hid (b ≠ k) := Lib.hid (blk_ne h.bo.m.ws h.hk (by decide))
  have n_c_k : Hid (c ≠ k) := Lib.hid (blk_ne h.bo.r.hd h.hk (by decide))
  have n_d_k : Hid (d ≠ k) := Lib.hid (blk_ne h.bo.r.ws h.hk (by decide))
  have n_kr_k : Hid (kr ≠ k) := Lib.hid (blk_ne h.hkr h.hk (by decide))
  have n_l_k : Hid (l ≠ k) := Lib.hid (blk_ne h.hl h.hk (by decide))
  have n_lr_k : Hid (lr ≠ k) := Lib.hid (blk_ne h.hlr h.hk (by decide))
  have n_x_k : Hid (x ≠ k) := Lib.hid (blk_ne h.hx h.hk (by decide))
  have n_a_l : Hid (a ≠ l) := Lib.hid (blk_ne h.bo.m.hd h.hl (by decide))
  have n_b_l : Hid (b ≠ l) := Lib.hid (blk_ne h.bo.m.ws h.hl (by decide))
  have n_c_l : Hid (c ≠ l) := Lib.hid (blk_ne h.bo.r.hd h.hl (by decide))
  have n_d_l : Hid (d ≠ l) := Lib.hid (blk_ne h.bo.r.ws h.hl (by decide))
  have n_k_l : Hid (k ≠ l) := Lib.hid (blk_ne h.hk h.hl (by decide))
  have n_kr_l : Hid (kr ≠ l) := Lib.hid (blk_ne h.hkr h.hl (by decide))
  have n_lr_l : Hid (lr ≠ l) := Lib.hid (blk_ne h.hlr h.hl (by decide))
  have n_x_l : Hid (x ≠ l) := Lib.hid (blk_ne h.hx h.hl (by decide))
  have X0 := h.hx
  have x0_0 : w.cell? ⟨x, 0, none⟩ = some (.pointer (some ⟨a, 0, none⟩)) := cell_of_blk X0 rfl
  have x0_2 : w.cell? ⟨x, 2, none⟩ = some (.pointer (some ⟨k, 0, none⟩)) := cell_of_blk X0 rfl
  have x0_4 : w.cell? ⟨x, 4, none⟩ = some (.pointer (some ⟨l, 0, none⟩)) := cell_of_blk X0 rfl
  go_enter Try.func119, Try.ntmps119
  go_wp2_with fail
  refine (clone_c h.bo.m).mono ?_; rintro e w1 ⟨a', b', rfl, M1, -, ha', hb', d1⟩
  have W1 := h.mod d1 (by simp)
  have sz1 := d1.size
  have la' := M1.lta
  have lb' := M1.ltb
  have X1 := W1.hx
  have x1_0 : w1.cell? ⟨x, 0, none⟩ = some (.pointer (some ⟨a, 0, none⟩)) := cell_of_blk X1 rfl
  have x1_2 : w1.cell? ⟨x, 2, none⟩ = some (.pointer (some ⟨k, 0, none⟩)) := cell_of_blk X1 rfl
  have x1_4 : w1.cell? ⟨x, 4, none⟩ = some (.pointer (some ⟨l, 0, none⟩)) := cell_of_blk X1 rfl
  clear x0_0 x0_2 x0_4 X0 d1
  go_wp2_with fail
  refine (cclone co W1.hk).mono ?_; rintro e w2 ⟨rfl, hw2⟩
  have e2 : Mod [] w1 w2 := hw2 ▸ (Mod.refl _ _).alloc _
  have sz2 : Hid (w2.heap.size = w1.heap.size + 1) := Lib.hid (by rw [hw2]; simp)
  have NK2 : w2.heap[w1.heap.size]? = some (.cells co.arr 160 (0, 0)) := by rw [hw2]; exact heap_alloc_new _ _
  have W2 := W1.mod e2 (by simp)
  have M2 := M1.mod e2 (by simp) (by simp)
  have X2 := W2.hx
  have x2_0 : w2.cell? ⟨x, 0, none⟩ = some (.pointer (some ⟨a, 0, none⟩)) := cell_of_blk X2 rfl
  have x2_2 : w2.cell? ⟨x, 2, none⟩ = some (.pointer (some ⟨k, 0, none⟩)) := cell_of_blk X2 rfl
  have x2_4 : w2.cell? ⟨x, 4, none⟩ = some (.pointer (some ⟨l, 0, none⟩)) := cell_of_blk X2 rfl
  clear x1_0 x1_2 x1_4 X1 hw2 e2 W1 M1
  go_wp2_with fail
  refine (sclone sc W2.hl).mono ?_; rintro e w3 ⟨rfl, hw3⟩
  have e3 : Mod [] w2 w3 := hw3 ▸ (Mod.refl _ _).alloc _
  have sz3 : Hid (w3.heap.size = w2.heap.size + 1) := Lib.hid (by rw [hw3]; simp)
  have NL3 : w3.heap[w2.heap.size]? = some (.cells sc.arr 162 (0, 0)) := by rw [hw3]; exact heap_alloc_new _ _
  have NK3 := e3.at NK2 (by simp)
  have W3 := W2.mod e3 (by simp)
  have M3 := M2.mod e3 (by simp) (by simp)
  have X3 := W3.hx
  have B3 := W3.bo
  have K3 := W3.hk
  have R3 := W3.hkr
  have L3 := W3.hl
  have S3 := W3.hlr
  have F3 := W3.fr
  have x3_0 : w3.cell? ⟨x, 0, none⟩ = some (.pointer (some ⟨a, 0, none⟩)) := cell_of_blk X3 rfl
  have x3_2 : w3.cell? ⟨x, 2, none⟩ = some (.pointer (some ⟨k, 0, none⟩)) := cell_of_blk X3 rfl
  have x3_4 : w3.cell? ⟨x, 4, none⟩ = some (.pointer (some ⟨l, 0, none⟩)) := cell_of_blk X3 rfl
  clear x2_0 x2_2 x2_4 X2 hw3 e3 W2 M2 NK2 W3
  go_wp2_with fail
  refine (open_c M3).mono ?_; rintro e w4 ⟨rfl, M4, d4⟩
  have X4 := d4.at X3 (nm2 (by have := sz2.out; have := sz3.out; omega) (by have := sz2.out; have := sz3.out; omega))
  have R4 := d4.at R3 (nm2 (by have := sz2.out; have := sz3.out; omega) (by have := sz2.out; have := sz3.out; omega))
  have S4 := d4.at S3 (nm2 (by have := sz2.out; have := sz3.out; omega) (by have := sz2.out; have := sz3.out; omega))
  have NK4 := d4.at NK3 (nm2 (by have := sz2.out; have := sz3.out; omega) (by have := sz2.out; have := sz3.out; omega))
  have NL4 := d4.at NL3 (nm2 (by have := sz2.out; have := sz3.out; omega) (by have := sz2.out; have := sz3.out; omega))
  have K4 := d4.at K3 (nm2 (by have := sz2.out; have := sz3.out; omega) (by have := sz2.out; have := sz3.out; omega))
  have L4 := d4.at L3 (nm2 (by have := sz2.out; have := sz3.out; omega) (by have := sz2.out; have := sz3.out; omega))
  have B4 := B3.mod d4 (nm2 (by have := sz2.out; have := sz3.out; omega) (by have := sz2.out; have := sz3.out; omega)) (nm2 (by have := sz2.out; have := sz3.out; omega) (by have := sz2.out; have := sz3.out; omega)) (nm2 (by have := sz2.out; have := sz3.out; omega) (by have := sz2.out; have := sz3.out; omega)) (nm2 (by have := sz2.out; have := sz3.out; omega) (by have := sz2.out; have := sz3.out; omega))
  have F4 := F3.then d4 (by have := HG.out; simp; omega)
  have x4_0 : w4.cell? ⟨x, 0, none⟩ = some (.pointer (some ⟨a, 0, none⟩)) := cell_of_blk X4 rfl
  have x4_2 : w4.cell? ⟨x, 2, none⟩ = some (.pointer (some ⟨k, 0, none⟩)) := cell_of_blk X4 rfl
  have x4_4 : w4.cell? ⟨x, 4, none⟩ = some (.pointer (some ⟨l, 0, none⟩)) := cell_of_blk X4 rfl
  clear x3_0 x3_2 x3_4 X3 R3 S3 NK3 NL3 B3 F3 M3 d4 K3 L3
  go_wp2_with fail
  refine (comStep_c M4 co h.iC K4).mono ?_; rintro e w5 ⟨rfl, M5, K5, d5⟩
  have X5 := d5.at X4 (nm3 (by have := sz2.out; have := sz3.out; omega) (by have := sz2.out; have := sz3.out; omega) n_x_k.out)
  have R5 := d5.at R4 (nm3 (by have := sz2.out; have := sz3.out; omega) (by have := sz2.out; have := sz3.out; omega) n_kr_k.out)
  have S5 := d5.at S4 (nm3 (by have := sz2.out; have := sz3.out; omega) (by have := sz2.out; have := sz3.out; omega) n_lr_k.out)
  have NK5 := d5.at NK4 (nm3 (by have := sz2.out; have := sz3.out; omega) (by have := sz2.out; have := sz3.out; omega) (by have := sz2.out; have := sz3.out; omega))
  have NL5 := d5.at NL4 (nm3 (by have := sz2.out; have := sz3.out; omega) (by have := sz2.out; have := sz3.out; omega) (by have := sz2.out; have := sz3.out; omega))
  have L5 := d5.at L4 (nm3 (by have := sz2.out; have := sz3.out; omega) (by have := sz2.out; have := sz3.out; omega) n_l_k.out)
  have B5 := B4.mod d5 (nm3 (by have := sz2.out; have := sz3.out; omega) (by have := sz2.out; have := sz3.out; omega) n_a_k.out) (nm3 (by have := sz2.out; have := sz3.out; omega) (by have := sz2.out; have := sz3.out; omega) n_b_k.out) (nm3 (by have := sz2.out; have := sz3.out; omega) (by have := sz2.out; have := sz3.out; omega) n_c_k.out) (nm3 (by have := sz2.out; have := sz3.out; omega) (by have := sz2.out; have := sz3.out; omega) n_d_k.out)
  have F5 := F4.then d5 (by have := HG.out; simp; omega)
  have x5_0 : w5.cell? ⟨x, 0, none⟩ = some (.pointer (some ⟨a, 0, none⟩)) := cell_of_blk X5 rfl
  have x5_2 : w5.cell? ⟨x, 2, none⟩ = some (.pointer (some ⟨k, 0, none⟩)) := cell_of_blk X5 rfl
  have x5_4 : w5.cell? ⟨x, 4, none⟩ = some (.pointer (some ⟨l, 0, none⟩)) := cell_of_blk X5 rfl
  clear x4_0 x4_2 x4_4 X4 R4 S4 NK4 NL4 B4 F4 M4 d5 K4 L4
  go_wp2_with fail
  refine (open_c M5).mono ?_; rintro e w6 ⟨rfl, M6, d6⟩
  have X6 := d6.at X5 (nm2 (by have := sz2.out; have := sz3.out; omega) (by have := sz2.out; have := sz3.out; omega))
  have R6 := d6.at R5 (nm2 (by have := sz2.out; have := sz3.out; omega) (by have := sz2.out; have := sz3.out; omega))
  have S6 := d6.at S5 (nm2 (by have := sz2.out; have := sz3.out; omega) (by have := sz2.out; have := sz3.out; omega))
  have NK6 := d6.at NK5 (nm2 (by have := sz2.out; have := sz3.out; omega) (by have := sz2.out; have := sz3.out; omega))
  have NL6 := d6.at NL5 (nm2 (by have := sz2.out; have := sz3.out; omega) (by have := sz2.out; have := sz3.out; omega))
  have K6 := d6.at K5 (nm2 (by have := sz2.out; have := sz3.out; omega) (by have := sz2.out; have := sz3.out; omega))
  have L6 := d6.at L5 (nm2 (by have := sz2.out; have := sz3.out; omega) (by have := sz2.out; have := sz3.out; omega))
  have B6 := B5.mod d6 (nm2 (by have := sz2.out; have := sz3.out; omega) (by have := sz2.out; have := sz3.out; omega)) (nm2 (by have := sz2.out; have := sz3.out; omega) (by have := sz2.out; have := sz3.out; omega)) (nm2 (by have := sz2.out; have := sz3.out; omega) (by have := sz2.out; have := sz3.out; omega)) (nm2 (by have := sz2.out; have := sz3.out; omega) (by have := sz2.out; have := sz3.out; omega))
  have F6 := F5.then d6 (by have := HG.out; simp; omega)
  have x6_0 : w6.cell? ⟨x, 0, none⟩ = some (.pointer (some ⟨a, 0, none⟩)) := cell_of_blk X6 rfl
  have x6_2 : w6.cell? ⟨x, 2, none⟩ = some (.pointer (some ⟨k, 0, none⟩)) := cell_of_blk X6 rfl
  have x6_4 : w6.cell? ⟨x, 4, none⟩ = some (.pointer (some ⟨l, 0, none⟩)) := cell_of_blk X6 rfl
  clear x5_0 x5_2 x5_4 X5 R5 S5 NK5 NL5 B5 F5 M5 d6 K5 L5
  go_wp2_with fail
  refine (scanStep_c M6 sc h.iS L6).mono ?_; rintro e w7 ⟨rfl, M7, L7, d7⟩
  have X7 := d7.at X6 (nm3 (by have := sz2.out; have := sz3.out; omega) (by have := sz2.out; have := sz3.out; omega) n_x_l.out)
  have R7 := d7.at R6 (nm3 (by have := sz2.out; have := sz3.out; omega) (by have := sz2.out; have := sz3.out; omega) n_kr_l.out)
  have S7 := d7.at S6 (nm3 (by have := sz2.out; have := sz3.out; omega) (by have := sz2.out; have := sz3.out; omega) n_lr_l.out)
  have NK7 := d7.at NK6 (nm3 (by have := sz2.out; have := sz3.out; omega) (by have := sz2.out; have := sz3.out; omega) (by have := sz2.out; have := sz3.out; omega))
  have NL7 := d7.at NL6 (nm3 (by have := sz2.out; have := sz3.out; omega) (by have := sz2.out; have := sz3.out; omega) (by have := sz2.out; have := sz3.out; omega))
  have K7 := d7.at K6 (nm3 (by have := sz2.out; have := sz3.out; omega) (by have := sz2.out; have := sz3.out; omega) n_k_l.out)
  have B7 := B6.mod d7 (nm3 (by have := sz2.out; have := sz3.out; omega) (by have := sz2.out; have := sz3.out; omega) n_a_l.out) (nm3 (by have := sz2.out; have := sz3.out; omega) (by have := sz2.out; have := sz3.out; omega) n_b_l.out) (nm3 (by have := sz2.out; have := sz3.out; omega) (by have := sz2.out; have := sz3.out; omega) n_c_l.out) (nm3 (by have := sz2.out; have := sz3.out; omega) (by have := sz2.out; have := sz3.out; omega) n_d_l.out)
  have F7 := F6.then d7 (by have := HG.out; simp; omega)
  have x7_0 : w7.cell? ⟨x, 0, none⟩ = some (.pointer (some ⟨a, 0, none⟩)) := cell_of_blk X7 rfl
  have x7_2 : w7.cell? ⟨x, 2, none⟩ = some (.pointer (some ⟨k, 0, none⟩)) := cell_of_blk X7 rfl
  have x7_4 : w7.cell? ⟨x, 4, none⟩ = some (.pointer (some ⟨l, 0, none⟩)) := cell_of_blk X7 rfl
  clear x6_0 x6_2 x6_4 X6 R6 S6 NK6 NL6 B6 F6 M6 d7 K6 L6
  have f2 := free_of_blk (i := 2) X7
  have f4 := free_of_blk (i := 4) X7
  have iC := h.iC
  have iS := h.iS
  clear h M7 K7 L7
  go_wp2
  go_end0
  have sx := lt_of_block X7
  have hg := HG.out
  have z2 := sz2.out
  have z3 := sz3.out
  refine ⟨rfl, w1.heap.size, w2.heap.size, ?_, ⟨?_, ?_, ?_⟩, ?_, ?_, ?_, ?_, iC, iS, by omega, ?_⟩
  · exact blk_setCell_same _ (blk_setCell_same _ X7)
  · exact (B7.m.other _ _ _ n_a_x.out n_b_x.out).other _ _ _ n_a_x.out n_b_x.out
  · exact (B7.r.other _ _ _ n_c_x.out n_d_x.out).other _ _ _ n_c_x.out n_d_x.out
  · exact B7.bd
  · exact blk_setCell_other _ (blk_setCell_other _ NK7 (by omega)) (by omega)
  · exact blk_setCell_other _ (blk_setCell_other _ R7 n_kr_x.out) n_kr_x.out
  · exact blk_setCell_other _ (blk_setCell_other _ NL7 (by omega)) (by omega)
  · exact blk_setCell_other _ (blk_setCell_other _ S7 n_lr_x.out) n_lr_x.out
  · exact (F7.setCell _ _ (.inr (by simp; omega))).setCell _ _ (.inr (by simp; omega))
end Go.Proofs.Ytobmgnoceacoaaa

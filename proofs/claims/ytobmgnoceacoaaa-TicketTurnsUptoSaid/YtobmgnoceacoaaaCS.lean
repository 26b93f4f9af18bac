/- A coming: its steps, in the program and in the reference. -/
import Derived.Test.YtobmgnoceacoaaaCQ
import Derived.Test.YtobmgnoceacoaaaPlays03
import Derived.Deep.RegionWith
import Derived.Deep.DeepCutAuto
import Derived.Deep.CutBlock
namespace Go.Proofs.Ytobmgnoceacoaaa
open Go.RowKit


set_option maxRecDepth 100000 in
set_option maxHeartbeats 2000000 in
theorem com3_c {a b k : Nat} {s : MemS} {w : World} (hM : MemAt 142 w a b s) (p0 p1 p2 p3 p4 p5 th cl st : Int) (hk : w.heap[k]? = some (.cells #[.int .i64 p0, .int .i64 p1, .int .i64 p2, .int .i64 p3, .int .i64 p4, .int .i64 p5, .int .i64 th, .int .i64 3, .int .u64 cl, .int .u64 st] 160 (0, 0)))  :
    Calls Try.prog 57 #[.pointer (some ⟨k, 0, none⟩), .pointer (some ⟨a, 0, none⟩)] w fun e w' => e = .returned (.tuple #[.bool false, .int .i64 3]) ∧ MemAt 142 w' a b (s) ∧ w'.heap[k]? = some (.cells #[.int .i64 p0, .int .i64 p1, .int .i64 p2, .int .i64 p3, .int .i64 p4, .int .i64 p5, .int .i64 th, .int .i64 3, .int .u64 cl, .int .u64 st] 160 (0, 0)) ∧ Mod [a, b, k] w w' := by
  have ha := hM.lta
  have hb := hM.ltb
  have hkl := lt_of_block hk
  have hka : k ≠ a := blk_ne hk hM.hd (by decide)
  have hkb : k ≠ b := blk_ne hk hM.ws (by decide)
  have x0 : w.cell? ⟨k, 0, none⟩ = some (.int .i64 p0) := cell_of_blk hk rfl
  have x1 : w.cell? ⟨k, 1, none⟩ = some (.int .i64 p1) := cell_of_blk hk rfl
  have x2 : w.cell? ⟨k, 2, none⟩ = some (.int .i64 p2) := cell_of_blk hk rfl
  have x3 : w.cell? ⟨k, 3, none⟩ = some (.int .i64 p3) := cell_of_blk hk rfl
  have x4 : w.cell? ⟨k, 4, none⟩ = some (.int .i64 p4) := cell_of_blk hk rfl
  have x5 : w.cell? ⟨k, 5, none⟩ = some (.int .i64 p5) := cell_of_blk hk rfl
  have x6 : w.cell? ⟨k, 6, none⟩ = some (.int .i64 th) := cell_of_blk hk rfl
  have x7 : w.cell? ⟨k, 7, none⟩ = some (.int .i64 3) := cell_of_blk hk rfl
  have x8 : w.cell? ⟨k, 8, none⟩ = some (.int .u64 cl) := cell_of_blk hk rfl
  have x9 : w.cell? ⟨k, 9, none⟩ = some (.int .u64 st) := cell_of_blk hk rfl
  have xf7 := free_of_blk (i := 7) hk
  have xf8 := free_of_blk (i := 8) hk
  have xf9 := free_of_blk (i := 9) hk
  go_enter Try.func57, Try.ntmps57
  go_wp2
  go_ret2
  exact ⟨rfl, hM, hk, Mod.refl _ _⟩

set_option maxRecDepth 100000 in
set_option maxHeartbeats 2000000 in
theorem com3_r {a b k : Nat} {s : MemS} {w : World} (hM : MemAt 148 w a b s) (p0 p1 p2 p3 p4 p5 th cl st : Int) (hk : w.heap[k]? = some (.cells #[.int .i64 p0, .int .i64 p1, .int .i64 p2, .int .i64 p3, .int .i64 p4, .int .i64 p5, .int .i64 th, .int .i64 3, .int .u64 cl, .int .u64 st] 168 (0, 0)))  :
    Calls Try.prog 117 #[.pointer (some ⟨k, 0, none⟩), .pointer (some ⟨a, 0, none⟩)] w fun e w' => e = .returned (.tuple #[.bool false, .int .i64 3]) ∧ MemAt 148 w' a b (s) ∧ w'.heap[k]? = some (.cells #[.int .i64 p0, .int .i64 p1, .int .i64 p2, .int .i64 p3, .int .i64 p4, .int .i64 p5, .int .i64 th, .int .i64 3, .int .u64 cl, .int .u64 st] 168 (0, 0)) ∧ Mod [a, b, k] w w' := by
  have ha := hM.lta
  have hb := hM.ltb
  have hkl := lt_of_block hk
  have hka : k ≠ a := blk_ne hk hM.hd (by decide)
  have hkb : k ≠ b := blk_ne hk hM.ws (by decide)
  have x0 : w.cell? ⟨k, 0, none⟩ = some (.int .i64 p0) := cell_of_blk hk rfl
  have x1 : w.cell? ⟨k, 1, none⟩ = some (.int .i64 p1) := cell_of_blk hk rfl
  have x2 : w.cell? ⟨k, 2, none⟩ = some (.int .i64 p2) := cell_of_blk hk rfl
  have x3 : w.cell? ⟨k, 3, none⟩ = some (.int .i64 p3) := cell_of_blk hk rfl
  have x4 : w.cell? ⟨k, 4, none⟩ = some (.int .i64 p4) := cell_of_blk hk rfl
  have x5 : w.cell? ⟨k, 5, none⟩ = some (.int .i64 p5) := cell_of_blk hk rfl
  have x6 : w.cell? ⟨k, 6, none⟩ = some (.int .i64 th) := cell_of_blk hk rfl
  have x7 : w.cell? ⟨k, 7, none⟩ = some (.int .i64 3) := cell_of_blk hk rfl
  have x8 : w.cell? ⟨k, 8, none⟩ = some (.int .u64 cl) := cell_of_blk hk rfl
  have x9 : w.cell? ⟨k, 9, none⟩ = some (.int .u64 st) := cell_of_blk hk rfl
  have xf7 := free_of_blk (i := 7) hk
  have xf8 := free_of_blk (i := 8) hk
  have xf9 := free_of_blk (i := 9) hk
  go_enter Try.func117, Try.ntmps117
  go_wp2
  go_ret2
  exact ⟨rfl, hM, hk, Mod.refl _ _⟩

set_option maxRecDepth 100000 in
set_option maxHeartbeats 2000000 in
theorem comT_c {a b k : Nat} {s : MemS} {w : World} (hM : MemAt 142 w a b s) (p0 p1 p2 p3 p4 p5 th cl st : Int) (n : Int) (hk : w.heap[k]? = some (.cells #[.int .i64 p0, .int .i64 p1, .int .i64 p2, .int .i64 p3, .int .i64 p4, .int .i64 p5, .int .i64 th, .int .i64 n, .int .u64 cl, .int .u64 st] 160 (0, 0))) (hn3 : (n == 3) = false) (he : plErr p3 th = 100) :
    Calls Try.prog 57 #[.pointer (some ⟨k, 0, none⟩), .pointer (some ⟨a, 0, none⟩)] w fun e w' => e = .returned (.tuple #[.bool false, .int .i64 100]) ∧ MemAt 142 w' a b (s) ∧ w'.heap[k]? = some (.cells #[.int .i64 p0, .int .i64 p1, .int .i64 p2, .int .i64 p3, .int .i64 p4, .int .i64 p5, .int .i64 th, .int .i64 n, .int .u64 cl, .int .u64 st] 160 (0, 0)) ∧ Mod [a, b, k] w w' := by
  have ha := hM.lta
  have hb := hM.ltb
  have hkl := lt_of_block hk
  have hka : k ≠ a := blk_ne hk hM.hd (by decide)
  have hkb : k ≠ b := blk_ne hk hM.ws (by decide)
  have x0 : w.cell? ⟨k, 0, none⟩ = some (.int .i64 p0) := cell_of_blk hk rfl
  have x1 : w.cell? ⟨k, 1, none⟩ = some (.int .i64 p1) := cell_of_blk hk rfl
  have x2 : w.cell? ⟨k, 2, none⟩ = some (.int .i64 p2) := cell_of_blk hk rfl
  have x3 : w.cell? ⟨k, 3, none⟩ = some (.int .i64 p3) := cell_of_blk hk rfl
  have x4 : w.cell? ⟨k, 4, none⟩ = some (.int .i64 p4) := cell_of_blk hk rfl
  have x5 : w.cell? ⟨k, 5, none⟩ = some (.int .i64 p5) := cell_of_blk hk rfl
  have x6 : w.cell? ⟨k, 6, none⟩ = some (.int .i64 th) := cell_of_blk hk rfl
  have x7 : w.cell? ⟨k, 7, none⟩ = some (.int .i64 n) := cell_of_blk hk rfl
  have x8 : w.cell? ⟨k, 8, none⟩ = some (.int .u64 cl) := cell_of_blk hk rfl
  have x9 : w.cell? ⟨k, 9, none⟩ = some (.int .u64 st) := cell_of_blk hk rfl
  have xf7 := free_of_blk (i := 7) hk
  have xf8 := free_of_blk (i := 8) hk
  have xf9 := free_of_blk (i := 9) hk
  have He := Lib.hid he; clear he
  go_enter Try.func57, Try.ntmps57
  go_upto_region 3 with fail
  go_cut [6, 7] (fun x y wx => x = .int .i64 (plAt p3 th) ∧ y = .int .i64 (plErr p3 th) ∧ MemAt 142 wx a b s ∧ wx.heap[k]? = some (.cells #[.int .i64 p0, .int .i64 p1, .int .i64 p2, .int .i64 p3, .int .i64 p4, .int .i64 p5, .int .i64 th, .int .i64 n, .int .u64 cl, .int .u64 st] 160 (0, 0)) ∧ Mod [] w wx)
  case first =>
    go_region_with (go_at_call 113; refine (place13 _ _ _ _ _ _ _ _).mono ?_; rintro e w1 ⟨rfl, rfl⟩)
    all_goals
      go_wp2_with fail
      go_meet
      exact ⟨rfl, rfl, by repeat (first | exact hM | refine MemAt.drew ?_ | refine MemAt.alloc ?_ _), blk_alloc_old _ hk, (by repeat (first | with_reducible exact Mod.refl _ _ | with_reducible assumption | with_reducible refine Mod.drew ?_ | with_reducible refine Mod.alloc ?_ _ | with_reducible refine Mod.setCell ?_ _ _ (.inl (by simp))))⟩
  case rest =>
    obtain ⟨rfl, rfl, M1, K1, D1⟩ := hcut
    clear x0 x1 x2 x3 x4 x5 x6 x7 x8 x9 xf7 xf8 xf9
    rw [He.out]
    go_wp2
    go_ret2
    exact ⟨rfl, M1, K1, D1.weak _⟩

set_option maxRecDepth 100000 in
set_option maxHeartbeats 2000000 in
theorem com0ok_c {a b k : Nat} {s : MemS} {w : World} (hM : MemAt 142 w a b s) (p0 p1 p2 p3 p4 p5 th cl st : Int) (hk : w.heap[k]? = some (.cells #[.int .i64 p0, .int .i64 p1, .int .i64 p2, .int .i64 p3, .int .i64 p4, .int .i64 p5, .int .i64 th, .int .i64 0, .int .u64 cl, .int .u64 st] 160 (0, 0))) (hq : (plErr p3 th == 100) = false) (h0 : s.acc p2 = 0) :
    Calls Try.prog 57 #[.pointer (some ⟨k, 0, none⟩), .pointer (some ⟨a, 0, none⟩)] w fun e w' => e = .returned (.tuple #[.bool false, .int .i64 0]) ∧ MemAt 142 w' a b (s.load p2) ∧ w'.heap[k]? = some (.cells #[.int .i64 p0, .int .i64 p1, .int .i64 p2, .int .i64 p3, .int .i64 p4, .int .i64 p5, .int .i64 th, .int .i64 1, .int .u64 (s.got p2), .int .u64 st] 160 (0, 0)) ∧ Mod [a, b, k] w w' := by
  have ha := hM.lta
  have hb := hM.ltb
  have hkl := lt_of_block hk
  have hka : k ≠ a := blk_ne hk hM.hd (by decide)
  have hkb : k ≠ b := blk_ne hk hM.ws (by decide)
  have x0 : w.cell? ⟨k, 0, none⟩ = some (.int .i64 p0) := cell_of_blk hk rfl
  have x1 : w.cell? ⟨k, 1, none⟩ = some (.int .i64 p1) := cell_of_blk hk rfl
  have x2 : w.cell? ⟨k, 2, none⟩ = some (.int .i64 p2) := cell_of_blk hk rfl
  have x3 : w.cell? ⟨k, 3, none⟩ = some (.int .i64 p3) := cell_of_blk hk rfl
  have x4 : w.cell? ⟨k, 4, none⟩ = some (.int .i64 p4) := cell_of_blk hk rfl
  have x5 : w.cell? ⟨k, 5, none⟩ = some (.int .i64 p5) := cell_of_blk hk rfl
  have x6 : w.cell? ⟨k, 6, none⟩ = some (.int .i64 th) := cell_of_blk hk rfl
  have x7 : w.cell? ⟨k, 7, none⟩ = some (.int .i64 0) := cell_of_blk hk rfl
  have x8 : w.cell? ⟨k, 8, none⟩ = some (.int .u64 cl) := cell_of_blk hk rfl
  have x9 : w.cell? ⟨k, 9, none⟩ = some (.int .u64 st) := cell_of_blk hk rfl
  have xf7 := free_of_blk (i := 7) hk
  have xf8 := free_of_blk (i := 8) hk
  have xf9 := free_of_blk (i := 9) hk
  go_enter Try.func57, Try.ntmps57
  go_upto_region 3 with fail
  go_cut [6, 7] (fun x y wx => x = .int .i64 (plAt p3 th) ∧ y = .int .i64 (plErr p3 th) ∧ MemAt 142 wx a b s ∧ wx.heap[k]? = some (.cells #[.int .i64 p0, .int .i64 p1, .int .i64 p2, .int .i64 p3, .int .i64 p4, .int .i64 p5, .int .i64 th, .int .i64 0, .int .u64 cl, .int .u64 st] 160 (0, 0)) ∧ Mod [] w wx)
  case first =>
    go_region_with (go_at_call 113; refine (place13 _ _ _ _ _ _ _ _).mono ?_; rintro e w1 ⟨rfl, rfl⟩)
    all_goals
      go_wp2_with fail
      go_meet
      exact ⟨rfl, rfl, by repeat (first | exact hM | refine MemAt.drew ?_ | refine MemAt.alloc ?_ _), blk_alloc_old _ hk, (by repeat (first | with_reducible exact Mod.refl _ _ | with_reducible assumption | with_reducible refine Mod.drew ?_ | with_reducible refine Mod.alloc ?_ _ | with_reducible refine Mod.setCell ?_ _ _ (.inl (by simp))))⟩
  case rest =>
    obtain ⟨rfl, rfl, M1, K1, D1⟩ := hcut
    clear x0 x1 x2 x3 x4 x5 x6 x7 x8 x9 xf7 xf8 xf9
    have y0 : wc.cell? ⟨k, 0, none⟩ = some (.int .i64 p0) := cell_of_blk K1 rfl
    have y1 : wc.cell? ⟨k, 1, none⟩ = some (.int .i64 p1) := cell_of_blk K1 rfl
    have y2 : wc.cell? ⟨k, 2, none⟩ = some (.int .i64 p2) := cell_of_blk K1 rfl
    have y3 : wc.cell? ⟨k, 3, none⟩ = some (.int .i64 p3) := cell_of_blk K1 rfl
    have y4 : wc.cell? ⟨k, 4, none⟩ = some (.int .i64 p4) := cell_of_blk K1 rfl
    have y5 : wc.cell? ⟨k, 5, none⟩ = some (.int .i64 p5) := cell_of_blk K1 rfl
    have y6 : wc.cell? ⟨k, 6, none⟩ = some (.int .i64 th) := cell_of_blk K1 rfl
    have y7 : wc.cell? ⟨k, 7, none⟩ = some (.int .i64 0) := cell_of_blk K1 rfl
    have y8 : wc.cell? ⟨k, 8, none⟩ = some (.int .u64 cl) := cell_of_blk K1 rfl
    have y9 : wc.cell? ⟨k, 9, none⟩ = some (.int .u64 st) := cell_of_blk K1 rfl
    have yf7 := free_of_blk (i := 7) K1
    have yf8 := free_of_blk (i := 8) K1
    have yf9 := free_of_blk (i := 9) K1

    go_wp2_with fail
    refine (load_c M1 _).mono ?_; rintro e w2 ⟨rfl, M2, d2⟩
    have K2 := d2.at K1 (by simp; omega)
    have HD : Hid (Mod [a, b, k] w w2) := (D1.weak _).then d2 (by simp)
    have HM := Lib.hid M2
    clear y0 y1 y2 y3 y4 y5 y6 y7 y8 y9 yf7 yf8 yf9 D1 d2 M1 M2 K1
    have z0 : w2.cell? ⟨k, 0, none⟩ = some (.int .i64 p0) := cell_of_blk K2 rfl
    have z1 : w2.cell? ⟨k, 1, none⟩ = some (.int .i64 p1) := cell_of_blk K2 rfl
    have z2 : w2.cell? ⟨k, 2, none⟩ = some (.int .i64 p2) := cell_of_blk K2 rfl
    have z3 : w2.cell? ⟨k, 3, none⟩ = some (.int .i64 p3) := cell_of_blk K2 rfl
    have z4 : w2.cell? ⟨k, 4, none⟩ = some (.int .i64 p4) := cell_of_blk K2 rfl
    have z5 : w2.cell? ⟨k, 5, none⟩ = some (.int .i64 p5) := cell_of_blk K2 rfl
    have z6 : w2.cell? ⟨k, 6, none⟩ = some (.int .i64 th) := cell_of_blk K2 rfl
    have z7 : w2.cell? ⟨k, 7, none⟩ = some (.int .i64 0) := cell_of_blk K2 rfl
    have z8 : w2.cell? ⟨k, 8, none⟩ = some (.int .u64 cl) := cell_of_blk K2 rfl
    have z9 : w2.cell? ⟨k, 9, none⟩ = some (.int .u64 st) := cell_of_blk K2 rfl
    have zf7 := free_of_blk (i := 7) K2
    have zf8 := free_of_blk (i := 8) K2
    have zf9 := free_of_blk (i := 9) K2

    go_wp2
    go_ret2
    exact ⟨rfl, ((HM.out.other _ _ _ (Ne.symm hka) (Ne.symm hkb)).other _ _ _ (Ne.symm hka) (Ne.symm hkb)), blk_setCell_same _ (blk_setCell_same _ K2), Mod.trans HD.out (by repeat (first | with_reducible exact Mod.refl _ _ | with_reducible refine Mod.setCell ?_ _ _ (.inl (by simp))))⟩

set_option maxRecDepth 100000 in
set_option maxHeartbeats 2000000 in
theorem com0bad_c {a b k : Nat} {s : MemS} {w : World} (hM : MemAt 142 w a b s) (p0 p1 p2 p3 p4 p5 th cl st : Int) (hk : w.heap[k]? = some (.cells #[.int .i64 p0, .int .i64 p1, .int .i64 p2, .int .i64 p3, .int .i64 p4, .int .i64 p5, .int .i64 th, .int .i64 0, .int .u64 cl, .int .u64 st] 160 (0, 0))) (hq : (plErr p3 th == 100) = false) (h0 : (s.acc p2 != 0) = true) :
    Calls Try.prog 57 #[.pointer (some ⟨k, 0, none⟩), .pointer (some ⟨a, 0, none⟩)] w fun e w' => e = .returned (.tuple #[.bool false, .int .i64 (s.acc p2)]) ∧ MemAt 142 w' a b (s.load p2) ∧ w'.heap[k]? = some (.cells #[.int .i64 p0, .int .i64 p1, .int .i64 p2, .int .i64 p3, .int .i64 p4, .int .i64 p5, .int .i64 th, .int .i64 0, .int .u64 (s.got p2), .int .u64 st] 160 (0, 0)) ∧ Mod [a, b, k] w w' := by
  have ha := hM.lta
  have hb := hM.ltb
  have hkl := lt_of_block hk
  have hka : k ≠ a := blk_ne hk hM.hd (by decide)
  have hkb : k ≠ b := blk_ne hk hM.ws (by decide)
  have x0 : w.cell? ⟨k, 0, none⟩ = some (.int .i64 p0) := cell_of_blk hk rfl
  have x1 : w.cell? ⟨k, 1, none⟩ = some (.int .i64 p1) := cell_of_blk hk rfl
  have x2 : w.cell? ⟨k, 2, none⟩ = some (.int .i64 p2) := cell_of_blk hk rfl
  have x3 : w.cell? ⟨k, 3, none⟩ = some (.int .i64 p3) := cell_of_blk hk rfl
  have x4 : w.cell? ⟨k, 4, none⟩ = some (.int .i64 p4) := cell_of_blk hk rfl
  have x5 : w.cell? ⟨k, 5, none⟩ = some (.int .i64 p5) := cell_of_blk hk rfl
  have x6 : w.cell? ⟨k, 6, none⟩ = some (.int .i64 th) := cell_of_blk hk rfl
  have x7 : w.cell? ⟨k, 7, none⟩ = some (.int .i64 0) := cell_of_blk hk rfl
  have x8 : w.cell? ⟨k, 8, none⟩ = some (.int .u64 cl) := cell_of_blk hk rfl
  have x9 : w.cell? ⟨k, 9, none⟩ = some (.int .u64 st) := cell_of_blk hk rfl
  have xf7 := free_of_blk (i := 7) hk
  have xf8 := free_of_blk (i := 8) hk
  have xf9 := free_of_blk (i := 9) hk
  go_enter Try.func57, Try.ntmps57
  go_upto_region 3 with fail
  go_cut [6, 7] (fun x y wx => x = .int .i64 (plAt p3 th) ∧ y = .int .i64 (plErr p3 th) ∧ MemAt 142 wx a b s ∧ wx.heap[k]? = some (.cells #[.int .i64 p0, .int .i64 p1, .int .i64 p2, .int .i64 p3, .int .i64 p4, .int .i64 p5, .int .i64 th, .int .i64 0, .int .u64 cl, .int .u64 st] 160 (0, 0)) ∧ Mod [] w wx)
  case first =>
    go_region_with (go_at_call 113; refine (place13 _ _ _ _ _ _ _ _).mono ?_; rintro e w1 ⟨rfl, rfl⟩)
    all_goals
      go_wp2_with fail
      go_meet
      exact ⟨rfl, rfl, by repeat (first | exact hM | refine MemAt.drew ?_ | refine MemAt.alloc ?_ _), blk_alloc_old _ hk, (by repeat (first | with_reducible exact Mod.refl _ _ | with_reducible assumption | with_reducible refine Mod.drew ?_ | with_reducible refine Mod.alloc ?_ _ | with_reducible refine Mod.setCell ?_ _ _ (.inl (by simp))))⟩
  case rest =>
    obtain ⟨rfl, rfl, M1, K1, D1⟩ := hcut
    clear x0 x1 x2 x3 x4 x5 x6 x7 x8 x9 xf7 xf8 xf9
    have y0 : wc.cell? ⟨k, 0, none⟩ = some (.int .i64 p0) := cell_of_blk K1 rfl
    have y1 : wc.cell? ⟨k, 1, none⟩ = some (.int .i64 p1) := cell_of_blk K1 rfl
    have y2 : wc.cell? ⟨k, 2, none⟩ = some (.int .i64 p2) := cell_of_blk K1 rfl
    have y3 : wc.cell? ⟨k, 3, none⟩ = some (.int .i64 p3) := cell_of_blk K1 rfl
    have y4 : wc.cell? ⟨k, 4, none⟩ = some (.int .i64 p4) := cell_of_blk K1 rfl
    have y5 : wc.cell? ⟨k, 5, none⟩ = some (.int .i64 p5) := cell_of_blk K1 rfl
    have y6 : wc.cell? ⟨k, 6, none⟩ = some (.int .i64 th) := cell_of_blk K1 rfl
    have y7 : wc.cell? ⟨k, 7, none⟩ = some (.int .i64 0) := cell_of_blk K1 rfl
    have y8 : wc.cell? ⟨k, 8, none⟩ = some (.int .u64 cl) := cell_of_blk K1 rfl
    have y9 : wc.cell? ⟨k, 9, none⟩ = some (.int .u64 st) := cell_of_blk K1 rfl
    have yf7 := free_of_blk (i := 7) K1
    have yf8 := free_of_blk (i := 8) K1
    have yf9 := free_of_blk (i := 9) K1

    go_wp2_with fail
    refine (load_c M1 _).mono ?_; rintro e w2 ⟨rfl, M2, d2⟩
    have K2 := d2.at K1 (by simp; omega)
    have HD : Hid (Mod [a, b, k] w w2) := (D1.weak _).then d2 (by simp)
    have HM := Lib.hid M2
    clear y0 y1 y2 y3 y4 y5 y6 y7 y8 y9 yf7 yf8 yf9 D1 d2 M1 M2 K1
    have z0 : w2.cell? ⟨k, 0, none⟩ = some (.int .i64 p0) := cell_of_blk K2 rfl
    have z1 : w2.cell? ⟨k, 1, none⟩ = some (.int .i64 p1) := cell_of_blk K2 rfl
    have z2 : w2.cell? ⟨k, 2, none⟩ = some (.int .i64 p2) := cell_of_blk K2 rfl
    have z3 : w2.cell? ⟨k, 3, none⟩ = some (.int .i64 p3) := cell_of_blk K2 rfl
    have z4 : w2.cell? ⟨k, 4, none⟩ = some (.int .i64 p4) := cell_of_blk K2 rfl
    have z5 : w2.cell? ⟨k, 5, none⟩ = some (.int .i64 p5) := cell_of_blk K2 rfl
    have z6 : w2.cell? ⟨k, 6, none⟩ = some (.int .i64 th) := cell_of_blk K2 rfl
    have z7 : w2.cell? ⟨k, 7, none⟩ = some (.int .i64 0) := cell_of_blk K2 rfl
    have z8 : w2.cell? ⟨k, 8, none⟩ = some (.int .u64 cl) := cell_of_blk K2 rfl
    have z9 : w2.cell? ⟨k, 9, none⟩ = some (.int .u64 st) := cell_of_blk K2 rfl
    have zf7 := free_of_blk (i := 7) K2
    have zf8 := free_of_blk (i := 8) K2
    have zf9 := free_of_blk (i := 9) K2

    go_wp2
    go_ret2
    exact ⟨rfl, (HM.out.other _ _ _ (Ne.symm hka) (Ne.symm hkb)), blk_setCell_same _ K2, Mod.trans HD.out (by repeat (first | with_reducible exact Mod.refl _ _ | with_reducible refine Mod.setCell ?_ _ _ (.inl (by simp))))⟩

set_option maxRecDepth 100000 in
set_option maxHeartbeats 2000000 in
theorem com2ok_c {a b k : Nat} {s : MemS} {w : World} (hM : MemAt 142 w a b s) (p0 p1 p2 p3 p4 p5 th cl st : Int) (hk : w.heap[k]? = some (.cells #[.int .i64 p0, .int .i64 p1, .int .i64 p2, .int .i64 p3, .int .i64 p4, .int .i64 p5, .int .i64 th, .int .i64 2, .int .u64 cl, .int .u64 st] 160 (0, 0))) (hq : (plErr p3 th == 100) = false) (h0 : s.acc p2 = 0) :
    Calls Try.prog 57 #[.pointer (some ⟨k, 0, none⟩), .pointer (some ⟨a, 0, none⟩)] w fun e w' => e = .returned (.tuple #[.bool true, .int .i64 0]) ∧ MemAt 142 w' a b (s.load p2) ∧ w'.heap[k]? = some (.cells #[.int .i64 p0, .int .i64 p1, .int .i64 p2, .int .i64 p3, .int .i64 p4, .int .i64 p5, .int .i64 th, .int .i64 3, .int .u64 cl, .int .u64 (s.got p2)] 160 (0, 0)) ∧ Mod [a, b, k] w w' := by
  have ha := hM.lta
  have hb := hM.ltb
  have hkl := lt_of_block hk
  have hka : k ≠ a := blk_ne hk hM.hd (by decide)
  have hkb : k ≠ b := blk_ne hk hM.ws (by decide)
  have x0 : w.cell? ⟨k, 0, none⟩ = some (.int .i64 p0) := cell_of_blk hk rfl
  have x1 : w.cell? ⟨k, 1, none⟩ = some (.int .i64 p1) := cell_of_blk hk rfl
  have x2 : w.cell? ⟨k, 2, none⟩ = some (.int .i64 p2) := cell_of_blk hk rfl
  have x3 : w.cell? ⟨k, 3, none⟩ = some (.int .i64 p3) := cell_of_blk hk rfl
  have x4 : w.cell? ⟨k, 4, none⟩ = some (.int .i64 p4) := cell_of_blk hk rfl
  have x5 : w.cell? ⟨k, 5, none⟩ = some (.int .i64 p5) := cell_of_blk hk rfl
  have x6 : w.cell? ⟨k, 6, none⟩ = some (.int .i64 th) := cell_of_blk hk rfl
  have x7 : w.cell? ⟨k, 7, none⟩ = some (.int .i64 2) := cell_of_blk hk rfl
  have x8 : w.cell? ⟨k, 8, none⟩ = some (.int .u64 cl) := cell_of_blk hk rfl
  have x9 : w.cell? ⟨k, 9, none⟩ = some (.int .u64 st) := cell_of_blk hk rfl
  have xf7 := free_of_blk (i := 7) hk
  have xf8 := free_of_blk (i := 8) hk
  have xf9 := free_of_blk (i := 9) hk
  go_enter Try.func57, Try.ntmps57
  go_upto_region 3 with fail
  go_cut [6, 7] (fun x y wx => x = .int .i64 (plAt p3 th) ∧ y = .int .i64 (plErr p3 th) ∧ MemAt 142 wx a b s ∧ wx.heap[k]? = some (.cells #[.int .i64 p0, .int .i64 p1, .int .i64 p2, .int .i64 p3, .int .i64 p4, .int .i64 p5, .int .i64 th, .int .i64 2, .int .u64 cl, .int .u64 st] 160 (0, 0)) ∧ Mod [] w wx)
  case first =>
    go_region_with (go_at_call 113; refine (place13 _ _ _ _ _ _ _ _).mono ?_; rintro e w1 ⟨rfl, rfl⟩)
    all_goals
      go_wp2_with fail
      go_meet
      exact ⟨rfl, rfl, by repeat (first | exact hM | refine MemAt.drew ?_ | refine MemAt.alloc ?_ _), blk_alloc_old _ hk, (by repeat (first | with_reducible exact Mod.refl _ _ | with_reducible assumption | with_reducible refine Mod.drew ?_ | with_reducible refine Mod.alloc ?_ _ | with_reducible refine Mod.setCell ?_ _ _ (.inl (by simp))))⟩
  case rest =>
    obtain ⟨rfl, rfl, M1, K1, D1⟩ := hcut
    clear x0 x1 x2 x3 x4 x5 x6 x7 x8 x9 xf7 xf8 xf9
    have y0 : wc.cell? ⟨k, 0, none⟩ = some (.int .i64 p0) := cell_of_blk K1 rfl
    have y1 : wc.cell? ⟨k, 1, none⟩ = some (.int .i64 p1) := cell_of_blk K1 rfl
    have y2 : wc.cell? ⟨k, 2, none⟩ = some (.int .i64 p2) := cell_of_blk K1 rfl
    have y3 : wc.cell? ⟨k, 3, none⟩ = some (.int .i64 p3) := cell_of_blk K1 rfl
    have y4 : wc.cell? ⟨k, 4, none⟩ = some (.int .i64 p4) := cell_of_blk K1 rfl
    have y5 : wc.cell? ⟨k, 5, none⟩ = some (.int .i64 p5) := cell_of_blk K1 rfl
    have y6 : wc.cell? ⟨k, 6, none⟩ = some (.int .i64 th) := cell_of_blk K1 rfl
    have y7 : wc.cell? ⟨k, 7, none⟩ = some (.int .i64 2) := cell_of_blk K1 rfl
    have y8 : wc.cell? ⟨k, 8, none⟩ = some (.int .u64 cl) := cell_of_blk K1 rfl
    have y9 : wc.cell? ⟨k, 9, none⟩ = some (.int .u64 st) := cell_of_blk K1 rfl
    have yf7 := free_of_blk (i := 7) K1
    have yf8 := free_of_blk (i := 8) K1
    have yf9 := free_of_blk (i := 9) K1

    go_wp2_with fail
    refine (load_c M1 _).mono ?_; rintro e w2 ⟨rfl, M2, d2⟩
    have K2 := d2.at K1 (by simp; omega)
    have HD : Hid (Mod [a, b, k] w w2) := (D1.weak _).then d2 (by simp)
    have HM := Lib.hid M2
    clear y0 y1 y2 y3 y4 y5 y6 y7 y8 y9 yf7 yf8 yf9 D1 d2 M1 M2 K1
    have z0 : w2.cell? ⟨k, 0, none⟩ = some (.int .i64 p0) := cell_of_blk K2 rfl
    have z1 : w2.cell? ⟨k, 1, none⟩ = some (.int .i64 p1) := cell_of_blk K2 rfl
    have z2 : w2.cell? ⟨k, 2, none⟩ = some (.int .i64 p2) := cell_of_blk K2 rfl
    have z3 : w2.cell? ⟨k, 3, none⟩ = some (.int .i64 p3) := cell_of_blk K2 rfl
    have z4 : w2.cell? ⟨k, 4, none⟩ = some (.int .i64 p4) := cell_of_blk K2 rfl
    have z5 : w2.cell? ⟨k, 5, none⟩ = some (.int .i64 p5) := cell_of_blk K2 rfl
    have z6 : w2.cell? ⟨k, 6, none⟩ = some (.int .i64 th) := cell_of_blk K2 rfl
    have z7 : w2.cell? ⟨k, 7, none⟩ = some (.int .i64 2) := cell_of_blk K2 rfl
    have z8 : w2.cell? ⟨k, 8, none⟩ = some (.int .u64 cl) := cell_of_blk K2 rfl
    have z9 : w2.cell? ⟨k, 9, none⟩ = some (.int .u64 st) := cell_of_blk K2 rfl
    have zf7 := free_of_blk (i := 7) K2
    have zf8 := free_of_blk (i := 8) K2
    have zf9 := free_of_blk (i := 9) K2

    go_wp2
    go_ret2
    exact ⟨rfl, ((HM.out.other _ _ _ (Ne.symm hka) (Ne.symm hkb)).other _ _ _ (Ne.symm hka) (Ne.symm hkb)), blk_setCell_same _ (blk_setCell_same _ K2), Mod.trans HD.out (by repeat (first | with_reducible exact Mod.refl _ _ | with_reducible refine Mod.setCell ?_ _ _ (.inl (by simp))))⟩

set_option maxRecDepth 100000 in
set_option maxHeartbeats 2000000 in
theorem com2bad_c {a b k : Nat} {s : MemS} {w : World} (hM : MemAt 142 w a b s) (p0 p1 p2 p3 p4 p5 th cl st : Int) (hk : w.heap[k]? = some (.cells #[.int .i64 p0, .int .i64 p1, .int .i64 p2, .int .i64 p3, .int .i64 p4, .int .i64 p5, .int .i64 th, .int .i64 2, .int .u64 cl, .int .u64 st] 160 (0, 0))) (hq : (plErr p3 th == 100) = false) (h0 : (s.acc p2 != 0) = true) :
    Calls Try.prog 57 #[.pointer (some ⟨k, 0, none⟩), .pointer (some ⟨a, 0, none⟩)] w fun e w' => e = .returned (.tuple #[.bool false, .int .i64 (s.acc p2)]) ∧ MemAt 142 w' a b (s.load p2) ∧ w'.heap[k]? = some (.cells #[.int .i64 p0, .int .i64 p1, .int .i64 p2, .int .i64 p3, .int .i64 p4, .int .i64 p5, .int .i64 th, .int .i64 2, .int .u64 cl, .int .u64 (s.got p2)] 160 (0, 0)) ∧ Mod [a, b, k] w w' := by
  have ha := hM.lta
  have hb := hM.ltb
  have hkl := lt_of_block hk
  have hka : k ≠ a := blk_ne hk hM.hd (by decide)
  have hkb : k ≠ b := blk_ne hk hM.ws (by decide)
  have x0 : w.cell? ⟨k, 0, none⟩ = some (.int .i64 p0) := cell_of_blk hk rfl
  have x1 : w.cell? ⟨k, 1, none⟩ = some (.int .i64 p1) := cell_of_blk hk rfl
  have x2 : w.cell? ⟨k, 2, none⟩ = some (.int .i64 p2) := cell_of_blk hk rfl
  have x3 : w.cell? ⟨k, 3, none⟩ = some (.int .i64 p3) := cell_of_blk hk rfl
  have x4 : w.cell? ⟨k, 4, none⟩ = some (.int .i64 p4) := cell_of_blk hk rfl
  have x5 : w.cell? ⟨k, 5, none⟩ = some (.int .i64 p5) := cell_of_blk hk rfl
  have x6 : w.cell? ⟨k, 6, none⟩ = some (.int .i64 th) := cell_of_blk hk rfl
  have x7 : w.cell? ⟨k, 7, none⟩ = some (.int .i64 2) := cell_of_blk hk rfl
  have x8 : w.cell? ⟨k, 8, none⟩ = some (.int .u64 cl) := cell_of_blk hk rfl
  have x9 : w.cell? ⟨k, 9, none⟩ = some (.int .u64 st) := cell_of_blk hk rfl
  have xf7 := free_of_blk (i := 7) hk
  have xf8 := free_of_blk (i := 8) hk
  have xf9 := free_of_blk (i := 9) hk
  go_enter Try.func57, Try.ntmps57
  go_upto_region 3 with fail
  go_cut [6, 7] (fun x y wx => x = .int .i64 (plAt p3 th) ∧ y = .int .i64 (plErr p3 th) ∧ MemAt 142 wx a b s ∧ wx.heap[k]? = some (.cells #[.int .i64 p0, .int .i64 p1, .int .i64 p2, .int .i64 p3, .int .i64 p4, .int .i64 p5, .int .i64 th, .int .i64 2, .int .u64 cl, .int .u64 st] 160 (0, 0)) ∧ Mod [] w wx)
  case first =>
    go_region_with (go_at_call 113; refine (place13 _ _ _ _ _ _ _ _).mono ?_; rintro e w1 ⟨rfl, rfl⟩)
    all_goals
      go_wp2_with fail
      go_meet
      exact ⟨rfl, rfl, by repeat (first | exact hM | refine MemAt.drew ?_ | refine MemAt.alloc ?_ _), blk_alloc_old _ hk, (by repeat (first | with_reducible exact Mod.refl _ _ | with_reducible assumption | with_reducible refine Mod.drew ?_ | with_reducible refine Mod.alloc ?_ _ | with_reducible refine Mod.setCell ?_ _ _ (.inl (by simp))))⟩
  case rest =>
    obtain ⟨rfl, rfl, M1, K1, D1⟩ := hcut
    clear x0 x1 x2 x3 x4 x5 x6 x7 x8 x9 xf7 xf8 xf9
    have y0 : wc.cell? ⟨k, 0, none⟩ = some (.int .i64 p0) := cell_of_blk K1 rfl
    have y1 : wc.cell? ⟨k, 1, none⟩ = some (.int .i64 p1) := cell_of_blk K1 rfl
    have y2 : wc.cell? ⟨k, 2, none⟩ = some (.int .i64 p2) := cell_of_blk K1 rfl
    have y3 : wc.cell? ⟨k, 3, none⟩ = some (.int .i64 p3) := cell_of_blk K1 rfl
    have y4 : wc.cell? ⟨k, 4, none⟩ = some (.int .i64 p4) := cell_of_blk K1 rfl
    have y5 : wc.cell? ⟨k, 5, none⟩ = some (.int .i64 p5) := cell_of_blk K1 rfl
    have y6 : wc.cell? ⟨k, 6, none⟩ = some (.int .i64 th) := cell_of_blk K1 rfl
    have y7 : wc.cell? ⟨k, 7, none⟩ = some (.int .i64 2) := cell_of_blk K1 rfl
    have y8 : wc.cell? ⟨k, 8, none⟩ = some (.int .u64 cl) := cell_of_blk K1 rfl
    have y9 : wc.cell? ⟨k, 9, none⟩ = some (.int .u64 st) := cell_of_blk K1 rfl
    have yf7 := free_of_blk (i := 7) K1
    have yf8 := free_of_blk (i := 8) K1
    have yf9 := free_of_blk (i := 9) K1

    go_wp2_with fail
    refine (load_c M1 _).mono ?_; rintro e w2 ⟨rfl, M2, d2⟩
    have K2 := d2.at K1 (by simp; omega)
    have HD : Hid (Mod [a, b, k] w w2) := (D1.weak _).then d2 (by simp)
    have HM := Lib.hid M2
    clear y0 y1 y2 y3 y4 y5 y6 y7 y8 y9 yf7 yf8 yf9 D1 d2 M1 M2 K1
    have z0 : w2.cell? ⟨k, 0, none⟩ = some (.int .i64 p0) := cell_of_blk K2 rfl
    have z1 : w2.cell? ⟨k, 1, none⟩ = some (.int .i64 p1) := cell_of_blk K2 rfl
    have z2 : w2.cell? ⟨k, 2, none⟩ = some (.int .i64 p2) := cell_of_blk K2 rfl
    have z3 : w2.cell? ⟨k, 3, none⟩ = some (.int .i64 p3) := cell_of_blk K2 rfl
    have z4 : w2.cell? ⟨k, 4, none⟩ = some (.int .i64 p4) := cell_of_blk K2 rfl
    have z5 : w2.cell? ⟨k, 5, none⟩ = some (.int .i64 p5) := cell_of_blk K2 rfl
    have z6 : w2.cell? ⟨k, 6, none⟩ = some (.int .i64 th) := cell_of_blk K2 rfl
    have z7 : w2.cell? ⟨k, 7, none⟩ = some (.int .i64 2) := cell_of_blk K2 rfl
    have z8 : w2.cell? ⟨k, 8, none⟩ = some (.int .u64 cl) := cell_of_blk K2 rfl
    have z9 : w2.cell? ⟨k, 9, none⟩ = some (.int .u64 st) := cell_of_blk K2 rfl
    have zf7 := free_of_blk (i := 7) K2
    have zf8 := free_of_blk (i := 8) K2
    have zf9 := free_of_blk (i := 9) K2

    go_wp2
    go_ret2
    exact ⟨rfl, (HM.out.other _ _ _ (Ne.symm hka) (Ne.symm hkb)), blk_setCell_same _ K2, Mod.trans HD.out (by repeat (first | with_reducible exact Mod.refl _ _ | with_reducible refine Mod.setCell ?_ _ _ (.inl (by simp))))⟩

set_option maxRecDepth 100000 in
set_option maxHeartbeats 2000000 in
theorem com1place_c {a b k : Nat} {s : MemS} {w : World} (hM : MemAt 142 w a b s) (p0 p1 p2 p3 p4 p5 th cl st : Int) (hk : w.heap[k]? = some (.cells #[.int .i64 p0, .int .i64 p1, .int .i64 p2, .int .i64 p3, .int .i64 p4, .int .i64 p5, .int .i64 th, .int .i64 1, .int .u64 cl, .int .u64 st] 160 (0, 0))) (he : plErr p3 th = 30) :
    Calls Try.prog 57 #[.pointer (some ⟨k, 0, none⟩), .pointer (some ⟨a, 0, none⟩)] w fun e w' => e = .returned (.tuple #[.bool false, .int .i64 30]) ∧ MemAt 142 w' a b (s) ∧ w'.heap[k]? = some (.cells #[.int .i64 p0, .int .i64 p1, .int .i64 p2, .int .i64 p3, .int .i64 p4, .int .i64 p5, .int .i64 th, .int .i64 1, .int .u64 cl, .int .u64 st] 160 (0, 0)) ∧ Mod [a, b, k] w w' := by
  have ha := hM.lta
  have hb := hM.ltb
  have hkl := lt_of_block hk
  have hka : k ≠ a := blk_ne hk hM.hd (by decide)
  have hkb : k ≠ b := blk_ne hk hM.ws (by decide)
  have x0 : w.cell? ⟨k, 0, none⟩ = some (.int .i64 p0) := cell_of_blk hk rfl
  have x1 : w.cell? ⟨k, 1, none⟩ = some (.int .i64 p1) := cell_of_blk hk rfl
  have x2 : w.cell? ⟨k, 2, none⟩ = some (.int .i64 p2) := cell_of_blk hk rfl
  have x3 : w.cell? ⟨k, 3, none⟩ = some (.int .i64 p3) := cell_of_blk hk rfl
  have x4 : w.cell? ⟨k, 4, none⟩ = some (.int .i64 p4) := cell_of_blk hk rfl
  have x5 : w.cell? ⟨k, 5, none⟩ = some (.int .i64 p5) := cell_of_blk hk rfl
  have x6 : w.cell? ⟨k, 6, none⟩ = some (.int .i64 th) := cell_of_blk hk rfl
  have x7 : w.cell? ⟨k, 7, none⟩ = some (.int .i64 1) := cell_of_blk hk rfl
  have x8 : w.cell? ⟨k, 8, none⟩ = some (.int .u64 cl) := cell_of_blk hk rfl
  have x9 : w.cell? ⟨k, 9, none⟩ = some (.int .u64 st) := cell_of_blk hk rfl
  have xf7 := free_of_blk (i := 7) hk
  have xf8 := free_of_blk (i := 8) hk
  have xf9 := free_of_blk (i := 9) hk
  have He := Lib.hid he; clear he
  go_enter Try.func57, Try.ntmps57
  go_upto_region 3 with fail
  go_cut [6, 7] (fun x y wx => x = .int .i64 (plAt p3 th) ∧ y = .int .i64 (plErr p3 th) ∧ MemAt 142 wx a b s ∧ wx.heap[k]? = some (.cells #[.int .i64 p0, .int .i64 p1, .int .i64 p2, .int .i64 p3, .int .i64 p4, .int .i64 p5, .int .i64 th, .int .i64 1, .int .u64 cl, .int .u64 st] 160 (0, 0)) ∧ Mod [] w wx)
  case first =>
    go_region_with (go_at_call 113; refine (place13 _ _ _ _ _ _ _ _).mono ?_; rintro e w1 ⟨rfl, rfl⟩)
    all_goals
      go_wp2_with fail
      go_meet
      exact ⟨rfl, rfl, by repeat (first | exact hM | refine MemAt.drew ?_ | refine MemAt.alloc ?_ _), blk_alloc_old _ hk, (by repeat (first | with_reducible exact Mod.refl _ _ | with_reducible assumption | with_reducible refine Mod.drew ?_ | with_reducible refine Mod.alloc ?_ _ | with_reducible refine Mod.setCell ?_ _ _ (.inl (by simp))))⟩
  case rest =>
    obtain ⟨rfl, rfl, M1, K1, D1⟩ := hcut
    clear x0 x1 x2 x3 x4 x5 x6 x7 x8 x9 xf7 xf8 xf9
    rw [He.out]
    have y0 : wc.cell? ⟨k, 0, none⟩ = some (.int .i64 p0) := cell_of_blk K1 rfl
    have y1 : wc.cell? ⟨k, 1, none⟩ = some (.int .i64 p1) := cell_of_blk K1 rfl
    have y2 : wc.cell? ⟨k, 2, none⟩ = some (.int .i64 p2) := cell_of_blk K1 rfl
    have y3 : wc.cell? ⟨k, 3, none⟩ = some (.int .i64 p3) := cell_of_blk K1 rfl
    have y4 : wc.cell? ⟨k, 4, none⟩ = some (.int .i64 p4) := cell_of_blk K1 rfl
    have y5 : wc.cell? ⟨k, 5, none⟩ = some (.int .i64 p5) := cell_of_blk K1 rfl
    have y6 : wc.cell? ⟨k, 6, none⟩ = some (.int .i64 th) := cell_of_blk K1 rfl
    have y7 : wc.cell? ⟨k, 7, none⟩ = some (.int .i64 1) := cell_of_blk K1 rfl
    have y8 : wc.cell? ⟨k, 8, none⟩ = some (.int .u64 cl) := cell_of_blk K1 rfl
    have y9 : wc.cell? ⟨k, 9, none⟩ = some (.int .u64 st) := cell_of_blk K1 rfl
    have yf7 := free_of_blk (i := 7) K1
    have yf8 := free_of_blk (i := 8) K1
    have yf9 := free_of_blk (i := 9) K1

    go_wp2
    go_ret2
    exact ⟨rfl, M1, K1, D1.weak _⟩

set_option maxRecDepth 100000 in
set_option maxHeartbeats 2000000 in
theorem com1ok_c {a b k : Nat} {s : MemS} {w : World} (hM : MemAt 142 w a b s) (p0 p1 p2 p3 p4 p5 th cl st : Int) (hk : w.heap[k]? = some (.cells #[.int .i64 p0, .int .i64 p1, .int .i64 p2, .int .i64 p3, .int .i64 p4, .int .i64 p5, .int .i64 th, .int .i64 1, .int .u64 cl, .int .u64 st] 160 (0, 0))) (he : plErr p3 th = 0) (h0 : s.acc (p3 + th) = 0) :
    Calls Try.prog 57 #[.pointer (some ⟨k, 0, none⟩), .pointer (some ⟨a, 0, none⟩)] w fun e w' => e = .returned (.tuple #[.bool false, .int .i64 0]) ∧ MemAt 142 w' a b (s.store (p3 + th) (IntKind.u64.wrap (cl + 1))) ∧ w'.heap[k]? = some (.cells #[.int .i64 p0, .int .i64 p1, .int .i64 p2, .int .i64 p3, .int .i64 p4, .int .i64 p5, .int .i64 th, .int .i64 2, .int .u64 cl, .int .u64 st] 160 (0, 0)) ∧ Mod [a, b, k] w w' := by
  have ha := hM.lta
  have hb := hM.ltb
  have hkl := lt_of_block hk
  have hka : k ≠ a := blk_ne hk hM.hd (by decide)
  have hkb : k ≠ b := blk_ne hk hM.ws (by decide)
  have x0 : w.cell? ⟨k, 0, none⟩ = some (.int .i64 p0) := cell_of_blk hk rfl
  have x1 : w.cell? ⟨k, 1, none⟩ = some (.int .i64 p1) := cell_of_blk hk rfl
  have x2 : w.cell? ⟨k, 2, none⟩ = some (.int .i64 p2) := cell_of_blk hk rfl
  have x3 : w.cell? ⟨k, 3, none⟩ = some (.int .i64 p3) := cell_of_blk hk rfl
  have x4 : w.cell? ⟨k, 4, none⟩ = some (.int .i64 p4) := cell_of_blk hk rfl
  have x5 : w.cell? ⟨k, 5, none⟩ = some (.int .i64 p5) := cell_of_blk hk rfl
  have x6 : w.cell? ⟨k, 6, none⟩ = some (.int .i64 th) := cell_of_blk hk rfl
  have x7 : w.cell? ⟨k, 7, none⟩ = some (.int .i64 1) := cell_of_blk hk rfl
  have x8 : w.cell? ⟨k, 8, none⟩ = some (.int .u64 cl) := cell_of_blk hk rfl
  have x9 : w.cell? ⟨k, 9, none⟩ = some (.int .u64 st) := cell_of_blk hk rfl
  have xf7 := free_of_blk (i := 7) hk
  have xf8 := free_of_blk (i := 8) hk
  have xf9 := free_of_blk (i := 9) hk
  have hat : plAt p3 th = p3 + th := if_pos he
  have Hat := Lib.hid hat; clear hat
  have He := Lib.hid he; clear he
  go_enter Try.func57, Try.ntmps57
  go_upto_region 3 with fail
  go_cut [6, 7] (fun x y wx => x = .int .i64 (plAt p3 th) ∧ y = .int .i64 (plErr p3 th) ∧ MemAt 142 wx a b s ∧ wx.heap[k]? = some (.cells #[.int .i64 p0, .int .i64 p1, .int .i64 p2, .int .i64 p3, .int .i64 p4, .int .i64 p5, .int .i64 th, .int .i64 1, .int .u64 cl, .int .u64 st] 160 (0, 0)) ∧ Mod [] w wx)
  case first =>
    go_region_with (go_at_call 113; refine (place13 _ _ _ _ _ _ _ _).mono ?_; rintro e w1 ⟨rfl, rfl⟩)
    all_goals
      go_wp2_with fail
      go_meet
      exact ⟨rfl, rfl, by repeat (first | exact hM | refine MemAt.drew ?_ | refine MemAt.alloc ?_ _), blk_alloc_old _ hk, (by repeat (first | with_reducible exact Mod.refl _ _ | with_reducible assumption | with_reducible refine Mod.drew ?_ | with_reducible refine Mod.alloc ?_ _ | with_reducible refine Mod.setCell ?_ _ _ (.inl (by simp))))⟩
  case rest =>
    obtain ⟨rfl, rfl, M1, K1, D1⟩ := hcut
    clear x0 x1 x2 x3 x4 x5 x6 x7 x8 x9 xf7 xf8 xf9
    rw [He.out, Hat.out]
    have y0 : wc.cell? ⟨k, 0, none⟩ = some (.int .i64 p0) := cell_of_blk K1 rfl
    have y1 : wc.cell? ⟨k, 1, none⟩ = some (.int .i64 p1) := cell_of_blk K1 rfl
    have y2 : wc.cell? ⟨k, 2, none⟩ = some (.int .i64 p2) := cell_of_blk K1 rfl
    have y3 : wc.cell? ⟨k, 3, none⟩ = some (.int .i64 p3) := cell_of_blk K1 rfl
    have y4 : wc.cell? ⟨k, 4, none⟩ = some (.int .i64 p4) := cell_of_blk K1 rfl
    have y5 : wc.cell? ⟨k, 5, none⟩ = some (.int .i64 p5) := cell_of_blk K1 rfl
    have y6 : wc.cell? ⟨k, 6, none⟩ = some (.int .i64 th) := cell_of_blk K1 rfl
    have y7 : wc.cell? ⟨k, 7, none⟩ = some (.int .i64 1) := cell_of_blk K1 rfl
    have y8 : wc.cell? ⟨k, 8, none⟩ = some (.int .u64 cl) := cell_of_blk K1 rfl
    have y9 : wc.cell? ⟨k, 9, none⟩ = some (.int .u64 st) := cell_of_blk K1 rfl
    have yf7 := free_of_blk (i := 7) K1
    have yf8 := free_of_blk (i := 8) K1
    have yf9 := free_of_blk (i := 9) K1

    go_wp2_with fail
    refine (store_c M1 _ _).mono ?_; rintro e w2 ⟨rfl, M2, d2⟩
    have K2 := d2.at K1 (by simp; omega)
    have HD : Hid (Mod [a, b, k] w w2) := (D1.weak _).then d2 (by simp)
    have HM := Lib.hid M2
    clear y0 y1 y2 y3 y4 y5 y6 y7 y8 y9 yf7 yf8 yf9 D1 d2 M1 M2 K1
    have z0 : w2.cell? ⟨k, 0, none⟩ = some (.int .i64 p0) := cell_of_blk K2 rfl
    have z1 : w2.cell? ⟨k, 1, none⟩ = some (.int .i64 p1) := cell_of_blk K2 rfl
    have z2 : w2.cell? ⟨k, 2, none⟩ = some (.int .i64 p2) := cell_of_blk K2 rfl
    have z3 : w2.cell? ⟨k, 3, none⟩ = some (.int .i64 p3) := cell_of_blk K2 rfl
    have z4 : w2.cell? ⟨k, 4, none⟩ = some (.int .i64 p4) := cell_of_blk K2 rfl
    have z5 : w2.cell? ⟨k, 5, none⟩ = some (.int .i64 p5) := cell_of_blk K2 rfl
    have z6 : w2.cell? ⟨k, 6, none⟩ = some (.int .i64 th) := cell_of_blk K2 rfl
    have z7 : w2.cell? ⟨k, 7, none⟩ = some (.int .i64 1) := cell_of_blk K2 rfl
    have z8 : w2.cell? ⟨k, 8, none⟩ = some (.int .u64 cl) := cell_of_blk K2 rfl
    have z9 : w2.cell? ⟨k, 9, none⟩ = some (.int .u64 st) := cell_of_blk K2 rfl
    have zf7 := free_of_blk (i := 7) K2
    have zf8 := free_of_blk (i := 8) K2
    have zf9 := free_of_blk (i := 9) K2

    go_wp2
    go_ret2
    exact ⟨rfl, (HM.out.other _ _ _ (Ne.symm hka) (Ne.symm hkb)), blk_setCell_same _ K2, Mod.trans HD.out (by repeat (first | with_reducible exact Mod.refl _ _ | with_reducible refine Mod.setCell ?_ _ _ (.inl (by simp))))⟩

set_option maxRecDepth 100000 in
set_option maxHeartbeats 2000000 in
theorem com1bad_c {a b k : Nat} {s : MemS} {w : World} (hM : MemAt 142 w a b s) (p0 p1 p2 p3 p4 p5 th cl st : Int) (hk : w.heap[k]? = some (.cells #[.int .i64 p0, .int .i64 p1, .int .i64 p2, .int .i64 p3, .int .i64 p4, .int .i64 p5, .int .i64 th, .int .i64 1, .int .u64 cl, .int .u64 st] 160 (0, 0))) (he : plErr p3 th = 0) (h0 : (s.acc (p3 + th) != 0) = true) :
    Calls Try.prog 57 #[.pointer (some ⟨k, 0, none⟩), .pointer (some ⟨a, 0, none⟩)] w fun e w' => e = .returned (.tuple #[.bool false, .int .i64 (s.acc (p3 + th))]) ∧ MemAt 142 w' a b (s.store (p3 + th) (IntKind.u64.wrap (cl + 1))) ∧ w'.heap[k]? = some (.cells #[.int .i64 p0, .int .i64 p1, .int .i64 p2, .int .i64 p3, .int .i64 p4, .int .i64 p5, .int .i64 th, .int .i64 1, .int .u64 cl, .int .u64 st] 160 (0, 0)) ∧ Mod [a, b, k] w w' := by
  have ha := hM.lta
  have hb := hM.ltb
  have hkl := lt_of_block hk
  have hka : k ≠ a := blk_ne hk hM.hd (by decide)
  have hkb : k ≠ b := blk_ne hk hM.ws (by decide)
  have x0 : w.cell? ⟨k, 0, none⟩ = some (.int .i64 p0) := cell_of_blk hk rfl
  have x1 : w.cell? ⟨k, 1, none⟩ = some (.int .i64 p1) := cell_of_blk hk rfl
  have x2 : w.cell? ⟨k, 2, none⟩ = some (.int .i64 p2) := cell_of_blk hk rfl
  have x3 : w.cell? ⟨k, 3, none⟩ = some (.int .i64 p3) := cell_of_blk hk rfl
  have x4 : w.cell? ⟨k, 4, none⟩ = some (.int .i64 p4) := cell_of_blk hk rfl
  have x5 : w.cell? ⟨k, 5, none⟩ = some (.int .i64 p5) := cell_of_blk hk rfl
  have x6 : w.cell? ⟨k, 6, none⟩ = some (.int .i64 th) := cell_of_blk hk rfl
  have x7 : w.cell? ⟨k, 7, none⟩ = some (.int .i64 1) := cell_of_blk hk rfl
  have x8 : w.cell? ⟨k, 8, none⟩ = some (.int .u64 cl) := cell_of_blk hk rfl
  have x9 : w.cell? ⟨k, 9, none⟩ = some (.int .u64 st) := cell_of_blk hk rfl
  have xf7 := free_of_blk (i := 7) hk
  have xf8 := free_of_blk (i := 8) hk
  have xf9 := free_of_blk (i := 9) hk
  have hat : plAt p3 th = p3 + th := if_pos he
  have Hat := Lib.hid hat; clear hat
  have He := Lib.hid he; clear he
  go_enter Try.func57, Try.ntmps57
  go_upto_region 3 with fail
  go_cut [6, 7] (fun x y wx => x = .int .i64 (plAt p3 th) ∧ y = .int .i64 (plErr p3 th) ∧ MemAt 142 wx a b s ∧ wx.heap[k]? = some (.cells #[.int .i64 p0, .int .i64 p1, .int .i64 p2, .int .i64 p3, .int .i64 p4, .int .i64 p5, .int .i64 th, .int .i64 1, .int .u64 cl, .int .u64 st] 160 (0, 0)) ∧ Mod [] w wx)
  case first =>
    go_region_with (go_at_call 113; refine (place13 _ _ _ _ _ _ _ _).mono ?_; rintro e w1 ⟨rfl, rfl⟩)
    all_goals
      go_wp2_with fail
      go_meet
      exact ⟨rfl, rfl, by repeat (first | exact hM | refine MemAt.drew ?_ | refine MemAt.alloc ?_ _), blk_alloc_old _ hk, (by repeat (first | with_reducible exact Mod.refl _ _ | with_reducible assumption | with_reducible refine Mod.drew ?_ | with_reducible refine Mod.alloc ?_ _ | with_reducible refine Mod.setCell ?_ _ _ (.inl (by simp))))⟩
  case rest =>
    obtain ⟨rfl, rfl, M1, K1, D1⟩ := hcut
    clear x0 x1 x2 x3 x4 x5 x6 x7 x8 x9 xf7 xf8 xf9
    rw [He.out, Hat.out]
    have y0 : wc.cell? ⟨k, 0, none⟩ = some (.int .i64 p0) := cell_of_blk K1 rfl
    have y1 : wc.cell? ⟨k, 1, none⟩ = some (.int .i64 p1) := cell_of_blk K1 rfl
    have y2 : wc.cell? ⟨k, 2, none⟩ = some (.int .i64 p2) := cell_of_blk K1 rfl
    have y3 : wc.cell? ⟨k, 3, none⟩ = some (.int .i64 p3) := cell_of_blk K1 rfl
    have y4 : wc.cell? ⟨k, 4, none⟩ = some (.int .i64 p4) := cell_of_blk K1 rfl
    have y5 : wc.cell? ⟨k, 5, none⟩ = some (.int .i64 p5) := cell_of_blk K1 rfl
    have y6 : wc.cell? ⟨k, 6, none⟩ = some (.int .i64 th) := cell_of_blk K1 rfl
    have y7 : wc.cell? ⟨k, 7, none⟩ = some (.int .i64 1) := cell_of_blk K1 rfl
    have y8 : wc.cell? ⟨k, 8, none⟩ = some (.int .u64 cl) := cell_of_blk K1 rfl
    have y9 : wc.cell? ⟨k, 9, none⟩ = some (.int .u64 st) := cell_of_blk K1 rfl
    have yf7 := free_of_blk (i := 7) K1
    have yf8 := free_of_blk (i := 8) K1
    have yf9 := free_of_blk (i := 9) K1

    go_wp2_with fail
    refine (store_c M1 _ _).mono ?_; rintro e w2 ⟨rfl, M2, d2⟩
    have K2 := d2.at K1 (by simp; omega)
    have HD : Hid (Mod [a, b, k] w w2) := (D1.weak _).then d2 (by simp)
    have HM := Lib.hid M2
    clear y0 y1 y2 y3 y4 y5 y6 y7 y8 y9 yf7 yf8 yf9 D1 d2 M1 M2 K1
    have z0 : w2.cell? ⟨k, 0, none⟩ = some (.int .i64 p0) := cell_of_blk K2 rfl
    have z1 : w2.cell? ⟨k, 1, none⟩ = some (.int .i64 p1) := cell_of_blk K2 rfl
    have z2 : w2.cell? ⟨k, 2, none⟩ = some (.int .i64 p2) := cell_of_blk K2 rfl
    have z3 : w2.cell? ⟨k, 3, none⟩ = some (.int .i64 p3) := cell_of_blk K2 rfl
    have z4 : w2.cell? ⟨k, 4, none⟩ = some (.int .i64 p4) := cell_of_blk K2 rfl
    have z5 : w2.cell? ⟨k, 5, none⟩ = some (.int .i64 p5) := cell_of_blk K2 rfl
    have z6 : w2.cell? ⟨k, 6, none⟩ = some (.int .i64 th) := cell_of_blk K2 rfl
    have z7 : w2.cell? ⟨k, 7, none⟩ = some (.int .i64 1) := cell_of_blk K2 rfl
    have z8 : w2.cell? ⟨k, 8, none⟩ = some (.int .u64 cl) := cell_of_blk K2 rfl
    have z9 : w2.cell? ⟨k, 9, none⟩ = some (.int .u64 st) := cell_of_blk K2 rfl
    have zf7 := free_of_blk (i := 7) K2
    have zf8 := free_of_blk (i := 8) K2
    have zf9 := free_of_blk (i := 9) K2

    go_wp2
    go_ret2
    exact ⟨rfl, HM.out, K2, Mod.trans HD.out (by repeat (first | with_reducible exact Mod.refl _ _ | with_reducible refine Mod.setCell ?_ _ _ (.inl (by simp))))⟩

set_option maxRecDepth 100000 in
set_option maxHeartbeats 2000000 in
theorem comT_r {a b k : Nat} {s : MemS} {w : World} (hM : MemAt 148 w a b s) (p0 p1 p2 p3 p4 p5 th cl st : Int) (n : Int) (hk : w.heap[k]? = some (.cells #[.int .i64 p0, .int .i64 p1, .int .i64 p2, .int .i64 p3, .int .i64 p4, .int .i64 p5, .int .i64 th, .int .i64 n, .int .u64 cl, .int .u64 st] 168 (0, 0))) (hn3 : n ≤ 2) (h : th < 0 ∨ 8 ≤ th) :
    Calls Try.prog 117 #[.pointer (some ⟨k, 0, none⟩), .pointer (some ⟨a, 0, none⟩)] w fun e w' => e = .returned (.tuple #[.bool false, .int .i64 100]) ∧ MemAt 148 w' a b (s) ∧ w'.heap[k]? = some (.cells #[.int .i64 p0, .int .i64 p1, .int .i64 p2, .int .i64 p3, .int .i64 p4, .int .i64 p5, .int .i64 th, .int .i64 n, .int .u64 cl, .int .u64 st] 168 (0, 0)) ∧ Mod [a, b, k] w w' := by
  have ha := hM.lta
  have hb := hM.ltb
  have hkl := lt_of_block hk
  have hka : k ≠ a := blk_ne hk hM.hd (by decide)
  have hkb : k ≠ b := blk_ne hk hM.ws (by decide)
  have x0 : w.cell? ⟨k, 0, none⟩ = some (.int .i64 p0) := cell_of_blk hk rfl
  have x1 : w.cell? ⟨k, 1, none⟩ = some (.int .i64 p1) := cell_of_blk hk rfl
  have x2 : w.cell? ⟨k, 2, none⟩ = some (.int .i64 p2) := cell_of_blk hk rfl
  have x3 : w.cell? ⟨k, 3, none⟩ = some (.int .i64 p3) := cell_of_blk hk rfl
  have x4 : w.cell? ⟨k, 4, none⟩ = some (.int .i64 p4) := cell_of_blk hk rfl
  have x5 : w.cell? ⟨k, 5, none⟩ = some (.int .i64 p5) := cell_of_blk hk rfl
  have x6 : w.cell? ⟨k, 6, none⟩ = some (.int .i64 th) := cell_of_blk hk rfl
  have x7 : w.cell? ⟨k, 7, none⟩ = some (.int .i64 n) := cell_of_blk hk rfl
  have x8 : w.cell? ⟨k, 8, none⟩ = some (.int .u64 cl) := cell_of_blk hk rfl
  have x9 : w.cell? ⟨k, 9, none⟩ = some (.int .u64 st) := cell_of_blk hk rfl
  have xf7 := free_of_blk (i := 7) hk
  have xf8 := free_of_blk (i := 8) hk
  have xf9 := free_of_blk (i := 9) hk
  have H := Lib.hid h; clear h
  go_enter Try.func117, Try.ntmps117
  go_wp2_with (go_at_call 143; refine (maybe13_no _ H.out _).mono ?_; rintro e w1 ⟨rfl, hw⟩; have hw2 := hw.symm; clear hw; subst hw2)
  go_ret2
  exact ⟨rfl, hM, hk, Mod.refl _ _⟩

set_option maxRecDepth 100000 in
set_option maxHeartbeats 2000000 in
theorem com0ok_r {a b k : Nat} {s : MemS} {w : World} (hM : MemAt 148 w a b s) (p0 p1 p2 p3 p4 p5 th cl st : Int) (hk : w.heap[k]? = some (.cells #[.int .i64 p0, .int .i64 p1, .int .i64 p2, .int .i64 p3, .int .i64 p4, .int .i64 p5, .int .i64 th, .int .i64 0, .int .u64 cl, .int .u64 st] 168 (0, 0))) (t0 : 0 ≤ th) (t8 : th < 8) (h0 : s.acc p2 = 0) :
    Calls Try.prog 117 #[.pointer (some ⟨k, 0, none⟩), .pointer (some ⟨a, 0, none⟩)] w fun e w' => e = .returned (.tuple #[.bool false, .int .i64 0]) ∧ MemAt 148 w' a b (s.load p2) ∧ w'.heap[k]? = some (.cells #[.int .i64 p0, .int .i64 p1, .int .i64 p2, .int .i64 p3, .int .i64 p4, .int .i64 p5, .int .i64 th, .int .i64 1, .int .u64 (s.got p2), .int .u64 st] 168 (0, 0)) ∧ Mod [a, b, k] w w' := by
  have ha := hM.lta
  have hb := hM.ltb
  have hkl := lt_of_block hk
  have hka : k ≠ a := blk_ne hk hM.hd (by decide)
  have hkb : k ≠ b := blk_ne hk hM.ws (by decide)
  have x0 : w.cell? ⟨k, 0, none⟩ = some (.int .i64 p0) := cell_of_blk hk rfl
  have x1 : w.cell? ⟨k, 1, none⟩ = some (.int .i64 p1) := cell_of_blk hk rfl
  have x2 : w.cell? ⟨k, 2, none⟩ = some (.int .i64 p2) := cell_of_blk hk rfl
  have x3 : w.cell? ⟨k, 3, none⟩ = some (.int .i64 p3) := cell_of_blk hk rfl
  have x4 : w.cell? ⟨k, 4, none⟩ = some (.int .i64 p4) := cell_of_blk hk rfl
  have x5 : w.cell? ⟨k, 5, none⟩ = some (.int .i64 p5) := cell_of_blk hk rfl
  have x6 : w.cell? ⟨k, 6, none⟩ = some (.int .i64 th) := cell_of_blk hk rfl
  have x7 : w.cell? ⟨k, 7, none⟩ = some (.int .i64 0) := cell_of_blk hk rfl
  have x8 : w.cell? ⟨k, 8, none⟩ = some (.int .u64 cl) := cell_of_blk hk rfl
  have x9 : w.cell? ⟨k, 9, none⟩ = some (.int .u64 st) := cell_of_blk hk rfl
  have xf7 := free_of_blk (i := 7) hk
  have xf8 := free_of_blk (i := 8) hk
  have xf9 := free_of_blk (i := 9) hk
  go_enter Try.func117, Try.ntmps117
  go_wp2_with (go_at_call 143; refine (maybe13_yes _ t0 t8 _).mono ?_; rintro e w1 ⟨rfl, hw⟩; have hw2 := hw.symm; clear hw; subst hw2)
  refine (load_r hM _).mono ?_; rintro e w2 ⟨rfl, M2, d2⟩
  have K2 := d2.at hk (by simp; omega)
  have HD : Hid (Mod [a, b, k] w w2) := d2.mono (by simp)
  have HM := Lib.hid M2
  clear x0 x1 x2 x3 x4 x5 x6 x7 x8 x9 xf7 xf8 xf9 d2 hM M2 hk
  have z0 : w2.cell? ⟨k, 0, none⟩ = some (.int .i64 p0) := cell_of_blk K2 rfl
  have z1 : w2.cell? ⟨k, 1, none⟩ = some (.int .i64 p1) := cell_of_blk K2 rfl
  have z2 : w2.cell? ⟨k, 2, none⟩ = some (.int .i64 p2) := cell_of_blk K2 rfl
  have z3 : w2.cell? ⟨k, 3, none⟩ = some (.int .i64 p3) := cell_of_blk K2 rfl
  have z4 : w2.cell? ⟨k, 4, none⟩ = some (.int .i64 p4) := cell_of_blk K2 rfl
  have z5 : w2.cell? ⟨k, 5, none⟩ = some (.int .i64 p5) := cell_of_blk K2 rfl
  have z6 : w2.cell? ⟨k, 6, none⟩ = some (.int .i64 th) := cell_of_blk K2 rfl
  have z7 : w2.cell? ⟨k, 7, none⟩ = some (.int .i64 0) := cell_of_blk K2 rfl
  have z8 : w2.cell? ⟨k, 8, none⟩ = some (.int .u64 cl) := cell_of_blk K2 rfl
  have z9 : w2.cell? ⟨k, 9, none⟩ = some (.int .u64 st) := cell_of_blk K2 rfl
  have zf7 := free_of_blk (i := 7) K2
  have zf8 := free_of_blk (i := 8) K2
  have zf9 := free_of_blk (i := 9) K2

  go_wp2
  go_ret2
  exact ⟨rfl, ((HM.out.other _ _ _ (Ne.symm hka) (Ne.symm hkb)).other _ _ _ (Ne.symm hka) (Ne.symm hkb)), blk_setCell_same _ (blk_setCell_same _ K2), Mod.trans HD.out (by repeat (first | with_reducible exact Mod.refl _ _ | with_reducible refine Mod.setCell ?_ _ _ (.inl (by simp))))⟩

set_option maxRecDepth 100000 in
set_option maxHeartbeats 2000000 in
theorem com0bad_r {a b k : Nat} {s : MemS} {w : World} (hM : MemAt 148 w a b s) (p0 p1 p2 p3 p4 p5 th cl st : Int) (hk : w.heap[k]? = some (.cells #[.int .i64 p0, .int .i64 p1, .int .i64 p2, .int .i64 p3, .int .i64 p4, .int .i64 p5, .int .i64 th, .int .i64 0, .int .u64 cl, .int .u64 st] 168 (0, 0))) (t0 : 0 ≤ th) (t8 : th < 8) (h0 : (s.acc p2 != 0) = true) :
    Calls Try.prog 117 #[.pointer (some ⟨k, 0, none⟩), .pointer (some ⟨a, 0, none⟩)] w fun e w' => e = .returned (.tuple #[.bool false, .int .i64 (s.acc p2)]) ∧ MemAt 148 w' a b (s.load p2) ∧ w'.heap[k]? = some (.cells #[.int .i64 p0, .int .i64 p1, .int .i64 p2, .int .i64 p3, .int .i64 p4, .int .i64 p5, .int .i64 th, .int .i64 0, .int .u64 cl, .int .u64 st] 168 (0, 0)) ∧ Mod [a, b, k] w w' := by
  have ha := hM.lta
  have hb := hM.ltb
  have hkl := lt_of_block hk
  have hka : k ≠ a := blk_ne hk hM.hd (by decide)
  have hkb : k ≠ b := blk_ne hk hM.ws (by decide)
  have x0 : w.cell? ⟨k, 0, none⟩ = some (.int .i64 p0) := cell_of_blk hk rfl
  have x1 : w.cell? ⟨k, 1, none⟩ = some (.int .i64 p1) := cell_of_blk hk rfl
  have x2 : w.cell? ⟨k, 2, none⟩ = some (.int .i64 p2) := cell_of_blk hk rfl
  have x3 : w.cell? ⟨k, 3, none⟩ = some (.int .i64 p3) := cell_of_blk hk rfl
  have x4 : w.cell? ⟨k, 4, none⟩ = some (.int .i64 p4) := cell_of_blk hk rfl
  have x5 : w.cell? ⟨k, 5, none⟩ = some (.int .i64 p5) := cell_of_blk hk rfl
  have x6 : w.cell? ⟨k, 6, none⟩ = some (.int .i64 th) := cell_of_blk hk rfl
  have x7 : w.cell? ⟨k, 7, none⟩ = some (.int .i64 0) := cell_of_blk hk rfl
  have x8 : w.cell? ⟨k, 8, none⟩ = some (.int .u64 cl) := cell_of_blk hk rfl
  have x9 : w.cell? ⟨k, 9, none⟩ = some (.int .u64 st) := cell_of_blk hk rfl
  have xf7 := free_of_blk (i := 7) hk
  have xf8 := free_of_blk (i := 8) hk
  have xf9 := free_of_blk (i := 9) hk
  go_enter Try.func117, Try.ntmps117
  go_wp2_with (go_at_call 143; refine (maybe13_yes _ t0 t8 _).mono ?_; rintro e w1 ⟨rfl, hw⟩; have hw2 := hw.symm; clear hw; subst hw2)
  refine (load_r hM _).mono ?_; rintro e w2 ⟨rfl, M2, d2⟩
  have K2 := d2.at hk (by simp; omega)
  have HD : Hid (Mod [a, b, k] w w2) := d2.mono (by simp)
  have HM := Lib.hid M2
  clear x0 x1 x2 x3 x4 x5 x6 x7 x8 x9 xf7 xf8 xf9 d2 hM M2 hk
  have z0 : w2.cell? ⟨k, 0, none⟩ = some (.int .i64 p0) := cell_of_blk K2 rfl
  have z1 : w2.cell? ⟨k, 1, none⟩ = some (.int .i64 p1) := cell_of_blk K2 rfl
  have z2 : w2.cell? ⟨k, 2, none⟩ = some (.int .i64 p2) := cell_of_blk K2 rfl
  have z3 : w2.cell? ⟨k, 3, none⟩ = some (.int .i64 p3) := cell_of_blk K2 rfl
  have z4 : w2.cell? ⟨k, 4, none⟩ = some (.int .i64 p4) := cell_of_blk K2 rfl
  have z5 : w2.cell? ⟨k, 5, none⟩ = some (.int .i64 p5) := cell_of_blk K2 rfl
  have z6 : w2.cell? ⟨k, 6, none⟩ = some (.int .i64 th) := cell_of_blk K2 rfl
  have z7 : w2.cell? ⟨k, 7, none⟩ = some (.int .i64 0) := cell_of_blk K2 rfl
  have z8 : w2.cell? ⟨k, 8, none⟩ = some (.int .u64 cl) := cell_of_blk K2 rfl
  have z9 : w2.cell? ⟨k, 9, none⟩ = some (.int .u64 st) := cell_of_blk K2 rfl
  have zf7 := free_of_blk (i := 7) K2
  have zf8 := free_of_blk (i := 8) K2
  have zf9 := free_of_blk (i := 9) K2

  go_wp2
  go_ret2
  exact ⟨rfl, HM.out, K2, Mod.trans HD.out (by repeat (first | with_reducible exact Mod.refl _ _ | with_reducible refine Mod.setCell ?_ _ _ (.inl (by simp))))⟩

set_option maxRecDepth 100000 in
set_option maxHeartbeats 2000000 in
theorem com2ok_r {a b k : Nat} {s : MemS} {w : World} (hM : MemAt 148 w a b s) (p0 p1 p2 p3 p4 p5 th cl st : Int) (hk : w.heap[k]? = some (.cells #[.int .i64 p0, .int .i64 p1, .int .i64 p2, .int .i64 p3, .int .i64 p4, .int .i64 p5, .int .i64 th, .int .i64 2, .int .u64 cl, .int .u64 st] 168 (0, 0))) (t0 : 0 ≤ th) (t8 : th < 8) (h0 : s.acc p2 = 0) :
    Calls Try.prog 117 #[.pointer (some ⟨k, 0, none⟩), .pointer (some ⟨a, 0, none⟩)] w fun e w' => e = .returned (.tuple #[.bool true, .int .i64 0]) ∧ MemAt 148 w' a b (s.load p2) ∧ w'.heap[k]? = some (.cells #[.int .i64 p0, .int .i64 p1, .int .i64 p2, .int .i64 p3, .int .i64 p4, .int .i64 p5, .int .i64 th, .int .i64 3, .int .u64 cl, .int .u64 (s.got p2)] 168 (0, 0)) ∧ Mod [a, b, k] w w' := by
  have ha := hM.lta
  have hb := hM.ltb
  have hkl := lt_of_block hk
  have hka : k ≠ a := blk_ne hk hM.hd (by decide)
  have hkb : k ≠ b := blk_ne hk hM.ws (by decide)
  have x0 : w.cell? ⟨k, 0, none⟩ = some (.int .i64 p0) := cell_of_blk hk rfl
  have x1 : w.cell? ⟨k, 1, none⟩ = some (.int .i64 p1) := cell_of_blk hk rfl
  have x2 : w.cell? ⟨k, 2, none⟩ = some (.int .i64 p2) := cell_of_blk hk rfl
  have x3 : w.cell? ⟨k, 3, none⟩ = some (.int .i64 p3) := cell_of_blk hk rfl
  have x4 : w.cell? ⟨k, 4, none⟩ = some (.int .i64 p4) := cell_of_blk hk rfl
  have x5 : w.cell? ⟨k, 5, none⟩ = some (.int .i64 p5) := cell_of_blk hk rfl
  have x6 : w.cell? ⟨k, 6, none⟩ = some (.int .i64 th) := cell_of_blk hk rfl
  have x7 : w.cell? ⟨k, 7, none⟩ = some (.int .i64 2) := cell_of_blk hk rfl
  have x8 : w.cell? ⟨k, 8, none⟩ = some (.int .u64 cl) := cell_of_blk hk rfl
  have x9 : w.cell? ⟨k, 9, none⟩ = some (.int .u64 st) := cell_of_blk hk rfl
  have xf7 := free_of_blk (i := 7) hk
  have xf8 := free_of_blk (i := 8) hk
  have xf9 := free_of_blk (i := 9) hk
  go_enter Try.func117, Try.ntmps117
  go_wp2_with (go_at_call 143; refine (maybe13_yes _ t0 t8 _).mono ?_; rintro e w1 ⟨rfl, hw⟩; have hw2 := hw.symm; clear hw; subst hw2)
  refine (load_r hM _).mono ?_; rintro e w2 ⟨rfl, M2, d2⟩
  have K2 := d2.at hk (by simp; omega)
  have HD : Hid (Mod [a, b, k] w w2) := d2.mono (by simp)
  have HM := Lib.hid M2
  clear x0 x1 x2 x3 x4 x5 x6 x7 x8 x9 xf7 xf8 xf9 d2 hM M2 hk
  have z0 : w2.cell? ⟨k, 0, none⟩ = some (.int .i64 p0) := cell_of_blk K2 rfl
  have z1 : w2.cell? ⟨k, 1, none⟩ = some (.int .i64 p1) := cell_of_blk K2 rfl
  have z2 : w2.cell? ⟨k, 2, none⟩ = some (.int .i64 p2) := cell_of_blk K2 rfl
  have z3 : w2.cell? ⟨k, 3, none⟩ = some (.int .i64 p3) := cell_of_blk K2 rfl
  have z4 : w2.cell? ⟨k, 4, none⟩ = some (.int .i64 p4) := cell_of_blk K2 rfl
  have z5 : w2.cell? ⟨k, 5, none⟩ = some (.int .i64 p5) := cell_of_blk K2 rfl
  have z6 : w2.cell? ⟨k, 6, none⟩ = some (.int .i64 th) := cell_of_blk K2 rfl
  have z7 : w2.cell? ⟨k, 7, none⟩ = some (.int .i64 2) := cell_of_blk K2 rfl
  have z8 : w2.cell? ⟨k, 8, none⟩ = some (.int .u64 cl) := cell_of_blk K2 rfl
  have z9 : w2.cell? ⟨k, 9, none⟩ = some (.int .u64 st) := cell_of_blk K2 rfl
  have zf7 := free_of_blk (i := 7) K2
  have zf8 := free_of_blk (i := 8) K2
  have zf9 := free_of_blk (i := 9) K2

  go_wp2
  go_ret2
  exact ⟨rfl, ((HM.out.other _ _ _ (Ne.symm hka) (Ne.symm hkb)).other _ _ _ (Ne.symm hka) (Ne.symm hkb)), blk_setCell_same _ (blk_setCell_same _ K2), Mod.trans HD.out (by repeat (first | with_reducible exact Mod.refl _ _ | with_reducible refine Mod.setCell ?_ _ _ (.inl (by simp))))⟩

set_option maxRecDepth 100000 in
set_option maxHeartbeats 2000000 in
theorem com2bad_r {a b k : Nat} {s : MemS} {w : World} (hM : MemAt 148 w a b s) (p0 p1 p2 p3 p4 p5 th cl st : Int) (hk : w.heap[k]? = some (.cells #[.int .i64 p0, .int .i64 p1, .int .i64 p2, .int .i64 p3, .int .i64 p4, .int .i64 p5, .int .i64 th, .int .i64 2, .int .u64 cl, .int .u64 st] 168 (0, 0))) (t0 : 0 ≤ th) (t8 : th < 8) (h0 : (s.acc p2 != 0) = true) :
    Calls Try.prog 117 #[.pointer (some ⟨k, 0, none⟩), .pointer (some ⟨a, 0, none⟩)] w fun e w' => e = .returned (.tuple #[.bool false, .int .i64 (s.acc p2)]) ∧ MemAt 148 w' a b (s.load p2) ∧ w'.heap[k]? = some (.cells #[.int .i64 p0, .int .i64 p1, .int .i64 p2, .int .i64 p3, .int .i64 p4, .int .i64 p5, .int .i64 th, .int .i64 2, .int .u64 cl, .int .u64 st] 168 (0, 0)) ∧ Mod [a, b, k] w w' := by
  have ha := hM.lta
  have hb := hM.ltb
  have hkl := lt_of_block hk
  have hka : k ≠ a := blk_ne hk hM.hd (by decide)
  have hkb : k ≠ b := blk_ne hk hM.ws (by decide)
  have x0 : w.cell? ⟨k, 0, none⟩ = some (.int .i64 p0) := cell_of_blk hk rfl
  have x1 : w.cell? ⟨k, 1, none⟩ = some (.int .i64 p1) := cell_of_blk hk rfl
  have x2 : w.cell? ⟨k, 2, none⟩ = some (.int .i64 p2) := cell_of_blk hk rfl
  have x3 : w.cell? ⟨k, 3, none⟩ = some (.int .i64 p3) := cell_of_blk hk rfl
  have x4 : w.cell? ⟨k, 4, none⟩ = some (.int .i64 p4) := cell_of_blk hk rfl
  have x5 : w.cell? ⟨k, 5, none⟩ = some (.int .i64 p5) := cell_of_blk hk rfl
  have x6 : w.cell? ⟨k, 6, none⟩ = some (.int .i64 th) := cell_of_blk hk rfl
  have x7 : w.cell? ⟨k, 7, none⟩ = some (.int .i64 2) := cell_of_blk hk rfl
  have x8 : w.cell? ⟨k, 8, none⟩ = some (.int .u64 cl) := cell_of_blk hk rfl
  have x9 : w.cell? ⟨k, 9, none⟩ = some (.int .u64 st) := cell_of_blk hk rfl
  have xf7 := free_of_blk (i := 7) hk
  have xf8 := free_of_blk (i := 8) hk
  have xf9 := free_of_blk (i := 9) hk
  go_enter Try.func117, Try.ntmps117
  go_wp2_with (go_at_call 143; refine (maybe13_yes _ t0 t8 _).mono ?_; rintro e w1 ⟨rfl, hw⟩; have hw2 := hw.symm; clear hw; subst hw2)
  refine (load_r hM _).mono ?_; rintro e w2 ⟨rfl, M2, d2⟩
  have K2 := d2.at hk (by simp; omega)
  have HD : Hid (Mod [a, b, k] w w2) := d2.mono (by simp)
  have HM := Lib.hid M2
  clear x0 x1 x2 x3 x4 x5 x6 x7 x8 x9 xf7 xf8 xf9 d2 hM M2 hk
  have z0 : w2.cell? ⟨k, 0, none⟩ = some (.int .i64 p0) := cell_of_blk K2 rfl
  have z1 : w2.cell? ⟨k, 1, none⟩ = some (.int .i64 p1) := cell_of_blk K2 rfl
  have z2 : w2.cell? ⟨k, 2, none⟩ = some (.int .i64 p2) := cell_of_blk K2 rfl
  have z3 : w2.cell? ⟨k, 3, none⟩ = some (.int .i64 p3) := cell_of_blk K2 rfl
  have z4 : w2.cell? ⟨k, 4, none⟩ = some (.int .i64 p4) := cell_of_blk K2 rfl
  have z5 : w2.cell? ⟨k, 5, none⟩ = some (.int .i64 p5) := cell_of_blk K2 rfl
  have z6 : w2.cell? ⟨k, 6, none⟩ = some (.int .i64 th) := cell_of_blk K2 rfl
  have z7 : w2.cell? ⟨k, 7, none⟩ = some (.int .i64 2) := cell_of_blk K2 rfl
  have z8 : w2.cell? ⟨k, 8, none⟩ = some (.int .u64 cl) := cell_of_blk K2 rfl
  have z9 : w2.cell? ⟨k, 9, none⟩ = some (.int .u64 st) := cell_of_blk K2 rfl
  have zf7 := free_of_blk (i := 7) K2
  have zf8 := free_of_blk (i := 8) K2
  have zf9 := free_of_blk (i := 9) K2

  go_wp2
  go_ret2
  exact ⟨rfl, HM.out, K2, Mod.trans HD.out (by repeat (first | with_reducible exact Mod.refl _ _ | with_reducible refine Mod.setCell ?_ _ _ (.inl (by simp))))⟩

set_option maxRecDepth 100000 in
set_option maxHeartbeats 2000000 in
theorem com1place_r {a b k : Nat} {s : MemS} {w : World} (hM : MemAt 148 w a b s) (p0 p1 p2 p3 p4 p5 th cl st : Int) (hk : w.heap[k]? = some (.cells #[.int .i64 p0, .int .i64 p1, .int .i64 p2, .int .i64 p3, .int .i64 p4, .int .i64 p5, .int .i64 th, .int .i64 1, .int .u64 cl, .int .u64 st] 168 (0, 0))) (t0 : 0 ≤ th) (t8 : th < 8) (h : p3 < 0 ∨ 4096 < p3) :
    Calls Try.prog 117 #[.pointer (some ⟨k, 0, none⟩), .pointer (some ⟨a, 0, none⟩)] w fun e w' => e = .returned (.tuple #[.bool false, .int .i64 30]) ∧ MemAt 148 w' a b (s) ∧ w'.heap[k]? = some (.cells #[.int .i64 p0, .int .i64 p1, .int .i64 p2, .int .i64 p3, .int .i64 p4, .int .i64 p5, .int .i64 th, .int .i64 1, .int .u64 cl, .int .u64 st] 168 (0, 0)) ∧ Mod [a, b, k] w w' := by
  have ha := hM.lta
  have hb := hM.ltb
  have hkl := lt_of_block hk
  have hka : k ≠ a := blk_ne hk hM.hd (by decide)
  have hkb : k ≠ b := blk_ne hk hM.ws (by decide)
  have x0 : w.cell? ⟨k, 0, none⟩ = some (.int .i64 p0) := cell_of_blk hk rfl
  have x1 : w.cell? ⟨k, 1, none⟩ = some (.int .i64 p1) := cell_of_blk hk rfl
  have x2 : w.cell? ⟨k, 2, none⟩ = some (.int .i64 p2) := cell_of_blk hk rfl
  have x3 : w.cell? ⟨k, 3, none⟩ = some (.int .i64 p3) := cell_of_blk hk rfl
  have x4 : w.cell? ⟨k, 4, none⟩ = some (.int .i64 p4) := cell_of_blk hk rfl
  have x5 : w.cell? ⟨k, 5, none⟩ = some (.int .i64 p5) := cell_of_blk hk rfl
  have x6 : w.cell? ⟨k, 6, none⟩ = some (.int .i64 th) := cell_of_blk hk rfl
  have x7 : w.cell? ⟨k, 7, none⟩ = some (.int .i64 1) := cell_of_blk hk rfl
  have x8 : w.cell? ⟨k, 8, none⟩ = some (.int .u64 cl) := cell_of_blk hk rfl
  have x9 : w.cell? ⟨k, 9, none⟩ = some (.int .u64 st) := cell_of_blk hk rfl
  have xf7 := free_of_blk (i := 7) hk
  have xf8 := free_of_blk (i := 8) hk
  have xf9 := free_of_blk (i := 9) hk
  have hwd : wordAt p3 th = (-1) := if_pos h
  have Hwd := Lib.hid hwd; clear hwd h
  have Hst : Hid (∀ v, s.store (-1) v = s) := Lib.hid (fun v => store_bad s v (by rw [acc_neg s (by omega)]; omega))
  have ha1 : s.acc (-1) = 30 := acc_neg s (by omega)
  have Ha1 := Lib.hid ha1; clear ha1
  go_enter Try.func117, Try.ntmps117
  go_upto_region 7 with (go_at_call 143; refine (maybe13_yes _ t0 t8 _).mono ?_; rintro e w1 ⟨rfl, hw⟩; have hw2 := hw.symm; clear hw; subst hw2)
  go_cut [7] (fun x wx => x = .int .i64 (wordAt p3 th) ∧ MemAt 148 wx a b s ∧ wx.heap[k]? = some (.cells #[.int .i64 p0, .int .i64 p1, .int .i64 p2, .int .i64 p3, .int .i64 p4, .int .i64 p5, .int .i64 th, .int .i64 1, .int .u64 cl, .int .u64 st] 168 (0, 0)) ∧ Mod [] w wx)
  case first =>
    go_region_with (go_at_call 144; refine (word13 _ _ _ _ _ _ _ t0 t8 _).mono ?_; rintro e w1 ⟨rfl, rfl⟩)
    all_goals
      go_wp2_with fail
      go_meet
      exact ⟨rfl, by repeat (first | exact hM | refine MemAt.drew ?_ | refine MemAt.alloc ?_ _), blk_alloc_old _ hk, (by repeat (first | with_reducible exact Mod.refl _ _ | with_reducible assumption | with_reducible refine Mod.drew ?_ | with_reducible refine Mod.alloc ?_ _ | with_reducible refine Mod.setCell ?_ _ _ (.inl (by simp))))⟩
  case rest =>
    obtain ⟨rfl, M1, K1, D1⟩ := hcut
    clear x0 x1 x2 x3 x4 x5 x6 x7 x8 x9 xf7 xf8 xf9
    rw [Hwd.out]
    have y0 : wc.cell? ⟨k, 0, none⟩ = some (.int .i64 p0) := cell_of_blk K1 rfl
    have y1 : wc.cell? ⟨k, 1, none⟩ = some (.int .i64 p1) := cell_of_blk K1 rfl
    have y2 : wc.cell? ⟨k, 2, none⟩ = some (.int .i64 p2) := cell_of_blk K1 rfl
    have y3 : wc.cell? ⟨k, 3, none⟩ = some (.int .i64 p3) := cell_of_blk K1 rfl
    have y4 : wc.cell? ⟨k, 4, none⟩ = some (.int .i64 p4) := cell_of_blk K1 rfl
    have y5 : wc.cell? ⟨k, 5, none⟩ = some (.int .i64 p5) := cell_of_blk K1 rfl
    have y6 : wc.cell? ⟨k, 6, none⟩ = some (.int .i64 th) := cell_of_blk K1 rfl
    have y7 : wc.cell? ⟨k, 7, none⟩ = some (.int .i64 1) := cell_of_blk K1 rfl
    have y8 : wc.cell? ⟨k, 8, none⟩ = some (.int .u64 cl) := cell_of_blk K1 rfl
    have y9 : wc.cell? ⟨k, 9, none⟩ = some (.int .u64 st) := cell_of_blk K1 rfl
    have yf7 := free_of_blk (i := 7) K1
    have yf8 := free_of_blk (i := 8) K1
    have yf9 := free_of_blk (i := 9) K1

    go_wp2_with fail
    refine (store_r M1 _ _).mono ?_; rintro e w2 ⟨rfl, M2, d2⟩
    have K2 := d2.at K1 (by simp; omega)
    have HD : Hid (Mod [a, b, k] w w2) := (D1.weak _).then d2 (by simp)
    have HM := Lib.hid M2
    clear y0 y1 y2 y3 y4 y5 y6 y7 y8 y9 yf7 yf8 yf9 D1 d2 M1 M2 K1
    have z0 : w2.cell? ⟨k, 0, none⟩ = some (.int .i64 p0) := cell_of_blk K2 rfl
    have z1 : w2.cell? ⟨k, 1, none⟩ = some (.int .i64 p1) := cell_of_blk K2 rfl
    have z2 : w2.cell? ⟨k, 2, none⟩ = some (.int .i64 p2) := cell_of_blk K2 rfl
    have z3 : w2.cell? ⟨k, 3, none⟩ = some (.int .i64 p3) := cell_of_blk K2 rfl
    have z4 : w2.cell? ⟨k, 4, none⟩ = some (.int .i64 p4) := cell_of_blk K2 rfl
    have z5 : w2.cell? ⟨k, 5, none⟩ = some (.int .i64 p5) := cell_of_blk K2 rfl
    have z6 : w2.cell? ⟨k, 6, none⟩ = some (.int .i64 th) := cell_of_blk K2 rfl
    have z7 : w2.cell? ⟨k, 7, none⟩ = some (.int .i64 1) := cell_of_blk K2 rfl
    have z8 : w2.cell? ⟨k, 8, none⟩ = some (.int .u64 cl) := cell_of_blk K2 rfl
    have z9 : w2.cell? ⟨k, 9, none⟩ = some (.int .u64 st) := cell_of_blk K2 rfl
    have zf7 := free_of_blk (i := 7) K2
    have zf8 := free_of_blk (i := 8) K2
    have zf9 := free_of_blk (i := 9) K2

    rw [Ha1.out]
    go_wp2
    go_ret2
    exact ⟨rfl, by have := HM.out; rwa [Hst.out] at this, K2, Mod.trans HD.out (by repeat (first | with_reducible exact Mod.refl _ _ | with_reducible refine Mod.setCell ?_ _ _ (.inl (by simp))))⟩

set_option maxRecDepth 100000 in
set_option maxHeartbeats 2000000 in
theorem com1ok_r {a b k : Nat} {s : MemS} {w : World} (hM : MemAt 148 w a b s) (p0 p1 p2 p3 p4 p5 th cl st : Int) (hk : w.heap[k]? = some (.cells #[.int .i64 p0, .int .i64 p1, .int .i64 p2, .int .i64 p3, .int .i64 p4, .int .i64 p5, .int .i64 th, .int .i64 1, .int .u64 cl, .int .u64 st] 168 (0, 0))) (t0 : 0 ≤ th) (t8 : th < 8) (h : 0 ≤ p3) (h' : p3 ≤ 4096) (h0 : s.acc (p3 + th) = 0) :
    Calls Try.prog 117 #[.pointer (some ⟨k, 0, none⟩), .pointer (some ⟨a, 0, none⟩)] w fun e w' => e = .returned (.tuple #[.bool false, .int .i64 0]) ∧ MemAt 148 w' a b (s.store (p3 + th) (IntKind.u64.wrap (cl + 1))) ∧ w'.heap[k]? = some (.cells #[.int .i64 p0, .int .i64 p1, .int .i64 p2, .int .i64 p3, .int .i64 p4, .int .i64 p5, .int .i64 th, .int .i64 2, .int .u64 cl, .int .u64 st] 168 (0, 0)) ∧ Mod [a, b, k] w w' := by
  have ha := hM.lta
  have hb := hM.ltb
  have hkl := lt_of_block hk
  have hka : k ≠ a := blk_ne hk hM.hd (by decide)
  have hkb : k ≠ b := blk_ne hk hM.ws (by decide)
  have x0 : w.cell? ⟨k, 0, none⟩ = some (.int .i64 p0) := cell_of_blk hk rfl
  have x1 : w.cell? ⟨k, 1, none⟩ = some (.int .i64 p1) := cell_of_blk hk rfl
  have x2 : w.cell? ⟨k, 2, none⟩ = some (.int .i64 p2) := cell_of_blk hk rfl
  have x3 : w.cell? ⟨k, 3, none⟩ = some (.int .i64 p3) := cell_of_blk hk rfl
  have x4 : w.cell? ⟨k, 4, none⟩ = some (.int .i64 p4) := cell_of_blk hk rfl
  have x5 : w.cell? ⟨k, 5, none⟩ = some (.int .i64 p5) := cell_of_blk hk rfl
  have x6 : w.cell? ⟨k, 6, none⟩ = some (.int .i64 th) := cell_of_blk hk rfl
  have x7 : w.cell? ⟨k, 7, none⟩ = some (.int .i64 1) := cell_of_blk hk rfl
  have x8 : w.cell? ⟨k, 8, none⟩ = some (.int .u64 cl) := cell_of_blk hk rfl
  have x9 : w.cell? ⟨k, 9, none⟩ = some (.int .u64 st) := cell_of_blk hk rfl
  have xf7 := free_of_blk (i := 7) hk
  have xf8 := free_of_blk (i := 8) hk
  have xf9 := free_of_blk (i := 9) hk
  have hwd : wordAt p3 th = (p3 + th) := if_neg (by omega)
  have Hwd := Lib.hid hwd; clear hwd h
  go_enter Try.func117, Try.ntmps117
  go_upto_region 7 with (go_at_call 143; refine (maybe13_yes _ t0 t8 _).mono ?_; rintro e w1 ⟨rfl, hw⟩; have hw2 := hw.symm; clear hw; subst hw2)
  go_cut [7] (fun x wx => x = .int .i64 (wordAt p3 th) ∧ MemAt 148 wx a b s ∧ wx.heap[k]? = some (.cells #[.int .i64 p0, .int .i64 p1, .int .i64 p2, .int .i64 p3, .int .i64 p4, .int .i64 p5, .int .i64 th, .int .i64 1, .int .u64 cl, .int .u64 st] 168 (0, 0)) ∧ Mod [] w wx)
  case first =>
    go_region_with (go_at_call 144; refine (word13 _ _ _ _ _ _ _ t0 t8 _).mono ?_; rintro e w1 ⟨rfl, rfl⟩)
    all_goals
      go_wp2_with fail
      go_meet
      exact ⟨rfl, by repeat (first | exact hM | refine MemAt.drew ?_ | refine MemAt.alloc ?_ _), blk_alloc_old _ hk, (by repeat (first | with_reducible exact Mod.refl _ _ | with_reducible assumption | with_reducible refine Mod.drew ?_ | with_reducible refine Mod.alloc ?_ _ | with_reducible refine Mod.setCell ?_ _ _ (.inl (by simp))))⟩
  case rest =>
    obtain ⟨rfl, M1, K1, D1⟩ := hcut
    clear x0 x1 x2 x3 x4 x5 x6 x7 x8 x9 xf7 xf8 xf9
    rw [Hwd.out]
    have y0 : wc.cell? ⟨k, 0, none⟩ = some (.int .i64 p0) := cell_of_blk K1 rfl
    have y1 : wc.cell? ⟨k, 1, none⟩ = some (.int .i64 p1) := cell_of_blk K1 rfl
    have y2 : wc.cell? ⟨k, 2, none⟩ = some (.int .i64 p2) := cell_of_blk K1 rfl
    have y3 : wc.cell? ⟨k, 3, none⟩ = some (.int .i64 p3) := cell_of_blk K1 rfl
    have y4 : wc.cell? ⟨k, 4, none⟩ = some (.int .i64 p4) := cell_of_blk K1 rfl
    have y5 : wc.cell? ⟨k, 5, none⟩ = some (.int .i64 p5) := cell_of_blk K1 rfl
    have y6 : wc.cell? ⟨k, 6, none⟩ = some (.int .i64 th) := cell_of_blk K1 rfl
    have y7 : wc.cell? ⟨k, 7, none⟩ = some (.int .i64 1) := cell_of_blk K1 rfl
    have y8 : wc.cell? ⟨k, 8, none⟩ = some (.int .u64 cl) := cell_of_blk K1 rfl
    have y9 : wc.cell? ⟨k, 9, none⟩ = some (.int .u64 st) := cell_of_blk K1 rfl
    have yf7 := free_of_blk (i := 7) K1
    have yf8 := free_of_blk (i := 8) K1
    have yf9 := free_of_blk (i := 9) K1

    go_wp2_with fail
    refine (store_r M1 _ _).mono ?_; rintro e w2 ⟨rfl, M2, d2⟩
    have K2 := d2.at K1 (by simp; omega)
    have HD : Hid (Mod [a, b, k] w w2) := (D1.weak _).then d2 (by simp)
    have HM := Lib.hid M2
    clear y0 y1 y2 y3 y4 y5 y6 y7 y8 y9 yf7 yf8 yf9 D1 d2 M1 M2 K1
    have z0 : w2.cell? ⟨k, 0, none⟩ = some (.int .i64 p0) := cell_of_blk K2 rfl
    have z1 : w2.cell? ⟨k, 1, none⟩ = some (.int .i64 p1) := cell_of_blk K2 rfl
    have z2 : w2.cell? ⟨k, 2, none⟩ = some (.int .i64 p2) := cell_of_blk K2 rfl
    have z3 : w2.cell? ⟨k, 3, none⟩ = some (.int .i64 p3) := cell_of_blk K2 rfl
    have z4 : w2.cell? ⟨k, 4, none⟩ = some (.int .i64 p4) := cell_of_blk K2 rfl
    have z5 : w2.cell? ⟨k, 5, none⟩ = some (.int .i64 p5) := cell_of_blk K2 rfl
    have z6 : w2.cell? ⟨k, 6, none⟩ = some (.int .i64 th) := cell_of_blk K2 rfl
    have z7 : w2.cell? ⟨k, 7, none⟩ = some (.int .i64 1) := cell_of_blk K2 rfl
    have z8 : w2.cell? ⟨k, 8, none⟩ = some (.int .u64 cl) := cell_of_blk K2 rfl
    have z9 : w2.cell? ⟨k, 9, none⟩ = some (.int .u64 st) := cell_of_blk K2 rfl
    have zf7 := free_of_blk (i := 7) K2
    have zf8 := free_of_blk (i := 8) K2
    have zf9 := free_of_blk (i := 9) K2

    skip
    go_wp2
    go_ret2
    exact ⟨rfl, (HM.out.other _ _ _ (Ne.symm hka) (Ne.symm hkb)), blk_setCell_same _ K2, Mod.trans HD.out (by repeat (first | with_reducible exact Mod.refl _ _ | with_reducible refine Mod.setCell ?_ _ _ (.inl (by simp))))⟩

set_option maxRecDepth 100000 in
set_option maxHeartbeats 2000000 in
theorem com1bad_r {a b k : Nat} {s : MemS} {w : World} (hM : MemAt 148 w a b s) (p0 p1 p2 p3 p4 p5 th cl st : Int) (hk : w.heap[k]? = some (.cells #[.int .i64 p0, .int .i64 p1, .int .i64 p2, .int .i64 p3, .int .i64 p4, .int .i64 p5, .int .i64 th, .int .i64 1, .int .u64 cl, .int .u64 st] 168 (0, 0))) (t0 : 0 ≤ th) (t8 : th < 8) (h : 0 ≤ p3) (h' : p3 ≤ 4096) (h0 : (s.acc (p3 + th) != 0) = true) :
    Calls Try.prog 117 #[.pointer (some ⟨k, 0, none⟩), .pointer (some ⟨a, 0, none⟩)] w fun e w' => e = .returned (.tuple #[.bool false, .int .i64 (s.acc (p3 + th))]) ∧ MemAt 148 w' a b (s.store (p3 + th) (IntKind.u64.wrap (cl + 1))) ∧ w'.heap[k]? = some (.cells #[.int .i64 p0, .int .i64 p1, .int .i64 p2, .int .i64 p3, .int .i64 p4, .int .i64 p5, .int .i64 th, .int .i64 1, .int .u64 cl, .int .u64 st] 168 (0, 0)) ∧ Mod [a, b, k] w w' := by
  have ha := hM.lta
  have hb := hM.ltb
  have hkl := lt_of_block hk
  have hka : k ≠ a := blk_ne hk hM.hd (by decide)
  have hkb : k ≠ b := blk_ne hk hM.ws (by decide)
  have x0 : w.cell? ⟨k, 0, none⟩ = some (.int .i64 p0) := cell_of_blk hk rfl
  have x1 : w.cell? ⟨k, 1, none⟩ = some (.int .i64 p1) := cell_of_blk hk rfl
  have x2 : w.cell? ⟨k, 2, none⟩ = some (.int .i64 p2) := cell_of_blk hk rfl
  have x3 : w.cell? ⟨k, 3, none⟩ = some (.int .i64 p3) := cell_of_blk hk rfl
  have x4 : w.cell? ⟨k, 4, none⟩ = some (.int .i64 p4) := cell_of_blk hk rfl
  have x5 : w.cell? ⟨k, 5, none⟩ = some (.int .i64 p5) := cell_of_blk hk rfl
  have x6 : w.cell? ⟨k, 6, none⟩ = some (.int .i64 th) := cell_of_blk hk rfl
  have x7 : w.cell? ⟨k, 7, none⟩ = some (.int .i64 1) := cell_of_blk hk rfl
  have x8 : w.cell? ⟨k, 8, none⟩ = some (.int .u64 cl) := cell_of_blk hk rfl
  have x9 : w.cell? ⟨k, 9, none⟩ = some (.int .u64 st) := cell_of_blk hk rfl
  have xf7 := free_of_blk (i := 7) hk
  have xf8 := free_of_blk (i := 8) hk
  have xf9 := free_of_blk (i := 9) hk
  have hwd : wordAt p3 th = (p3 + th) := if_neg (by omega)
  have Hwd := Lib.hid hwd; clear hwd h
  go_enter Try.func117, Try.ntmps117
  go_upto_region 7 with (go_at_call 143; refine (maybe13_yes _ t0 t8 _).mono ?_; rintro e w1 ⟨rfl, hw⟩; have hw2 := hw.symm; clear hw; subst hw2)
  go_cut [7] (fun x wx => x = .int .i64 (wordAt p3 th) ∧ MemAt 148 wx a b s ∧ wx.heap[k]? = some (.cells #[.int .i64 p0, .int .i64 p1, .int .i64 p2, .int .i64 p3, .int .i64 p4, .int .i64 p5, .int .i64 th, .int .i64 1, .int .u64 cl, .int .u64 st] 168 (0, 0)) ∧ Mod [] w wx)
  case first =>
    go_region_with (go_at_call 144; refine (word13 _ _ _ _ _ _ _ t0 t8 _).mono ?_; rintro e w1 ⟨rfl, rfl⟩)
    all_goals
      go_wp2_with fail
      go_meet
      exact ⟨rfl, by repeat (first | exact hM | refine MemAt.drew ?_ | refine MemAt.alloc ?_ _), blk_alloc_old _ hk, (by repeat (first | with_reducible exact Mod.refl _ _ | with_reducible assumption | with_reducible refine Mod.drew ?_ | with_reducible refine Mod.alloc ?_ _ | with_reducible refine Mod.setCell ?_ _ _ (.inl (by simp))))⟩
  case rest =>
    obtain ⟨rfl, M1, K1, D1⟩ := hcut
    clear x0 x1 x2 x3 x4 x5 x6 x7 x8 x9 xf7 xf8 xf9
    rw [Hwd.out]
    have y0 : wc.cell? ⟨k, 0, none⟩ = some (.int .i64 p0) := cell_of_blk K1 rfl
    have y1 : wc.cell? ⟨k, 1, none⟩ = some (.int .i64 p1) := cell_of_blk K1 rfl
    have y2 : wc.cell? ⟨k, 2, none⟩ = some (.int .i64 p2) := cell_of_blk K1 rfl
    have y3 : wc.cell? ⟨k, 3, none⟩ = some (.int .i64 p3) := cell_of_blk K1 rfl
    have y4 : wc.cell? ⟨k, 4, none⟩ = some (.int .i64 p4) := cell_of_blk K1 rfl
    have y5 : wc.cell? ⟨k, 5, none⟩ = some (.int .i64 p5) := cell_of_blk K1 rfl
    have y6 : wc.cell? ⟨k, 6, none⟩ = some (.int .i64 th) := cell_of_blk K1 rfl
    have y7 : wc.cell? ⟨k, 7, none⟩ = some (.int .i64 1) := cell_of_blk K1 rfl
    have y8 : wc.cell? ⟨k, 8, none⟩ = some (.int .u64 cl) := cell_of_blk K1 rfl
    have y9 : wc.cell? ⟨k, 9, none⟩ = some (.int .u64 st) := cell_of_blk K1 rfl
    have yf7 := free_of_blk (i := 7) K1
    have yf8 := free_of_blk (i := 8) K1
    have yf9 := free_of_blk (i := 9) K1

    go_wp2_with fail
    refine (store_r M1 _ _).mono ?_; rintro e w2 ⟨rfl, M2, d2⟩
    have K2 := d2.at K1 (by simp; omega)
    have HD : Hid (Mod [a, b, k] w w2) := (D1.weak _).then d2 (by simp)
    have HM := Lib.hid M2
    clear y0 y1 y2 y3 y4 y5 y6 y7 y8 y9 yf7 yf8 yf9 D1 d2 M1 M2 K1
    have z0 : w2.cell? ⟨k, 0, none⟩ = some (.int .i64 p0) := cell_of_blk K2 rfl
    have z1 : w2.cell? ⟨k, 1, none⟩ = some (.int .i64 p1) := cell_of_blk K2 rfl
    have z2 : w2.cell? ⟨k, 2, none⟩ = some (.int .i64 p2) := cell_of_blk K2 rfl
    have z3 : w2.cell? ⟨k, 3, none⟩ = some (.int .i64 p3) := cell_of_blk K2 rfl
    have z4 : w2.cell? ⟨k, 4, none⟩ = some (.int .i64 p4) := cell_of_blk K2 rfl
    have z5 : w2.cell? ⟨k, 5, none⟩ = some (.int .i64 p5) := cell_of_blk K2 rfl
    have z6 : w2.cell? ⟨k, 6, none⟩ = some (.int .i64 th) := cell_of_blk K2 rfl
    have z7 : w2.cell? ⟨k, 7, none⟩ = some (.int .i64 1) := cell_of_blk K2 rfl
    have z8 : w2.cell? ⟨k, 8, none⟩ = some (.int .u64 cl) := cell_of_blk K2 rfl
    have z9 : w2.cell? ⟨k, 9, none⟩ = some (.int .u64 st) := cell_of_blk K2 rfl
    have zf7 := free_of_blk (i := 7) K2
    have zf8 := free_of_blk (i := 8) K2
    have zf9 := free_of_blk (i := 9) K2

    skip
    go_wp2
    go_ret2
    exact ⟨rfl, HM.out, K2, Mod.trans HD.out (by repeat (first | with_reducible exact Mod.refl _ _ | with_reducible refine Mod.setCell ?_ _ _ (.inl (by simp))))⟩

end Go.Proofs.Ytobmgnoceacoaaa

/- Layer 11: a step of a reading. -/
import Derived.Test.YtobmgnoceacoaaaXR
import Derived.Test.YtobmgnoceacoaaaPlays03
import Derived.Deep.QuietTactic
import Derived.BigQuiet
import Derived.Deep.DeepCutAuto
import Derived.Deep.CutBlock
import Derived.Deep.RegionHeld3
import Derived.StillTailTactics
import Derived.IntWalk
namespace Go.Proofs.Ytobmgnoceacoaaa
open Go.RowKit
attribute [local go_sem] run_store_float

variable {a b k : Nat} {s : MemS} {w : World} {p0 p1 p2 p3 p4 p5 c st pa ve sp : Int} {va : Nat} {tn : Bool}

set_option maxRecDepth 100000 in
set_option maxHeartbeats 40000000 in
theorem rstep4 (hk : w.heap[k]? = some (.cells #[.int .i64 p0, .int .i64 p1, .int .i64 p2, .int .i64 p3, .int .i64 p4, .int .i64 p5, .int .i64 c, .int .u64 st, .int .i64 4, .int .u64 ve, .float .f64 va, .int .i64 sp, .bool tn] 177 (0, 0))) :
    Calls Try.prog 78 #[.pointer (some ⟨k, 0, none⟩), .pointer (some ⟨a, 0, none⟩)] w fun e w' => e = .returned (.tuple #[.bool false, .int .i64 3]) ∧ w' = w := by
  have r8 : w.cell? ⟨k, 8, none⟩ = some (.int .i64 4) := cell_of_blk hk rfl
  go_enter Try.func78, Try.ntmps78
  go_wp2
  go_ret2
  exact ⟨rfl, rfl⟩

set_option maxRecDepth 100000 in
set_option maxHeartbeats 40000000 in
theorem rbad0 (hM : MemAt 142 w a b s) (hk : w.heap[k]? = some (.cells #[.int .i64 p0, .int .i64 p1, .int .i64 p2, .int .i64 p3, .int .i64 p4, .int .i64 p5, .int .i64 c, .int .u64 st, .int .i64 0, .int .u64 ve, .float .f64 va, .int .i64 sp, .bool tn] 177 (0, 0))) (he : (s.cellE p4 c 0 != 0) = true) :
    Calls Try.prog 78 #[.pointer (some ⟨k, 0, none⟩), .pointer (some ⟨a, 0, none⟩)] w fun e w' => e = .returned (.tuple #[.bool false, .int .i64 (s.cellE p4 c 0)]) ∧ MemAt 142 w' a b (s.cellM p4 c 0) ∧ w'.heap[k]? = some (.cells #[.int .i64 p0, .int .i64 p1, .int .i64 p2, .int .i64 p3, .int .i64 p4, .int .i64 p5, .int .i64 c, .int .u64 st, .int .i64 0, .int .u64 ve, .float .f64 va, .int .i64 sp, .bool tn] 177 (0, 0)) ∧ Mod [a, b, k] w w' := by
  have hka : k ≠ a := blk_ne hk hM.hd (by decide)
  have hkb : k ≠ b := blk_ne hk hM.ws (by decide)
  have r0 : w.cell? ⟨k, 0, none⟩ = some (.int .i64 p0) := cell_of_blk hk rfl
  have r1 : w.cell? ⟨k, 1, none⟩ = some (.int .i64 p1) := cell_of_blk hk rfl
  have r2 : w.cell? ⟨k, 2, none⟩ = some (.int .i64 p2) := cell_of_blk hk rfl
  have r3 : w.cell? ⟨k, 3, none⟩ = some (.int .i64 p3) := cell_of_blk hk rfl
  have r4 : w.cell? ⟨k, 4, none⟩ = some (.int .i64 p4) := cell_of_blk hk rfl
  have r5 : w.cell? ⟨k, 5, none⟩ = some (.int .i64 p5) := cell_of_blk hk rfl
  have r6 : w.cell? ⟨k, 6, none⟩ = some (.int .i64 c) := cell_of_blk hk rfl
  have r8 : w.cell? ⟨k, 8, none⟩ = some (.int .i64 0) := cell_of_blk hk rfl
  go_enter Try.func78, Try.ntmps78
  go_wp2_with fail
  refine (next0 hk).mono ?_; rintro e w1 ⟨rfl, hw1⟩
  have hw1' := hw1.symm
  subst hw1'
  go_upto_region 4 with fail
  go_cut [8, 9] (fun A C wx => A = .int .u64 (s.cellV p4 c 0) ∧ C = .int .i64 (s.cellE p4 c 0) ∧ MemAt 142 wx a b (s.cellM p4 c 0) ∧ wx.heap[k]? = some (.cells #[.int .i64 p0, .int .i64 p1, .int .i64 p2, .int .i64 p3, .int .i64 p4, .int .i64 p5, .int .i64 c, .int .u64 st, .int .i64 0, .int .u64 ve, .float .f64 va, .int .i64 sp, .bool tn] 177 (0, 0)) ∧ Mod [a, b, k] w wx)
  case first =>
    go_region_held3 (fun wx => wx.cell? ⟨k, 0, none⟩ = some (.int .i64 p0) ∧ wx.cell? ⟨k, 1, none⟩ = some (.int .i64 p1) ∧ wx.cell? ⟨k, 2, none⟩ = some (.int .i64 p2) ∧ wx.cell? ⟨k, 3, none⟩ = some (.int .i64 p3) ∧ wx.cell? ⟨k, 4, none⟩ = some (.int .i64 p4) ∧ wx.cell? ⟨k, 5, none⟩ = some (.int .i64 p5) ∧ wx.cell? ⟨k, 6, none⟩ = some (.int .i64 c)) (first | exact ⟨r0, r1, r2, r3, r4, r5, r6⟩ | exact ⟨cell_of_blk K2 rfl, cell_of_blk K2 rfl, cell_of_blk K2 rfl, cell_of_blk K2 rfl, cell_of_blk K2 rfl, cell_of_blk K2 rfl, cell_of_blk K2 rfl⟩)
      (first | (go_at_call 129; refine (load11 hM.drew p0 p1 p2 p3 p4 p5 c 0 (by omega) (by omega)).mono ?_; rintro e w2 ⟨rfl, M2, d2⟩; have K2 := d2.at (k := k) (o := .cells #[.int .i64 p0, .int .i64 p1, .int .i64 p2, .int .i64 p3, .int .i64 p4, .int .i64 p5, .int .i64 c, .int .u64 st, .int .i64 0, .int .u64 ve, .float .f64 va, .int .i64 sp, .bool tn] 177 (0, 0)) hk (by simp [hka, hkb])))
    all_goals
      go_wp2_with fail
      go_meet
      exact ⟨rfl, rfl, M2, K2, (Mod.refl _ _).drew.trans (d2.mono (by simp))⟩
  case rest =>
    obtain ⟨rfl, rfl, M3, K3, D3⟩ := hcut
    clear r0 r1 r2 r3 r4 r5 r6 r8 hM hk
    obtain ⟨w3, rfl⟩ : ∃ w3, w3 = wc := ⟨_, rfl⟩
    go_wp2
    go_ret2
    exact ⟨rfl, M3, K3, D3⟩

set_option maxRecDepth 100000 in
set_option maxHeartbeats 40000000 in
theorem rbad1 (hM : MemAt 142 w a b s) (hk : w.heap[k]? = some (.cells #[.int .i64 p0, .int .i64 p1, .int .i64 p2, .int .i64 p3, .int .i64 p4, .int .i64 p5, .int .i64 c, .int .u64 st, .int .i64 1, .int .u64 ve, .float .f64 va, .int .i64 sp, .bool tn] 177 (0, 0))) (he : (s.cellE p4 c 1 != 0) = true) :
    Calls Try.prog 78 #[.pointer (some ⟨k, 0, none⟩), .pointer (some ⟨a, 0, none⟩)] w fun e w' => e = .returned (.tuple #[.bool false, .int .i64 (s.cellE p4 c 1)]) ∧ MemAt 142 w' a b (s.cellM p4 c 1) ∧ w'.heap[k]? = some (.cells #[.int .i64 p0, .int .i64 p1, .int .i64 p2, .int .i64 p3, .int .i64 p4, .int .i64 p5, .int .i64 c, .int .u64 st, .int .i64 1, .int .u64 ve, .float .f64 va, .int .i64 sp, .bool tn] 177 (0, 0)) ∧ Mod [a, b, k] w w' := by
  have hka : k ≠ a := blk_ne hk hM.hd (by decide)
  have hkb : k ≠ b := blk_ne hk hM.ws (by decide)
  have r0 : w.cell? ⟨k, 0, none⟩ = some (.int .i64 p0) := cell_of_blk hk rfl
  have r1 : w.cell? ⟨k, 1, none⟩ = some (.int .i64 p1) := cell_of_blk hk rfl
  have r2 : w.cell? ⟨k, 2, none⟩ = some (.int .i64 p2) := cell_of_blk hk rfl
  have r3 : w.cell? ⟨k, 3, none⟩ = some (.int .i64 p3) := cell_of_blk hk rfl
  have r4 : w.cell? ⟨k, 4, none⟩ = some (.int .i64 p4) := cell_of_blk hk rfl
  have r5 : w.cell? ⟨k, 5, none⟩ = some (.int .i64 p5) := cell_of_blk hk rfl
  have r6 : w.cell? ⟨k, 6, none⟩ = some (.int .i64 c) := cell_of_blk hk rfl
  have r8 : w.cell? ⟨k, 8, none⟩ = some (.int .i64 1) := cell_of_blk hk rfl
  go_enter Try.func78, Try.ntmps78
  go_wp2_with fail
  refine (next1 hk).mono ?_; rintro e w1 ⟨rfl, hw1⟩
  have hw1' := hw1.symm
  subst hw1'
  go_upto_region 4 with fail
  go_cut [8, 9] (fun A C wx => A = .int .u64 (s.cellV p4 c 1) ∧ C = .int .i64 (s.cellE p4 c 1) ∧ MemAt 142 wx a b (s.cellM p4 c 1) ∧ wx.heap[k]? = some (.cells #[.int .i64 p0, .int .i64 p1, .int .i64 p2, .int .i64 p3, .int .i64 p4, .int .i64 p5, .int .i64 c, .int .u64 st, .int .i64 1, .int .u64 ve, .float .f64 va, .int .i64 sp, .bool tn] 177 (0, 0)) ∧ Mod [a, b, k] w wx)
  case first =>
    go_region_held3 (fun wx => wx.cell? ⟨k, 0, none⟩ = some (.int .i64 p0) ∧ wx.cell? ⟨k, 1, none⟩ = some (.int .i64 p1) ∧ wx.cell? ⟨k, 2, none⟩ = some (.int .i64 p2) ∧ wx.cell? ⟨k, 3, none⟩ = some (.int .i64 p3) ∧ wx.cell? ⟨k, 4, none⟩ = some (.int .i64 p4) ∧ wx.cell? ⟨k, 5, none⟩ = some (.int .i64 p5) ∧ wx.cell? ⟨k, 6, none⟩ = some (.int .i64 c)) (first | exact ⟨r0, r1, r2, r3, r4, r5, r6⟩ | exact ⟨cell_of_blk K2 rfl, cell_of_blk K2 rfl, cell_of_blk K2 rfl, cell_of_blk K2 rfl, cell_of_blk K2 rfl, cell_of_blk K2 rfl, cell_of_blk K2 rfl⟩)
      (first | (go_at_call 129; refine (load11 hM.drew p0 p1 p2 p3 p4 p5 c 1 (by omega) (by omega)).mono ?_; rintro e w2 ⟨rfl, M2, d2⟩; have K2 := d2.at (k := k) (o := .cells #[.int .i64 p0, .int .i64 p1, .int .i64 p2, .int .i64 p3, .int .i64 p4, .int .i64 p5, .int .i64 c, .int .u64 st, .int .i64 1, .int .u64 ve, .float .f64 va, .int .i64 sp, .bool tn] 177 (0, 0)) hk (by simp [hka, hkb])))
    all_goals
      go_wp2_with fail
      go_meet
      exact ⟨rfl, rfl, M2, K2, (Mod.refl _ _).drew.trans (d2.mono (by simp))⟩
  case rest =>
    obtain ⟨rfl, rfl, M3, K3, D3⟩ := hcut
    clear r0 r1 r2 r3 r4 r5 r6 r8 hM hk
    obtain ⟨w3, rfl⟩ : ∃ w3, w3 = wc := ⟨_, rfl⟩
    go_wp2
    go_ret2
    exact ⟨rfl, M3, K3, D3⟩

set_option maxRecDepth 100000 in
set_option maxHeartbeats 40000000 in
theorem rbad2 (hM : MemAt 142 w a b s) (hk : w.heap[k]? = some (.cells #[.int .i64 p0, .int .i64 p1, .int .i64 p2, .int .i64 p3, .int .i64 p4, .int .i64 p5, .int .i64 c, .int .u64 st, .int .i64 2, .int .u64 ve, .float .f64 va, .int .i64 sp, .bool tn] 177 (0, 0))) (he : (s.cellE p4 c 0 != 0) = true) :
    Calls Try.prog 78 #[.pointer (some ⟨k, 0, none⟩), .pointer (some ⟨a, 0, none⟩)] w fun e w' => e = .returned (.tuple #[.bool false, .int .i64 (s.cellE p4 c 0)]) ∧ MemAt 142 w' a b (s.cellM p4 c 0) ∧ w'.heap[k]? = some (.cells #[.int .i64 p0, .int .i64 p1, .int .i64 p2, .int .i64 p3, .int .i64 p4, .int .i64 p5, .int .i64 c, .int .u64 st, .int .i64 2, .int .u64 ve, .float .f64 va, .int .i64 sp, .bool tn] 177 (0, 0)) ∧ Mod [a, b, k] w w' := by
  have hka : k ≠ a := blk_ne hk hM.hd (by decide)
  have hkb : k ≠ b := blk_ne hk hM.ws (by decide)
  have r0 : w.cell? ⟨k, 0, none⟩ = some (.int .i64 p0) := cell_of_blk hk rfl
  have r1 : w.cell? ⟨k, 1, none⟩ = some (.int .i64 p1) := cell_of_blk hk rfl
  have r2 : w.cell? ⟨k, 2, none⟩ = some (.int .i64 p2) := cell_of_blk hk rfl
  have r3 : w.cell? ⟨k, 3, none⟩ = some (.int .i64 p3) := cell_of_blk hk rfl
  have r4 : w.cell? ⟨k, 4, none⟩ = some (.int .i64 p4) := cell_of_blk hk rfl
  have r5 : w.cell? ⟨k, 5, none⟩ = some (.int .i64 p5) := cell_of_blk hk rfl
  have r6 : w.cell? ⟨k, 6, none⟩ = some (.int .i64 c) := cell_of_blk hk rfl
  have r8 : w.cell? ⟨k, 8, none⟩ = some (.int .i64 2) := cell_of_blk hk rfl
  go_enter Try.func78, Try.ntmps78
  go_wp2_with fail
  refine (next2 hk).mono ?_; rintro e w1 ⟨rfl, hw1⟩
  have hw1' := hw1.symm
  subst hw1'
  go_upto_region 4 with fail
  go_cut [8, 9] (fun A C wx => A = .int .u64 (s.cellV p4 c 0) ∧ C = .int .i64 (s.cellE p4 c 0) ∧ MemAt 142 wx a b (s.cellM p4 c 0) ∧ wx.heap[k]? = some (.cells #[.int .i64 p0, .int .i64 p1, .int .i64 p2, .int .i64 p3, .int .i64 p4, .int .i64 p5, .int .i64 c, .int .u64 st, .int .i64 2, .int .u64 ve, .float .f64 va, .int .i64 sp, .bool tn] 177 (0, 0)) ∧ Mod [a, b, k] w wx)
  case first =>
    go_region_held3 (fun wx => wx.cell? ⟨k, 0, none⟩ = some (.int .i64 p0) ∧ wx.cell? ⟨k, 1, none⟩ = some (.int .i64 p1) ∧ wx.cell? ⟨k, 2, none⟩ = some (.int .i64 p2) ∧ wx.cell? ⟨k, 3, none⟩ = some (.int .i64 p3) ∧ wx.cell? ⟨k, 4, none⟩ = some (.int .i64 p4) ∧ wx.cell? ⟨k, 5, none⟩ = some (.int .i64 p5) ∧ wx.cell? ⟨k, 6, none⟩ = some (.int .i64 c)) (first | exact ⟨r0, r1, r2, r3, r4, r5, r6⟩ | exact ⟨cell_of_blk K2 rfl, cell_of_blk K2 rfl, cell_of_blk K2 rfl, cell_of_blk K2 rfl, cell_of_blk K2 rfl, cell_of_blk K2 rfl, cell_of_blk K2 rfl⟩)
      (first | (go_at_call 129; refine (load11 hM.drew p0 p1 p2 p3 p4 p5 c 0 (by omega) (by omega)).mono ?_; rintro e w2 ⟨rfl, M2, d2⟩; have K2 := d2.at (k := k) (o := .cells #[.int .i64 p0, .int .i64 p1, .int .i64 p2, .int .i64 p3, .int .i64 p4, .int .i64 p5, .int .i64 c, .int .u64 st, .int .i64 2, .int .u64 ve, .float .f64 va, .int .i64 sp, .bool tn] 177 (0, 0)) hk (by simp [hka, hkb])))
    all_goals
      go_wp2_with fail
      go_meet
      exact ⟨rfl, rfl, M2, K2, (Mod.refl _ _).drew.trans (d2.mono (by simp))⟩
  case rest =>
    obtain ⟨rfl, rfl, M3, K3, D3⟩ := hcut
    clear r0 r1 r2 r3 r4 r5 r6 r8 hM hk
    obtain ⟨w3, rfl⟩ : ∃ w3, w3 = wc := ⟨_, rfl⟩
    go_wp2
    go_ret2
    exact ⟨rfl, M3, K3, D3⟩

set_option maxRecDepth 100000 in
set_option maxHeartbeats 40000000 in
theorem rbad3 (hM : MemAt 142 w a b s) (hk : w.heap[k]? = some (.cells #[.int .i64 p0, .int .i64 p1, .int .i64 p2, .int .i64 p3, .int .i64 p4, .int .i64 p5, .int .i64 c, .int .u64 st, .int .i64 3, .int .u64 ve, .float .f64 va, .int .i64 sp, .bool tn] 177 (0, 0))) (he : (s.cellE p4 c 2 != 0) = true) :
    Calls Try.prog 78 #[.pointer (some ⟨k, 0, none⟩), .pointer (some ⟨a, 0, none⟩)] w fun e w' => e = .returned (.tuple #[.bool false, .int .i64 (s.cellE p4 c 2)]) ∧ MemAt 142 w' a b (s.cellM p4 c 2) ∧ w'.heap[k]? = some (.cells #[.int .i64 p0, .int .i64 p1, .int .i64 p2, .int .i64 p3, .int .i64 p4, .int .i64 p5, .int .i64 c, .int .u64 st, .int .i64 3, .int .u64 ve, .float .f64 va, .int .i64 sp, .bool tn] 177 (0, 0)) ∧ Mod [a, b, k] w w' := by
  have hka : k ≠ a := blk_ne hk hM.hd (by decide)
  have hkb : k ≠ b := blk_ne hk hM.ws (by decide)
  have r0 : w.cell? ⟨k, 0, none⟩ = some (.int .i64 p0) := cell_of_blk hk rfl
  have r1 : w.cell? ⟨k, 1, none⟩ = some (.int .i64 p1) := cell_of_blk hk rfl
  have r2 : w.cell? ⟨k, 2, none⟩ = some (.int .i64 p2) := cell_of_blk hk rfl
  have r3 : w.cell? ⟨k, 3, none⟩ = some (.int .i64 p3) := cell_of_blk hk rfl
  have r4 : w.cell? ⟨k, 4, none⟩ = some (.int .i64 p4) := cell_of_blk hk rfl
  have r5 : w.cell? ⟨k, 5, none⟩ = some (.int .i64 p5) := cell_of_blk hk rfl
  have r6 : w.cell? ⟨k, 6, none⟩ = some (.int .i64 c) := cell_of_blk hk rfl
  have r8 : w.cell? ⟨k, 8, none⟩ = some (.int .i64 3) := cell_of_blk hk rfl
  go_enter Try.func78, Try.ntmps78
  go_wp2_with fail
  refine (next3 hk).mono ?_; rintro e w1 ⟨rfl, hw1⟩
  have hw1' := hw1.symm
  subst hw1'
  go_upto_region 4 with fail
  go_cut [8, 9] (fun A C wx => A = .int .u64 (s.cellV p4 c 2) ∧ C = .int .i64 (s.cellE p4 c 2) ∧ MemAt 142 wx a b (s.cellM p4 c 2) ∧ wx.heap[k]? = some (.cells #[.int .i64 p0, .int .i64 p1, .int .i64 p2, .int .i64 p3, .int .i64 p4, .int .i64 p5, .int .i64 c, .int .u64 st, .int .i64 3, .int .u64 ve, .float .f64 va, .int .i64 sp, .bool tn] 177 (0, 0)) ∧ Mod [a, b, k] w wx)
  case first =>
    go_region_held3 (fun wx => wx.cell? ⟨k, 0, none⟩ = some (.int .i64 p0) ∧ wx.cell? ⟨k, 1, none⟩ = some (.int .i64 p1) ∧ wx.cell? ⟨k, 2, none⟩ = some (.int .i64 p2) ∧ wx.cell? ⟨k, 3, none⟩ = some (.int .i64 p3) ∧ wx.cell? ⟨k, 4, none⟩ = some (.int .i64 p4) ∧ wx.cell? ⟨k, 5, none⟩ = some (.int .i64 p5) ∧ wx.cell? ⟨k, 6, none⟩ = some (.int .i64 c)) (first | exact ⟨r0, r1, r2, r3, r4, r5, r6⟩ | exact ⟨cell_of_blk K2 rfl, cell_of_blk K2 rfl, cell_of_blk K2 rfl, cell_of_blk K2 rfl, cell_of_blk K2 rfl, cell_of_blk K2 rfl, cell_of_blk K2 rfl⟩)
      (first | (go_at_call 129; refine (load11 hM.drew p0 p1 p2 p3 p4 p5 c 2 (by omega) (by omega)).mono ?_; rintro e w2 ⟨rfl, M2, d2⟩; have K2 := d2.at (k := k) (o := .cells #[.int .i64 p0, .int .i64 p1, .int .i64 p2, .int .i64 p3, .int .i64 p4, .int .i64 p5, .int .i64 c, .int .u64 st, .int .i64 3, .int .u64 ve, .float .f64 va, .int .i64 sp, .bool tn] 177 (0, 0)) hk (by simp [hka, hkb])))
    all_goals
      go_wp2_with fail
      go_meet
      exact ⟨rfl, rfl, M2, K2, (Mod.refl _ _).drew.trans (d2.mono (by simp))⟩
  case rest =>
    obtain ⟨rfl, rfl, M3, K3, D3⟩ := hcut
    clear r0 r1 r2 r3 r4 r5 r6 r8 hM hk
    obtain ⟨w3, rfl⟩ : ∃ w3, w3 = wc := ⟨_, rfl⟩
    go_wp2
    go_ret2
    exact ⟨rfl, M3, K3, D3⟩

set_option maxRecDepth 100000 in
set_option maxHeartbeats 40000000 in
theorem rok0_gt (hM : MemAt 142 w a b s) (hk : w.heap[k]? = some (.cells #[.int .i64 p0, .int .i64 p1, .int .i64 p2, .int .i64 p3, .int .i64 p4, .int .i64 p5, .int .i64 c, .int .u64 st, .int .i64 0, .int .u64 ve, .float .f64 va, .int .i64 sp, .bool tn] 177 (0, 0))) (he : s.cellE p4 c 0 = 0) (hv : st < s.cellV p4 c 0) :
    Calls Try.prog 78 #[.pointer (some ⟨k, 0, none⟩), .pointer (some ⟨a, 0, none⟩)] w fun e w' => e = .returned (.tuple #[.bool false, .int .i64 0]) ∧ MemAt 142 w' a b (s.cellM p4 c 0) ∧ w'.heap[k]? = some (.cells #[.int .i64 p0, .int .i64 p1, .int .i64 p2, .int .i64 p3, .int .i64 p4, .int .i64 p5, .int .i64 c, .int .u64 st, .int .i64 3, .int .u64 (s.cellV p4 c 0), .float .f64 va, .int .i64 (wrap64 (sp + 1)), .bool tn] 177 (0, 0)) ∧ Mod [a, b, k] w w' := by
  have He := Lib.hid he
  clear he
  have Hv := Lib.hid hv
  clear hv
  have hka : k ≠ a := blk_ne hk hM.hd (by decide)
  have hkb : k ≠ b := blk_ne hk hM.ws (by decide)
  have r0 : w.cell? ⟨k, 0, none⟩ = some (.int .i64 p0) := cell_of_blk hk rfl
  have r1 : w.cell? ⟨k, 1, none⟩ = some (.int .i64 p1) := cell_of_blk hk rfl
  have r2 : w.cell? ⟨k, 2, none⟩ = some (.int .i64 p2) := cell_of_blk hk rfl
  have r3 : w.cell? ⟨k, 3, none⟩ = some (.int .i64 p3) := cell_of_blk hk rfl
  have r4 : w.cell? ⟨k, 4, none⟩ = some (.int .i64 p4) := cell_of_blk hk rfl
  have r5 : w.cell? ⟨k, 5, none⟩ = some (.int .i64 p5) := cell_of_blk hk rfl
  have r6 : w.cell? ⟨k, 6, none⟩ = some (.int .i64 c) := cell_of_blk hk rfl
  have r8 : w.cell? ⟨k, 8, none⟩ = some (.int .i64 0) := cell_of_blk hk rfl
  go_enter Try.func78, Try.ntmps78
  go_wp2_with fail
  refine (next0 hk).mono ?_; rintro e w1 ⟨rfl, hw1⟩
  have hw1' := hw1.symm
  subst hw1'
  go_upto_region 4 with fail
  go_cut [8, 9] (fun A C wx => A = .int .u64 (s.cellV p4 c 0) ∧ C = .int .i64 (s.cellE p4 c 0) ∧ MemAt 142 wx a b (s.cellM p4 c 0) ∧ wx.heap[k]? = some (.cells #[.int .i64 p0, .int .i64 p1, .int .i64 p2, .int .i64 p3, .int .i64 p4, .int .i64 p5, .int .i64 c, .int .u64 st, .int .i64 0, .int .u64 ve, .float .f64 va, .int .i64 sp, .bool tn] 177 (0, 0)) ∧ Mod [a, b, k] w wx)
  case first =>
    go_region_held3 (fun wx => wx.cell? ⟨k, 0, none⟩ = some (.int .i64 p0) ∧ wx.cell? ⟨k, 1, none⟩ = some (.int .i64 p1) ∧ wx.cell? ⟨k, 2, none⟩ = some (.int .i64 p2) ∧ wx.cell? ⟨k, 3, none⟩ = some (.int .i64 p3) ∧ wx.cell? ⟨k, 4, none⟩ = some (.int .i64 p4) ∧ wx.cell? ⟨k, 5, none⟩ = some (.int .i64 p5) ∧ wx.cell? ⟨k, 6, none⟩ = some (.int .i64 c)) (first | exact ⟨r0, r1, r2, r3, r4, r5, r6⟩ | exact ⟨cell_of_blk K2 rfl, cell_of_blk K2 rfl, cell_of_blk K2 rfl, cell_of_blk K2 rfl, cell_of_blk K2 rfl, cell_of_blk K2 rfl, cell_of_blk K2 rfl⟩)
      (first | (go_at_call 129; refine (load11 hM.drew p0 p1 p2 p3 p4 p5 c 0 (by omega) (by omega)).mono ?_; rintro e w2 ⟨rfl, M2, d2⟩; have K2 := d2.at (k := k) (o := .cells #[.int .i64 p0, .int .i64 p1, .int .i64 p2, .int .i64 p3, .int .i64 p4, .int .i64 p5, .int .i64 c, .int .u64 st, .int .i64 0, .int .u64 ve, .float .f64 va, .int .i64 sp, .bool tn] 177 (0, 0)) hk (by simp [hka, hkb])))
    all_goals
      go_wp2_with fail
      go_meet
      exact ⟨rfl, rfl, M2, K2, (Mod.refl _ _).drew.trans (d2.mono (by simp))⟩
  case rest =>
    obtain ⟨rfl, rfl, M3, K3, D3⟩ := hcut
    clear r0 r1 r2 r3 r4 r5 r6 r8 hM hk
    obtain ⟨w3, rfl⟩ : ∃ w3, w3 = wc := ⟨_, rfl⟩
    rw [He.out]
    have r11 : w3.cell? ⟨k, 11, none⟩ = some (.int .i64 sp) := cell_of_blk K3 rfl
    have z11 := free_of_blk (i := 11) K3
    go_upto_region 8 with fail
    have K4 := blk_setCell_same (i := 11) (.int .i64 (wrap64 (sp + 1))) K3
    simp only [List.setIfInBounds_toArray, List.set_cons_succ, List.set_cons_zero] at K4
    have M4 := M3.other k 11 (.int .i64 (wrap64 (sp + 1))) (Ne.symm hka) (Ne.symm hkb)
    have D4 := D3.setCell ⟨k, 11, none⟩ (.int .i64 (wrap64 (sp + 1))) (.inl (by simp))
    clear r11 z11 K3 M3 D3
    generalize w3.setCell ⟨k, 11, none⟩ (.int .i64 (wrap64 (sp + 1))) = w4 at *
    go_wp2_with fail
    refine (begin_gt K4 _ Hv.out).mono ?_; rintro e w5 ⟨rfl, K5, d5⟩
    have M5 := M4.mod d5 (by simp [Ne.symm hka]) (by simp [Ne.symm hkb])
    have D5 : Mod [a, b, k] w w5 := D4.trans (d5.mono (by simp))
    have r8 : w5.cell? ⟨k, 8, none⟩ = some (.int .i64 3) := cell_of_blk K5 rfl
    clear K4 M4 D4 d5 He Hv
    go_wp2
    go_ret2
    exact ⟨rfl, M5, K5, D5⟩

set_option maxRecDepth 100000 in
set_option maxHeartbeats 40000000 in
theorem rok0_le (hM : MemAt 142 w a b s) (hk : w.heap[k]? = some (.cells #[.int .i64 p0, .int .i64 p1, .int .i64 p2, .int .i64 p3, .int .i64 p4, .int .i64 p5, .int .i64 c, .int .u64 st, .int .i64 0, .int .u64 ve, .float .f64 va, .int .i64 sp, .bool tn] 177 (0, 0))) (he : s.cellE p4 c 0 = 0) (hv : s.cellV p4 c 0 ≤ st) :
    Calls Try.prog 78 #[.pointer (some ⟨k, 0, none⟩), .pointer (some ⟨a, 0, none⟩)] w fun e w' => e = .returned (.tuple #[.bool false, .int .i64 0]) ∧ MemAt 142 w' a b (s.cellM p4 c 0) ∧ w'.heap[k]? = some (.cells #[.int .i64 p0, .int .i64 p1, .int .i64 p2, .int .i64 p3, .int .i64 p4, .int .i64 p5, .int .i64 c, .int .u64 st, .int .i64 1, .int .u64 (s.cellV p4 c 0), .float .f64 va, .int .i64 (wrap64 (sp + 1)), .bool tn] 177 (0, 0)) ∧ Mod [a, b, k] w w' := by
  have He := Lib.hid he
  clear he
  have Hv := Lib.hid hv
  clear hv
  have hka : k ≠ a := blk_ne hk hM.hd (by decide)
  have hkb : k ≠ b := blk_ne hk hM.ws (by decide)
  have r0 : w.cell? ⟨k, 0, none⟩ = some (.int .i64 p0) := cell_of_blk hk rfl
  have r1 : w.cell? ⟨k, 1, none⟩ = some (.int .i64 p1) := cell_of_blk hk rfl
  have r2 : w.cell? ⟨k, 2, none⟩ = some (.int .i64 p2) := cell_of_blk hk rfl
  have r3 : w.cell? ⟨k, 3, none⟩ = some (.int .i64 p3) := cell_of_blk hk rfl
  have r4 : w.cell? ⟨k, 4, none⟩ = some (.int .i64 p4) := cell_of_blk hk rfl
  have r5 : w.cell? ⟨k, 5, none⟩ = some (.int .i64 p5) := cell_of_blk hk rfl
  have r6 : w.cell? ⟨k, 6, none⟩ = some (.int .i64 c) := cell_of_blk hk rfl
  have r8 : w.cell? ⟨k, 8, none⟩ = some (.int .i64 0) := cell_of_blk hk rfl
  go_enter Try.func78, Try.ntmps78
  go_wp2_with fail
  refine (next0 hk).mono ?_; rintro e w1 ⟨rfl, hw1⟩
  have hw1' := hw1.symm
  subst hw1'
  go_upto_region 4 with fail
  go_cut [8, 9] (fun A C wx => A = .int .u64 (s.cellV p4 c 0) ∧ C = .int .i64 (s.cellE p4 c 0) ∧ MemAt 142 wx a b (s.cellM p4 c 0) ∧ wx.heap[k]? = some (.cells #[.int .i64 p0, .int .i64 p1, .int .i64 p2, .int .i64 p3, .int .i64 p4, .int .i64 p5, .int .i64 c, .int .u64 st, .int .i64 0, .int .u64 ve, .float .f64 va, .int .i64 sp, .bool tn] 177 (0, 0)) ∧ Mod [a, b, k] w wx)
  case first =>
    go_region_held3 (fun wx => wx.cell? ⟨k, 0, none⟩ = some (.int .i64 p0) ∧ wx.cell? ⟨k, 1, none⟩ = some (.int .i64 p1) ∧ wx.cell? ⟨k, 2, none⟩ = some (.int .i64 p2) ∧ wx.cell? ⟨k, 3, none⟩ = some (.int .i64 p3) ∧ wx.cell? ⟨k, 4, none⟩ = some (.int .i64 p4) ∧ wx.cell? ⟨k, 5, none⟩ = some (.int .i64 p5) ∧ wx.cell? ⟨k, 6, none⟩ = some (.int .i64 c)) (first | exact ⟨r0, r1, r2, r3, r4, r5, r6⟩ | exact ⟨cell_of_blk K2 rfl, cell_of_blk K2 rfl, cell_of_blk K2 rfl, cell_of_blk K2 rfl, cell_of_blk K2 rfl, cell_of_blk K2 rfl, cell_of_blk K2 rfl⟩)
      (first | (go_at_call 129; refine (load11 hM.drew p0 p1 p2 p3 p4 p5 c 0 (by omega) (by omega)).mono ?_; rintro e w2 ⟨rfl, M2, d2⟩; have K2 := d2.at (k := k) (o := .cells #[.int .i64 p0, .int .i64 p1, .int .i64 p2, .int .i64 p3, .int .i64 p4, .int .i64 p5, .int .i64 c, .int .u64 st, .int .i64 0, .int .u64 ve, .float .f64 va, .int .i64 sp, .bool tn] 177 (0, 0)) hk (by simp [hka, hkb])))
    all_goals
      go_wp2_with fail
      go_meet
      exact ⟨rfl, rfl, M2, K2, (Mod.refl _ _).drew.trans (d2.mono (by simp))⟩
  case rest =>
    obtain ⟨rfl, rfl, M3, K3, D3⟩ := hcut
    clear r0 r1 r2 r3 r4 r5 r6 r8 hM hk
    obtain ⟨w3, rfl⟩ : ∃ w3, w3 = wc := ⟨_, rfl⟩
    rw [He.out]
    have r11 : w3.cell? ⟨k, 11, none⟩ = some (.int .i64 sp) := cell_of_blk K3 rfl
    have z11 := free_of_blk (i := 11) K3
    go_upto_region 8 with fail
    have K4 := blk_setCell_same (i := 11) (.int .i64 (wrap64 (sp + 1))) K3
    simp only [List.setIfInBounds_toArray, List.set_cons_succ, List.set_cons_zero] at K4
    have M4 := M3.other k 11 (.int .i64 (wrap64 (sp + 1))) (Ne.symm hka) (Ne.symm hkb)
    have D4 := D3.setCell ⟨k, 11, none⟩ (.int .i64 (wrap64 (sp + 1))) (.inl (by simp))
    clear r11 z11 K3 M3 D3
    generalize w3.setCell ⟨k, 11, none⟩ (.int .i64 (wrap64 (sp + 1))) = w4 at *
    go_wp2_with fail
    refine (begin_le K4 _ Hv.out).mono ?_; rintro e w5 ⟨rfl, K5, d5⟩
    have M5 := M4.mod d5 (by simp [Ne.symm hka]) (by simp [Ne.symm hkb])
    have D5 : Mod [a, b, k] w w5 := D4.trans (d5.mono (by simp))
    have r8 : w5.cell? ⟨k, 8, none⟩ = some (.int .i64 1) := cell_of_blk K5 rfl
    clear K4 M4 D4 d5 He Hv
    go_wp2
    go_ret2
    exact ⟨rfl, M5, K5, D5⟩

set_option maxRecDepth 100000 in
set_option maxHeartbeats 40000000 in
theorem rok1 (hM : MemAt 142 w a b s) (hk : w.heap[k]? = some (.cells #[.int .i64 p0, .int .i64 p1, .int .i64 p2, .int .i64 p3, .int .i64 p4, .int .i64 p5, .int .i64 c, .int .u64 st, .int .i64 1, .int .u64 ve, .float .f64 va, .int .i64 sp, .bool tn] 177 (0, 0))) (he : s.cellE p4 c 1 = 0) :
    Calls Try.prog 78 #[.pointer (some ⟨k, 0, none⟩), .pointer (some ⟨a, 0, none⟩)] w fun e w' => e = .returned (.tuple #[.bool false, .int .i64 0]) ∧ MemAt 142 w' a b (s.cellM p4 c 1) ∧ w'.heap[k]? = some (.cells #[.int .i64 p0, .int .i64 p1, .int .i64 p2, .int .i64 p3, .int .i64 p4, .int .i64 p5, .int .i64 c, .int .u64 st, .int .i64 2, .int .u64 ve, .float .f64 (fixB (s.cellV p4 c 1).toNat), .int .i64 (wrap64 (sp + 1)), .bool tn] 177 (0, 0)) ∧ Mod [a, b, k] w w' := by
  have He := Lib.hid he
  clear he
  have hka : k ≠ a := blk_ne hk hM.hd (by decide)
  have hkb : k ≠ b := blk_ne hk hM.ws (by decide)
  have r0 : w.cell? ⟨k, 0, none⟩ = some (.int .i64 p0) := cell_of_blk hk rfl
  have r1 : w.cell? ⟨k, 1, none⟩ = some (.int .i64 p1) := cell_of_blk hk rfl
  have r2 : w.cell? ⟨k, 2, none⟩ = some (.int .i64 p2) := cell_of_blk hk rfl
  have r3 : w.cell? ⟨k, 3, none⟩ = some (.int .i64 p3) := cell_of_blk hk rfl
  have r4 : w.cell? ⟨k, 4, none⟩ = some (.int .i64 p4) := cell_of_blk hk rfl
  have r5 : w.cell? ⟨k, 5, none⟩ = some (.int .i64 p5) := cell_of_blk hk rfl
  have r6 : w.cell? ⟨k, 6, none⟩ = some (.int .i64 c) := cell_of_blk hk rfl
  have r8 : w.cell? ⟨k, 8, none⟩ = some (.int .i64 1) := cell_of_blk hk rfl
  go_enter Try.func78, Try.ntmps78
  go_wp2_with fail
  refine (next1 hk).mono ?_; rintro e w1 ⟨rfl, hw1⟩
  have hw1' := hw1.symm
  subst hw1'
  go_upto_region 4 with fail
  go_cut [8, 9] (fun A C wx => A = .int .u64 (s.cellV p4 c 1) ∧ C = .int .i64 (s.cellE p4 c 1) ∧ MemAt 142 wx a b (s.cellM p4 c 1) ∧ wx.heap[k]? = some (.cells #[.int .i64 p0, .int .i64 p1, .int .i64 p2, .int .i64 p3, .int .i64 p4, .int .i64 p5, .int .i64 c, .int .u64 st, .int .i64 1, .int .u64 ve, .float .f64 va, .int .i64 sp, .bool tn] 177 (0, 0)) ∧ Mod [a, b, k] w wx)
  case first =>
    go_region_held3 (fun wx => wx.cell? ⟨k, 0, none⟩ = some (.int .i64 p0) ∧ wx.cell? ⟨k, 1, none⟩ = some (.int .i64 p1) ∧ wx.cell? ⟨k, 2, none⟩ = some (.int .i64 p2) ∧ wx.cell? ⟨k, 3, none⟩ = some (.int .i64 p3) ∧ wx.cell? ⟨k, 4, none⟩ = some (.int .i64 p4) ∧ wx.cell? ⟨k, 5, none⟩ = some (.int .i64 p5) ∧ wx.cell? ⟨k, 6, none⟩ = some (.int .i64 c)) (first | exact ⟨r0, r1, r2, r3, r4, r5, r6⟩ | exact ⟨cell_of_blk K2 rfl, cell_of_blk K2 rfl, cell_of_blk K2 rfl, cell_of_blk K2 rfl, cell_of_blk K2 rfl, cell_of_blk K2 rfl, cell_of_blk K2 rfl⟩)
      (first | (go_at_call 129; refine (load11 hM.drew p0 p1 p2 p3 p4 p5 c 1 (by omega) (by omega)).mono ?_; rintro e w2 ⟨rfl, M2, d2⟩; have K2 := d2.at (k := k) (o := .cells #[.int .i64 p0, .int .i64 p1, .int .i64 p2, .int .i64 p3, .int .i64 p4, .int .i64 p5, .int .i64 c, .int .u64 st, .int .i64 1, .int .u64 ve, .float .f64 va, .int .i64 sp, .bool tn] 177 (0, 0)) hk (by simp [hka, hkb])))
    all_goals
      go_wp2_with fail
      go_meet
      exact ⟨rfl, rfl, M2, K2, (Mod.refl _ _).drew.trans (d2.mono (by simp))⟩
  case rest =>
    obtain ⟨rfl, rfl, M3, K3, D3⟩ := hcut
    clear r0 r1 r2 r3 r4 r5 r6 r8 hM hk
    obtain ⟨w3, rfl⟩ : ∃ w3, w3 = wc := ⟨_, rfl⟩
    rw [He.out]
    have r11 : w3.cell? ⟨k, 11, none⟩ = some (.int .i64 sp) := cell_of_blk K3 rfl
    have z11 := free_of_blk (i := 11) K3
    go_upto_region 8 with fail
    have K4 := blk_setCell_same (i := 11) (.int .i64 (wrap64 (sp + 1))) K3
    simp only [List.setIfInBounds_toArray, List.set_cons_succ, List.set_cons_zero] at K4
    have M4 := M3.other k 11 (.int .i64 (wrap64 (sp + 1))) (Ne.symm hka) (Ne.symm hkb)
    have D4 := D3.setCell ⟨k, 11, none⟩ (.int .i64 (wrap64 (sp + 1))) (.inl (by simp))
    clear r11 z11 K3 M3 D3
    generalize w3.setCell ⟨k, 11, none⟩ (.int .i64 (wrap64 (sp + 1))) = w4 at *
    go_wp2_with fail
    refine (take1 K4 _).mono ?_; rintro e w5 ⟨rfl, K5, d5⟩
    have M5 := M4.mod d5 (by simp [Ne.symm hka]) (by simp [Ne.symm hkb])
    have D5 : Mod [a, b, k] w w5 := D4.trans (d5.mono (by simp))
    have r8 : w5.cell? ⟨k, 8, none⟩ = some (.int .i64 2) := cell_of_blk K5 rfl
    clear K4 M4 D4 d5 He
    go_wp2
    go_ret2
    exact ⟨rfl, M5, K5, D5⟩

set_option maxRecDepth 100000 in
set_option maxHeartbeats 40000000 in
theorem rok2_eq (hM : MemAt 142 w a b s) (hk : w.heap[k]? = some (.cells #[.int .i64 p0, .int .i64 p1, .int .i64 p2, .int .i64 p3, .int .i64 p4, .int .i64 p5, .int .i64 c, .int .u64 st, .int .i64 2, .int .u64 ve, .float .f64 va, .int .i64 sp, .bool tn] 177 (0, 0))) (he : s.cellE p4 c 0 = 0) (hv : (s.cellV p4 c 0 != ve) = false) :
    Calls Try.prog 78 #[.pointer (some ⟨k, 0, none⟩), .pointer (some ⟨a, 0, none⟩)] w fun e w' => e = .returned (.tuple #[.bool true, .int .i64 0]) ∧ MemAt 142 w' a b (s.cellM p4 c 0) ∧ w'.heap[k]? = some (.cells #[.int .i64 p0, .int .i64 p1, .int .i64 p2, .int .i64 p3, .int .i64 p4, .int .i64 p5, .int .i64 c, .int .u64 st, .int .i64 4, .int .u64 ve, .float .f64 va, .int .i64 (wrap64 (sp + 1)), .bool false] 177 (0, 0)) ∧ Mod [a, b, k] w w' := by
  have He := Lib.hid he
  clear he
  have Hv := Lib.hid hv
  clear hv
  have hka : k ≠ a := blk_ne hk hM.hd (by decide)
  have hkb : k ≠ b := blk_ne hk hM.ws (by decide)
  have r0 : w.cell? ⟨k, 0, none⟩ = some (.int .i64 p0) := cell_of_blk hk rfl
  have r1 : w.cell? ⟨k, 1, none⟩ = some (.int .i64 p1) := cell_of_blk hk rfl
  have r2 : w.cell? ⟨k, 2, none⟩ = some (.int .i64 p2) := cell_of_blk hk rfl
  have r3 : w.cell? ⟨k, 3, none⟩ = some (.int .i64 p3) := cell_of_blk hk rfl
  have r4 : w.cell? ⟨k, 4, none⟩ = some (.int .i64 p4) := cell_of_blk hk rfl
  have r5 : w.cell? ⟨k, 5, none⟩ = some (.int .i64 p5) := cell_of_blk hk rfl
  have r6 : w.cell? ⟨k, 6, none⟩ = some (.int .i64 c) := cell_of_blk hk rfl
  have r8 : w.cell? ⟨k, 8, none⟩ = some (.int .i64 2) := cell_of_blk hk rfl
  go_enter Try.func78, Try.ntmps78
  go_wp2_with fail
  refine (next2 hk).mono ?_; rintro e w1 ⟨rfl, hw1⟩
  have hw1' := hw1.symm
  subst hw1'
  go_upto_region 4 with fail
  go_cut [8, 9] (fun A C wx => A = .int .u64 (s.cellV p4 c 0) ∧ C = .int .i64 (s.cellE p4 c 0) ∧ MemAt 142 wx a b (s.cellM p4 c 0) ∧ wx.heap[k]? = some (.cells #[.int .i64 p0, .int .i64 p1, .int .i64 p2, .int .i64 p3, .int .i64 p4, .int .i64 p5, .int .i64 c, .int .u64 st, .int .i64 2, .int .u64 ve, .float .f64 va, .int .i64 sp, .bool tn] 177 (0, 0)) ∧ Mod [a, b, k] w wx)
  case first =>
    go_region_held3 (fun wx => wx.cell? ⟨k, 0, none⟩ = some (.int .i64 p0) ∧ wx.cell? ⟨k, 1, none⟩ = some (.int .i64 p1) ∧ wx.cell? ⟨k, 2, none⟩ = some (.int .i64 p2) ∧ wx.cell? ⟨k, 3, none⟩ = some (.int .i64 p3) ∧ wx.cell? ⟨k, 4, none⟩ = some (.int .i64 p4) ∧ wx.cell? ⟨k, 5, none⟩ = some (.int .i64 p5) ∧ wx.cell? ⟨k, 6, none⟩ = some (.int .i64 c)) (first | exact ⟨r0, r1, r2, r3, r4, r5, r6⟩ | exact ⟨cell_of_blk K2 rfl, cell_of_blk K2 rfl, cell_of_blk K2 rfl, cell_of_blk K2 rfl, cell_of_blk K2 rfl, cell_of_blk K2 rfl, cell_of_blk K2 rfl⟩)
      (first | (go_at_call 129; refine (load11 hM.drew p0 p1 p2 p3 p4 p5 c 0 (by omega) (by omega)).mono ?_; rintro e w2 ⟨rfl, M2, d2⟩; have K2 := d2.at (k := k) (o := .cells #[.int .i64 p0, .int .i64 p1, .int .i64 p2, .int .i64 p3, .int .i64 p4, .int .i64 p5, .int .i64 c, .int .u64 st, .int .i64 2, .int .u64 ve, .float .f64 va, .int .i64 sp, .bool tn] 177 (0, 0)) hk (by simp [hka, hkb])))
    all_goals
      go_wp2_with fail
      go_meet
      exact ⟨rfl, rfl, M2, K2, (Mod.refl _ _).drew.trans (d2.mono (by simp))⟩
  case rest =>
    obtain ⟨rfl, rfl, M3, K3, D3⟩ := hcut
    clear r0 r1 r2 r3 r4 r5 r6 r8 hM hk
    obtain ⟨w3, rfl⟩ : ∃ w3, w3 = wc := ⟨_, rfl⟩
    rw [He.out]
    have r11 : w3.cell? ⟨k, 11, none⟩ = some (.int .i64 sp) := cell_of_blk K3 rfl
    have z11 := free_of_blk (i := 11) K3
    go_upto_region 8 with fail
    have K4 := blk_setCell_same (i := 11) (.int .i64 (wrap64 (sp + 1))) K3
    simp only [List.setIfInBounds_toArray, List.set_cons_succ, List.set_cons_zero] at K4
    have M4 := M3.other k 11 (.int .i64 (wrap64 (sp + 1))) (Ne.symm hka) (Ne.symm hkb)
    have D4 := D3.setCell ⟨k, 11, none⟩ (.int .i64 (wrap64 (sp + 1))) (.inl (by simp))
    clear r11 z11 K3 M3 D3
    generalize w3.setCell ⟨k, 11, none⟩ (.int .i64 (wrap64 (sp + 1))) = w4 at *
    go_wp2_with fail
    refine (again_eq K4 _ Hv.out).mono ?_; rintro e w5 ⟨rfl, K5, d5⟩
    have M5 := M4.mod d5 (by simp [Ne.symm hka]) (by simp [Ne.symm hkb])
    have D5 : Mod [a, b, k] w w5 := D4.trans (d5.mono (by simp))
    have r8 : w5.cell? ⟨k, 8, none⟩ = some (.int .i64 4) := cell_of_blk K5 rfl
    clear K4 M4 D4 d5 He Hv
    go_wp2
    go_ret2
    exact ⟨rfl, M5, K5, D5⟩

set_option maxRecDepth 100000 in
set_option maxHeartbeats 40000000 in
theorem rok2_ne (hM : MemAt 142 w a b s) (hk : w.heap[k]? = some (.cells #[.int .i64 p0, .int .i64 p1, .int .i64 p2, .int .i64 p3, .int .i64 p4, .int .i64 p5, .int .i64 c, .int .u64 st, .int .i64 2, .int .u64 ve, .float .f64 va, .int .i64 sp, .bool tn] 177 (0, 0))) (he : s.cellE p4 c 0 = 0) (hv : (s.cellV p4 c 0 != ve) = true) :
    Calls Try.prog 78 #[.pointer (some ⟨k, 0, none⟩), .pointer (some ⟨a, 0, none⟩)] w fun e w' => e = .returned (.tuple #[.bool false, .int .i64 0]) ∧ MemAt 142 w' a b (s.cellM p4 c 0) ∧ w'.heap[k]? = some (.cells #[.int .i64 p0, .int .i64 p1, .int .i64 p2, .int .i64 p3, .int .i64 p4, .int .i64 p5, .int .i64 c, .int .u64 st, .int .i64 3, .int .u64 ve, .float .f64 va, .int .i64 (wrap64 (sp + 1)), .bool true] 177 (0, 0)) ∧ Mod [a, b, k] w w' := by
  have He := Lib.hid he
  clear he
  have Hv := Lib.hid hv
  clear hv
  have hka : k ≠ a := blk_ne hk hM.hd (by decide)
  have hkb : k ≠ b := blk_ne hk hM.ws (by decide)
  have r0 : w.cell? ⟨k, 0, none⟩ = some (.int .i64 p0) := cell_of_blk hk rfl
  have r1 : w.cell? ⟨k, 1, none⟩ = some (.int .i64 p1) := cell_of_blk hk rfl
  have r2 : w.cell? ⟨k, 2, none⟩ = some (.int .i64 p2) := cell_of_blk hk rfl
  have r3 : w.cell? ⟨k, 3, none⟩ = some (.int .i64 p3) := cell_of_blk hk rfl
  have r4 : w.cell? ⟨k, 4, none⟩ = some (.int .i64 p4) := cell_of_blk hk rfl
  have r5 : w.cell? ⟨k, 5, none⟩ = some (.int .i64 p5) := cell_of_blk hk rfl
  have r6 : w.cell? ⟨k, 6, none⟩ = some (.int .i64 c) := cell_of_blk hk rfl
  have r8 : w.cell? ⟨k, 8, none⟩ = some (.int .i64 2) := cell_of_blk hk rfl
  go_enter Try.func78, Try.ntmps78
  go_wp2_with fail
  refine (next2 hk).mono ?_; rintro e w1 ⟨rfl, hw1⟩
  have hw1' := hw1.symm
  subst hw1'
  go_upto_region 4 with fail
  go_cut [8, 9] (fun A C wx => A = .int .u64 (s.cellV p4 c 0) ∧ C = .int .i64 (s.cellE p4 c 0) ∧ MemAt 142 wx a b (s.cellM p4 c 0) ∧ wx.heap[k]? = some (.cells #[.int .i64 p0, .int .i64 p1, .int .i64 p2, .int .i64 p3, .int .i64 p4, .int .i64 p5, .int .i64 c, .int .u64 st, .int .i64 2, .int .u64 ve, .float .f64 va, .int .i64 sp, .bool tn] 177 (0, 0)) ∧ Mod [a, b, k] w wx)
  case first =>
    go_region_held3 (fun wx => wx.cell? ⟨k, 0, none⟩ = some (.int .i64 p0) ∧ wx.cell? ⟨k, 1, none⟩ = some (.int .i64 p1) ∧ wx.cell? ⟨k, 2, none⟩ = some (.int .i64 p2) ∧ wx.cell? ⟨k, 3, none⟩ = some (.int .i64 p3) ∧ wx.cell? ⟨k, 4, none⟩ = some (.int .i64 p4) ∧ wx.cell? ⟨k, 5, none⟩ = some (.int .i64 p5) ∧ wx.cell? ⟨k, 6, none⟩ = some (.int .i64 c)) (first | exact ⟨r0, r1, r2, r3, r4, r5, r6⟩ | exact ⟨cell_of_blk K2 rfl, cell_of_blk K2 rfl, cell_of_blk K2 rfl, cell_of_blk K2 rfl, cell_of_blk K2 rfl, cell_of_blk K2 rfl, cell_of_blk K2 rfl⟩)
      (first | (go_at_call 129; refine (load11 hM.drew p0 p1 p2 p3 p4 p5 c 0 (by omega) (by omega)).mono ?_; rintro e w2 ⟨rfl, M2, d2⟩; have K2 := d2.at (k := k) (o := .cells #[.int .i64 p0, .int .i64 p1, .int .i64 p2, .int .i64 p3, .int .i64 p4, .int .i64 p5, .int .i64 c, .int .u64 st, .int .i64 2, .int .u64 ve, .float .f64 va, .int .i64 sp, .bool tn] 177 (0, 0)) hk (by simp [hka, hkb])))
    all_goals
      go_wp2_with fail
      go_meet
      exact ⟨rfl, rfl, M2, K2, (Mod.refl _ _).drew.trans (d2.mono (by simp))⟩
  case rest =>
    obtain ⟨rfl, rfl, M3, K3, D3⟩ := hcut
    clear r0 r1 r2 r3 r4 r5 r6 r8 hM hk
    obtain ⟨w3, rfl⟩ : ∃ w3, w3 = wc := ⟨_, rfl⟩
    rw [He.out]
    have r11 : w3.cell? ⟨k, 11, none⟩ = some (.int .i64 sp) := cell_of_blk K3 rfl
    have z11 := free_of_blk (i := 11) K3
    go_upto_region 8 with fail
    have K4 := blk_setCell_same (i := 11) (.int .i64 (wrap64 (sp + 1))) K3
    simp only [List.setIfInBounds_toArray, List.set_cons_succ, List.set_cons_zero] at K4
    have M4 := M3.other k 11 (.int .i64 (wrap64 (sp + 1))) (Ne.symm hka) (Ne.symm hkb)
    have D4 := D3.setCell ⟨k, 11, none⟩ (.int .i64 (wrap64 (sp + 1))) (.inl (by simp))
    clear r11 z11 K3 M3 D3
    generalize w3.setCell ⟨k, 11, none⟩ (.int .i64 (wrap64 (sp + 1))) = w4 at *
    go_wp2_with fail
    refine (again_ne K4 _ Hv.out).mono ?_; rintro e w5 ⟨rfl, K5, d5⟩
    have M5 := M4.mod d5 (by simp [Ne.symm hka]) (by simp [Ne.symm hkb])
    have D5 : Mod [a, b, k] w w5 := D4.trans (d5.mono (by simp))
    have r8 : w5.cell? ⟨k, 8, none⟩ = some (.int .i64 3) := cell_of_blk K5 rfl
    clear K4 M4 D4 d5 He Hv
    go_wp2
    go_ret2
    exact ⟨rfl, M5, K5, D5⟩

set_option maxRecDepth 100000 in
set_option maxHeartbeats 40000000 in
theorem rok3 (hM : MemAt 142 w a b s) (hk : w.heap[k]? = some (.cells #[.int .i64 p0, .int .i64 p1, .int .i64 p2, .int .i64 p3, .int .i64 p4, .int .i64 p5, .int .i64 c, .int .u64 st, .int .i64 3, .int .u64 ve, .float .f64 va, .int .i64 sp, .bool tn] 177 (0, 0))) (he : s.cellE p4 c 2 = 0) :
    Calls Try.prog 78 #[.pointer (some ⟨k, 0, none⟩), .pointer (some ⟨a, 0, none⟩)] w fun e w' => e = .returned (.tuple #[.bool true, .int .i64 0]) ∧ MemAt 142 w' a b (s.cellM p4 c 2) ∧ w'.heap[k]? = some (.cells #[.int .i64 p0, .int .i64 p1, .int .i64 p2, .int .i64 p3, .int .i64 p4, .int .i64 p5, .int .i64 c, .int .u64 st, .int .i64 4, .int .u64 ve, .float .f64 (fixB (s.cellV p4 c 2).toNat), .int .i64 (wrap64 (sp + 1)), .bool tn] 177 (0, 0)) ∧ Mod [a, b, k] w w' := by
  have He := Lib.hid he
  clear he
  have hka : k ≠ a := blk_ne hk hM.hd (by decide)
  have hkb : k ≠ b := blk_ne hk hM.ws (by decide)
  have r0 : w.cell? ⟨k, 0, none⟩ = some (.int .i64 p0) := cell_of_blk hk rfl
  have r1 : w.cell? ⟨k, 1, none⟩ = some (.int .i64 p1) := cell_of_blk hk rfl
  have r2 : w.cell? ⟨k, 2, none⟩ = some (.int .i64 p2) := cell_of_blk hk rfl
  have r3 : w.cell? ⟨k, 3, none⟩ = some (.int .i64 p3) := cell_of_blk hk rfl
  have r4 : w.cell? ⟨k, 4, none⟩ = some (.int .i64 p4) := cell_of_blk hk rfl
  have r5 : w.cell? ⟨k, 5, none⟩ = some (.int .i64 p5) := cell_of_blk hk rfl
  have r6 : w.cell? ⟨k, 6, none⟩ = some (.int .i64 c) := cell_of_blk hk rfl
  have r8 : w.cell? ⟨k, 8, none⟩ = some (.int .i64 3) := cell_of_blk hk rfl
  go_enter Try.func78, Try.ntmps78
  go_wp2_with fail
  refine (next3 hk).mono ?_; rintro e w1 ⟨rfl, hw1⟩
  have hw1' := hw1.symm
  subst hw1'
  go_upto_region 4 with fail
  go_cut [8, 9] (fun A C wx => A = .int .u64 (s.cellV p4 c 2) ∧ C = .int .i64 (s.cellE p4 c 2) ∧ MemAt 142 wx a b (s.cellM p4 c 2) ∧ wx.heap[k]? = some (.cells #[.int .i64 p0, .int .i64 p1, .int .i64 p2, .int .i64 p3, .int .i64 p4, .int .i64 p5, .int .i64 c, .int .u64 st, .int .i64 3, .int .u64 ve, .float .f64 va, .int .i64 sp, .bool tn] 177 (0, 0)) ∧ Mod [a, b, k] w wx)
  case first =>
    go_region_held3 (fun wx => wx.cell? ⟨k, 0, none⟩ = some (.int .i64 p0) ∧ wx.cell? ⟨k, 1, none⟩ = some (.int .i64 p1) ∧ wx.cell? ⟨k, 2, none⟩ = some (.int .i64 p2) ∧ wx.cell? ⟨k, 3, none⟩ = some (.int .i64 p3) ∧ wx.cell? ⟨k, 4, none⟩ = some (.int .i64 p4) ∧ wx.cell? ⟨k, 5, none⟩ = some (.int .i64 p5) ∧ wx.cell? ⟨k, 6, none⟩ = some (.int .i64 c)) (first | exact ⟨r0, r1, r2, r3, r4, r5, r6⟩ | exact ⟨cell_of_blk K2 rfl, cell_of_blk K2 rfl, cell_of_blk K2 rfl, cell_of_blk K2 rfl, cell_of_blk K2 rfl, cell_of_blk K2 rfl, cell_of_blk K2 rfl⟩)
      (first | (go_at_call 129; refine (load11 hM.drew p0 p1 p2 p3 p4 p5 c 2 (by omega) (by omega)).mono ?_; rintro e w2 ⟨rfl, M2, d2⟩; have K2 := d2.at (k := k) (o := .cells #[.int .i64 p0, .int .i64 p1, .int .i64 p2, .int .i64 p3, .int .i64 p4, .int .i64 p5, .int .i64 c, .int .u64 st, .int .i64 3, .int .u64 ve, .float .f64 va, .int .i64 sp, .bool tn] 177 (0, 0)) hk (by simp [hka, hkb])))
    all_goals
      go_wp2_with fail
      go_meet
      exact ⟨rfl, rfl, M2, K2, (Mod.refl _ _).drew.trans (d2.mono (by simp))⟩
  case rest =>
    obtain ⟨rfl, rfl, M3, K3, D3⟩ := hcut
    clear r0 r1 r2 r3 r4 r5 r6 r8 hM hk
    obtain ⟨w3, rfl⟩ : ∃ w3, w3 = wc := ⟨_, rfl⟩
    rw [He.out]
    have r11 : w3.cell? ⟨k, 11, none⟩ = some (.int .i64 sp) := cell_of_blk K3 rfl
    have z11 := free_of_blk (i := 11) K3
    go_upto_region 8 with fail
    have K4 := blk_setCell_same (i := 11) (.int .i64 (wrap64 (sp + 1))) K3
    simp only [List.setIfInBounds_toArray, List.set_cons_succ, List.set_cons_zero] at K4
    have M4 := M3.other k 11 (.int .i64 (wrap64 (sp + 1))) (Ne.symm hka) (Ne.symm hkb)
    have D4 := D3.setCell ⟨k, 11, none⟩ (.int .i64 (wrap64 (sp + 1))) (.inl (by simp))
    clear r11 z11 K3 M3 D3
    generalize w3.setCell ⟨k, 11, none⟩ (.int .i64 (wrap64 (sp + 1))) = w4 at *
    go_wp2_with fail
    refine (end3 K4 _).mono ?_; rintro e w5 ⟨rfl, K5, d5⟩
    have M5 := M4.mod d5 (by simp [Ne.symm hka]) (by simp [Ne.symm hkb])
    have D5 : Mod [a, b, k] w w5 := D4.trans (d5.mono (by simp))
    have r8 : w5.cell? ⟨k, 8, none⟩ = some (.int .i64 4) := cell_of_blk K5 rfl
    clear K4 M4 D4 d5 He
    go_wp2
    go_ret2
    exact ⟨rfl, M5, K5, D5⟩

end Go.Proofs.Ytobmgnoceacoaaa

/- Layer 11: readings. -/
import Derived.Test.YtobmgnoceacoaaaXL
import Derived.Deep.QuietTactic
import Derived.BigQuiet
import Derived.Deep.DeepCutAuto
import Derived.Deep.CutBlock
import Derived.Deep.RegionHeld3
import Derived.StillTailTactics
import Derived.IntWalk
namespace Go.Proofs.Ytobmgnoceacoaaa
open Go.RowKit
attribute [local go_sem] run_store_float

/-- A reading. -/
structure RdS where
  (p0 p1 p2 p3 p4 p5 c st pa ve : Int)
  va : Nat
  sp : Int
  tn : Bool
def RdS.arr (r : RdS) : Array Value := #[.int .i64 r.p0, .int .i64 r.p1, .int .i64 r.p2, .int .i64 r.p3, .int .i64 r.p4, .int .i64 r.p5, .int .i64 r.c, .int .u64 r.st, .int .i64 r.pa, .int .u64 r.ve, .float .f64 r.va, .int .i64 r.sp, .bool r.tn]
/-- Which word comes next. -/
def RdS.which (r : RdS) : Int := if r.pa = 1 then 1 else if r.pa = 3 then 2 else 0
def RdS.err (r : RdS) (s : MemS) : Int := if r.pa = 4 then 3 else s.cellE r.p4 r.c r.which
def RdS.mem (r : RdS) (s : MemS) : MemS := if r.pa = 4 then s else s.cellM r.p4 r.c r.which
def RdS.took (r : RdS) (w : Int) : RdS :=
  if r.pa = 0 then { r with ve := w, pa := if r.st < w then 3 else 1, sp := wrap64 (r.sp + 1) }
  else if r.pa = 1 then { r with va := fixB w.toNat, pa := 2, sp := wrap64 (r.sp + 1) }
  else if r.pa = 2 then { r with tn := w != r.ve, pa := if w = r.ve then 4 else 3, sp := wrap64 (r.sp + 1) }
  else { r with va := fixB w.toNat, pa := 4, sp := wrap64 (r.sp + 1) }
def RdS.next (r : RdS) (s : MemS) : RdS := if r.err s = 0 then r.took (s.cellV r.p4 r.c r.which) else r
def RdS.over (r : RdS) (s : MemS) : Bool := if r.err s = 0 then (r.next s).pa == 4 else false
variable {a b k : Nat} {s : MemS} {w : World} {p0 p1 p2 p3 p4 p5 c st pa ve sp : Int} {va : Nat} {tn : Bool}

set_option maxRecDepth 100000 in
set_option maxHeartbeats 4000000 in
theorem read11 (p0 p1 p2 p3 p4 p5 c st : Int) (w : World) :
    Calls Try.prog 76 #[.agg #[.int .i64 p0, .int .i64 p1, .int .i64 p2, .int .i64 p3, .int .i64 p4, .int .i64 p5], .int .i64 c, .int .u64 st] w fun e w' => ∃ k, e = .returned (.pointer (some ⟨k, 0, none⟩)) ∧ w'.heap[k]? = some (.cells (RdS.mk p0 p1 p2 p3 p4 p5 c st 0 0 0 0 false).arr 177 (0, 0)) ∧ w.heap.size ≤ k ∧ Mod [] w w' := by
  go_enter Try.func76, Try.ntmps76
  go_wp2
  go_ret
  exact ⟨_, rfl, by have h := heap_alloc_new (w.alloc (.cells #[.int .i64 p0, .int .i64 p1, .int .i64 p2, .int .i64 p3, .int .i64 p4, .int .i64 p5] 35)) (.cells (RdS.mk p0 p1 p2 p3 p4 p5 c st 0 0 0 0 false).arr 177); rw [World.size_alloc] at h; exact h, by omega, ((Mod.refl _ _).alloc _).alloc _⟩


set_option maxRecDepth 100000 in
set_option maxHeartbeats 4000000 in
theorem next0 (hk : w.heap[k]? = some (.cells #[.int .i64 p0, .int .i64 p1, .int .i64 p2, .int .i64 p3, .int .i64 p4, .int .i64 p5, .int .i64 c, .int .u64 st, .int .i64 0, .int .u64 ve, .float .f64 va, .int .i64 sp, .bool tn] 177 (0, 0))) :
    Calls Try.prog 128 #[.pointer (some ⟨k, 0, none⟩)] w fun e w' => e = .returned (.tuple #[.int .i64 0, .func (.func 152) #[.pointer (some ⟨k, 0, none⟩)] #[]]) ∧ w' = w := by
  have r8 : w.cell? ⟨k, 8, none⟩ = some (.int .i64 0) := cell_of_blk hk rfl
  go_enter Try.func128, Try.ntmps128
  go_wp2
  go_ret2
  exact ⟨rfl, rfl⟩

set_option maxRecDepth 100000 in
set_option maxHeartbeats 4000000 in
theorem next1 (hk : w.heap[k]? = some (.cells #[.int .i64 p0, .int .i64 p1, .int .i64 p2, .int .i64 p3, .int .i64 p4, .int .i64 p5, .int .i64 c, .int .u64 st, .int .i64 1, .int .u64 ve, .float .f64 va, .int .i64 sp, .bool tn] 177 (0, 0))) :
    Calls Try.prog 128 #[.pointer (some ⟨k, 0, none⟩)] w fun e w' => e = .returned (.tuple #[.int .i64 1, .func (.func 153) #[.pointer (some ⟨k, 0, none⟩)] #[]]) ∧ w' = w := by
  have r8 : w.cell? ⟨k, 8, none⟩ = some (.int .i64 1) := cell_of_blk hk rfl
  go_enter Try.func128, Try.ntmps128
  go_wp2
  go_ret2
  exact ⟨rfl, rfl⟩

set_option maxRecDepth 100000 in
set_option maxHeartbeats 4000000 in
theorem next2 (hk : w.heap[k]? = some (.cells #[.int .i64 p0, .int .i64 p1, .int .i64 p2, .int .i64 p3, .int .i64 p4, .int .i64 p5, .int .i64 c, .int .u64 st, .int .i64 2, .int .u64 ve, .float .f64 va, .int .i64 sp, .bool tn] 177 (0, 0))) :
    Calls Try.prog 128 #[.pointer (some ⟨k, 0, none⟩)] w fun e w' => e = .returned (.tuple #[.int .i64 0, .func (.func 154) #[.pointer (some ⟨k, 0, none⟩)] #[]]) ∧ w' = w := by
  have r8 : w.cell? ⟨k, 8, none⟩ = some (.int .i64 2) := cell_of_blk hk rfl
  go_enter Try.func128, Try.ntmps128
  go_wp2
  go_ret2
  exact ⟨rfl, rfl⟩

set_option maxRecDepth 100000 in
set_option maxHeartbeats 4000000 in
theorem next3 (hk : w.heap[k]? = some (.cells #[.int .i64 p0, .int .i64 p1, .int .i64 p2, .int .i64 p3, .int .i64 p4, .int .i64 p5, .int .i64 c, .int .u64 st, .int .i64 3, .int .u64 ve, .float .f64 va, .int .i64 sp, .bool tn] 177 (0, 0))) :
    Calls Try.prog 128 #[.pointer (some ⟨k, 0, none⟩)] w fun e w' => e = .returned (.tuple #[.int .i64 2, .func (.func 155) #[.pointer (some ⟨k, 0, none⟩)] #[]]) ∧ w' = w := by
  have r8 : w.cell? ⟨k, 8, none⟩ = some (.int .i64 3) := cell_of_blk hk rfl
  go_enter Try.func128, Try.ntmps128
  go_wp2
  go_ret2
  exact ⟨rfl, rfl⟩

set_option maxRecDepth 100000 in
set_option maxHeartbeats 4000000 in
theorem begin_gt (hk : w.heap[k]? = some (.cells #[.int .i64 p0, .int .i64 p1, .int .i64 p2, .int .i64 p3, .int .i64 p4, .int .i64 p5, .int .i64 c, .int .u64 st, .int .i64 0, .int .u64 ve, .float .f64 va, .int .i64 sp, .bool tn] 177 (0, 0))) (v : Int) (hv : st < v) :
    Calls Try.prog 152 #[.pointer (some ⟨k, 0, none⟩), .int .u64 v] w fun e w' => e = .returned (.tuple #[]) ∧ w'.heap[k]? = some (.cells #[.int .i64 p0, .int .i64 p1, .int .i64 p2, .int .i64 p3, .int .i64 p4, .int .i64 p5, .int .i64 c, .int .u64 st, .int .i64 3, .int .u64 v, .float .f64 va, .int .i64 sp, .bool tn] 177 (0, 0)) ∧ Mod [k] w w' := by
  have r7 : w.cell? ⟨k, 7, none⟩ = some (.int .u64 st) := cell_of_blk hk rfl
  have r8 : w.cell? ⟨k, 8, none⟩ = some (.int .i64 0) := cell_of_blk hk rfl
  have r9 : w.cell? ⟨k, 9, none⟩ = some (.int .u64 ve) := cell_of_blk hk rfl
  have f7 := free_of_blk (i := 7) hk
  have f8 := free_of_blk (i := 8) hk
  have f9 := free_of_blk (i := 9) hk
  have hkl := lt_of_block hk
  go_enter Try.func152, Try.ntmps152
  go_wp2
  go_end0
  refine ⟨rfl, ?_, ?_⟩
  · have h1 := blk_setCell_same (i := 9) (.int .u64 v) hk
    simp only [List.setIfInBounds_toArray, List.set_cons_succ, List.set_cons_zero] at h1
    have h2 := blk_setCell_same (i := 8) (.int .i64 1) h1
    simp only [List.setIfInBounds_toArray, List.set_cons_succ, List.set_cons_zero] at h2
    have h3 := blk_setCell_same (i := 8) (.int .i64 3) h2
    simp only [List.setIfInBounds_toArray, List.set_cons_succ, List.set_cons_zero] at h3
    exact h3
  · repeat (first | exact Mod.refl _ _ | refine Mod.setCell ?_ _ _ (.inl (by simp)) | refine Mod.alloc ?_ _)

set_option maxRecDepth 100000 in
set_option maxHeartbeats 4000000 in
theorem begin_le (hk : w.heap[k]? = some (.cells #[.int .i64 p0, .int .i64 p1, .int .i64 p2, .int .i64 p3, .int .i64 p4, .int .i64 p5, .int .i64 c, .int .u64 st, .int .i64 0, .int .u64 ve, .float .f64 va, .int .i64 sp, .bool tn] 177 (0, 0))) (v : Int) (hv : v ≤ st) :
    Calls Try.prog 152 #[.pointer (some ⟨k, 0, none⟩), .int .u64 v] w fun e w' => e = .returned (.tuple #[]) ∧ w'.heap[k]? = some (.cells #[.int .i64 p0, .int .i64 p1, .int .i64 p2, .int .i64 p3, .int .i64 p4, .int .i64 p5, .int .i64 c, .int .u64 st, .int .i64 1, .int .u64 v, .float .f64 va, .int .i64 sp, .bool tn] 177 (0, 0)) ∧ Mod [k] w w' := by
  have r7 : w.cell? ⟨k, 7, none⟩ = some (.int .u64 st) := cell_of_blk hk rfl
  have r8 : w.cell? ⟨k, 8, none⟩ = some (.int .i64 0) := cell_of_blk hk rfl
  have r9 : w.cell? ⟨k, 9, none⟩ = some (.int .u64 ve) := cell_of_blk hk rfl
  have f7 := free_of_blk (i := 7) hk
  have f8 := free_of_blk (i := 8) hk
  have f9 := free_of_blk (i := 9) hk
  have hkl := lt_of_block hk
  go_enter Try.func152, Try.ntmps152
  go_wp2
  go_end0
  refine ⟨rfl, ?_, ?_⟩
  · have h1 := blk_setCell_same (i := 9) (.int .u64 v) hk
    simp only [List.setIfInBounds_toArray, List.set_cons_succ, List.set_cons_zero] at h1
    have h2 := blk_setCell_same (i := 8) (.int .i64 1) h1
    simp only [List.setIfInBounds_toArray, List.set_cons_succ, List.set_cons_zero] at h2
    exact h2
  · repeat (first | exact Mod.refl _ _ | refine Mod.setCell ?_ _ _ (.inl (by simp)) | refine Mod.alloc ?_ _)

set_option maxRecDepth 100000 in
set_option maxHeartbeats 4000000 in
theorem take1 (hk : w.heap[k]? = some (.cells #[.int .i64 p0, .int .i64 p1, .int .i64 p2, .int .i64 p3, .int .i64 p4, .int .i64 p5, .int .i64 c, .int .u64 st, .int .i64 1, .int .u64 ve, .float .f64 va, .int .i64 sp, .bool tn] 177 (0, 0))) (v : Int) :
    Calls Try.prog 153 #[.pointer (some ⟨k, 0, none⟩), .int .u64 v] w fun e w' => e = .returned (.tuple #[]) ∧ w'.heap[k]? = some (.cells #[.int .i64 p0, .int .i64 p1, .int .i64 p2, .int .i64 p3, .int .i64 p4, .int .i64 p5, .int .i64 c, .int .u64 st, .int .i64 2, .int .u64 ve, .float .f64 (fixB v.toNat), .int .i64 sp, .bool tn] 177 (0, 0)) ∧ Mod [k] w w' := by
  have r8 : w.cell? ⟨k, 8, none⟩ = some (.int .i64 1) := cell_of_blk hk rfl
  have r10 : w.cell? ⟨k, 10, none⟩ = some (.float .f64 va) := cell_of_blk hk rfl
  have f8 := free_of_blk (i := 8) hk
  have f10 := free_of_blk (i := 10) hk
  have hkl := lt_of_block hk
  go_enter Try.func153, Try.ntmps153
  go_wp2_with fail
  refine (of_c v _).mono ?_; rintro e w1 ⟨rfl, hw1⟩
  have hw1' := hw1.symm
  subst hw1'
  go_wp2
  go_end0
  refine ⟨rfl, ?_, ?_⟩
  · have h1 := blk_setCell_same (i := 10) (.float .f64 (fixB v.toNat)) hk
    simp only [List.setIfInBounds_toArray, List.set_cons_succ, List.set_cons_zero] at h1
    have h2 := blk_setCell_same (i := 8) (.int .i64 2) h1
    simp only [List.setIfInBounds_toArray, List.set_cons_succ, List.set_cons_zero] at h2
    exact h2
  · repeat (first | exact Mod.refl _ _ | refine Mod.setCell ?_ _ _ (.inl (by simp)) | refine Mod.alloc ?_ _)

set_option maxRecDepth 100000 in
set_option maxHeartbeats 4000000 in
theorem again_eq (hk : w.heap[k]? = some (.cells #[.int .i64 p0, .int .i64 p1, .int .i64 p2, .int .i64 p3, .int .i64 p4, .int .i64 p5, .int .i64 c, .int .u64 st, .int .i64 2, .int .u64 ve, .float .f64 va, .int .i64 sp, .bool tn] 177 (0, 0))) (v : Int) (hv : (v != ve) = false) :
    Calls Try.prog 154 #[.pointer (some ⟨k, 0, none⟩), .int .u64 v] w fun e w' => e = .returned (.tuple #[]) ∧ w'.heap[k]? = some (.cells #[.int .i64 p0, .int .i64 p1, .int .i64 p2, .int .i64 p3, .int .i64 p4, .int .i64 p5, .int .i64 c, .int .u64 st, .int .i64 4, .int .u64 ve, .float .f64 va, .int .i64 sp, .bool false] 177 (0, 0)) ∧ Mod [k] w w' := by
  have r8 : w.cell? ⟨k, 8, none⟩ = some (.int .i64 2) := cell_of_blk hk rfl
  have r9 : w.cell? ⟨k, 9, none⟩ = some (.int .u64 ve) := cell_of_blk hk rfl
  have r12 : w.cell? ⟨k, 12, none⟩ = some (.bool tn) := cell_of_blk hk rfl
  have f8 := free_of_blk (i := 8) hk
  have f9 := free_of_blk (i := 9) hk
  have f12 := free_of_blk (i := 12) hk
  have hkl := lt_of_block hk
  go_enter Try.func154, Try.ntmps154
  go_wp2
  go_end0
  refine ⟨rfl, ?_, ?_⟩
  · have h1 := blk_setCell_same (i := 12) (.bool false) hk
    simp only [List.setIfInBounds_toArray, List.set_cons_succ, List.set_cons_zero] at h1
    have h2 := blk_setCell_same (i := 8) (.int .i64 4) h1
    simp only [List.setIfInBounds_toArray, List.set_cons_succ, List.set_cons_zero] at h2
    exact h2
  · repeat (first | exact Mod.refl _ _ | refine Mod.setCell ?_ _ _ (.inl (by simp)) | refine Mod.alloc ?_ _)

set_option maxRecDepth 100000 in
set_option maxHeartbeats 4000000 in
theorem again_ne (hk : w.heap[k]? = some (.cells #[.int .i64 p0, .int .i64 p1, .int .i64 p2, .int .i64 p3, .int .i64 p4, .int .i64 p5, .int .i64 c, .int .u64 st, .int .i64 2, .int .u64 ve, .float .f64 va, .int .i64 sp, .bool tn] 177 (0, 0))) (v : Int) (hv : (v != ve) = true) :
    Calls Try.prog 154 #[.pointer (some ⟨k, 0, none⟩), .int .u64 v] w fun e w' => e = .returned (.tuple #[]) ∧ w'.heap[k]? = some (.cells #[.int .i64 p0, .int .i64 p1, .int .i64 p2, .int .i64 p3, .int .i64 p4, .int .i64 p5, .int .i64 c, .int .u64 st, .int .i64 3, .int .u64 ve, .float .f64 va, .int .i64 sp, .bool true] 177 (0, 0)) ∧ Mod [k] w w' := by
  have r8 : w.cell? ⟨k, 8, none⟩ = some (.int .i64 2) := cell_of_blk hk rfl
  have r9 : w.cell? ⟨k, 9, none⟩ = some (.int .u64 ve) := cell_of_blk hk rfl
  have r12 : w.cell? ⟨k, 12, none⟩ = some (.bool tn) := cell_of_blk hk rfl
  have f8 := free_of_blk (i := 8) hk
  have f9 := free_of_blk (i := 9) hk
  have f12 := free_of_blk (i := 12) hk
  have hkl := lt_of_block hk
  go_enter Try.func154, Try.ntmps154
  go_wp2
  go_end0
  refine ⟨rfl, ?_, ?_⟩
  · have h1 := blk_setCell_same (i := 12) (.bool true) hk
    simp only [List.setIfInBounds_toArray, List.set_cons_succ, List.set_cons_zero] at h1
    have h2 := blk_setCell_same (i := 8) (.int .i64 4) h1
    simp only [List.setIfInBounds_toArray, List.set_cons_succ, List.set_cons_zero] at h2
    have h3 := blk_setCell_same (i := 8) (.int .i64 3) h2
    simp only [List.setIfInBounds_toArray, List.set_cons_succ, List.set_cons_zero] at h3
    exact h3
  · repeat (first | exact Mod.refl _ _ | refine Mod.setCell ?_ _ _ (.inl (by simp)) | refine Mod.alloc ?_ _)

set_option maxRecDepth 100000 in
set_option maxHeartbeats 4000000 in
theorem end3 (hk : w.heap[k]? = some (.cells #[.int .i64 p0, .int .i64 p1, .int .i64 p2, .int .i64 p3, .int .i64 p4, .int .i64 p5, .int .i64 c, .int .u64 st, .int .i64 3, .int .u64 ve, .float .f64 va, .int .i64 sp, .bool tn] 177 (0, 0))) (v : Int) :
    Calls Try.prog 155 #[.pointer (some ⟨k, 0, none⟩), .int .u64 v] w fun e w' => e = .returned (.tuple #[]) ∧ w'.heap[k]? = some (.cells #[.int .i64 p0, .int .i64 p1, .int .i64 p2, .int .i64 p3, .int .i64 p4, .int .i64 p5, .int .i64 c, .int .u64 st, .int .i64 4, .int .u64 ve, .float .f64 (fixB v.toNat), .int .i64 sp, .bool tn] 177 (0, 0)) ∧ Mod [k] w w' := by
  have r8 : w.cell? ⟨k, 8, none⟩ = some (.int .i64 3) := cell_of_blk hk rfl
  have r10 : w.cell? ⟨k, 10, none⟩ = some (.float .f64 va) := cell_of_blk hk rfl
  have f8 := free_of_blk (i := 8) hk
  have f10 := free_of_blk (i := 10) hk
  have hkl := lt_of_block hk
  go_enter Try.func155, Try.ntmps155
  go_wp2_with fail
  refine (of_c v _).mono ?_; rintro e w1 ⟨rfl, hw1⟩
  have hw1' := hw1.symm
  subst hw1'
  go_wp2
  go_end0
  refine ⟨rfl, ?_, ?_⟩
  · have h1 := blk_setCell_same (i := 10) (.float .f64 (fixB v.toNat)) hk
    simp only [List.setIfInBounds_toArray, List.set_cons_succ, List.set_cons_zero] at h1
    have h2 := blk_setCell_same (i := 8) (.int .i64 4) h1
    simp only [List.setIfInBounds_toArray, List.set_cons_succ, List.set_cons_zero] at h2
    exact h2
  · repeat (first | exact Mod.refl _ _ | refine Mod.setCell ?_ _ _ (.inl (by simp)) | refine Mod.alloc ?_ _)

end Go.Proofs.Ytobmgnoceacoaaa

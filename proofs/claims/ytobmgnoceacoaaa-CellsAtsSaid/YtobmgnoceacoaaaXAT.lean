/- CellsAts: the walk. -/
import Derived.Test.YtobmgnoceacoaaaXLV
import Derived.Deep.QuietTactic
import Derived.BigQuiet
import Derived.Deep.DeepCutAuto
import Derived.Deep.CutBlock
import Derived.Deep.RegionHeld3
import Derived.StillTailTactics
import Derived.IntWalk
namespace Go.Proofs.Ytobmgnoceacoaaa
open Go.RowKit
attribute [local go_sem] run_store_float

set_option maxRecDepth 100000 in
set_option maxHeartbeats 40000000 in
theorem cellsAts_walk (v n u st : Int) (w : World) : Calls Try.prog 20 #[.agg #[.int .u64 v, .int .u64 n, .int .u64 u], .int .u64 st] w fun e w' => e = .returned (.bool true) ∧ Mod [] w w' := by
  go_enter Try.func20, Try.ntmps20
  go_wp2_with fail
  refine (live11 _).mono ?_; rintro e w1 ⟨rfl, d1⟩
  have B1 : w1.heap[w.heap.size]? = some (.cells #[.int .u64 v, .int .u64 n, .int .u64 u] 30 (0, 0)) := d1.at (heap_alloc_new _ _) (by simp)
  have D1 : Mod [] w w1 := ((Mod.refl _ _).alloc _).trans d1
  have hb1 := lt_of_block B1
  clear d1
  generalize w.heap.size = tb at *
  have t0 : w1.cell? ⟨tb, 0, none⟩ = some (.int .u64 v) := cell_of_blk B1 rfl
  have t1 : w1.cell? ⟨tb, 1, none⟩ = some (.int .u64 n) := cell_of_blk B1 rfl
  have t2 : w1.cell? ⟨tb, 2, none⟩ = some (.int .u64 u) := cell_of_blk B1 rfl
  go_wp2_with fail
  refine (at11_r v n u st _).mono ?_; rintro e w2 ⟨rfl, hw2⟩
  have A2 : Mod [] w1 w2 := hw2 ▸ (Mod.refl _ _).alloc _
  have B2 := A2.at B1 (by simp)
  have D2 := D1.trans A2
  clear hw2 A2 B1 D1 t0 t1 t2
  have t0 : w2.cell? ⟨tb, 0, none⟩ = some (.int .u64 v) := cell_of_blk B2 rfl
  have t1 : w2.cell? ⟨tb, 1, none⟩ = some (.int .u64 n) := cell_of_blk B2 rfl
  have t2 : w2.cell? ⟨tb, 2, none⟩ = some (.int .u64 u) := cell_of_blk B2 rfl
  go_wp2_with fail
  refine (at11_c v n u st _).mono ?_; rintro e w3 ⟨rfl, hw3⟩
  have A3 : Mod [] w2 w3 := hw3 ▸ (Mod.refl _ _).alloc _
  have D3 := D2.trans A3
  clear hw3 A3 B2 D2 t0 t1 t2
  go_wp2_with fail
  refine (exact_c _ _).mono ?_; rintro e w4 ⟨rfl, hw4⟩
  have hw4' := hw4.symm
  subst hw4'
  go_wp2
  go_ret
  exact ⟨rfl, D3⟩

end Go.Proofs.Ytobmgnoceacoaaa

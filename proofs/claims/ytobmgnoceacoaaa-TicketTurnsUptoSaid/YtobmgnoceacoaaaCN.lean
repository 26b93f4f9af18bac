/- A scan: its steps, in the program and in the reference. -/
import Derived.Test.YtobmgnoceacoaaaCQ
import Derived.Test.YtobmgnoceacoaaaPlays03
import Derived.Deep.RegionWith
import Derived.Deep.QuietTactic
import Derived.BigQuiet
import Derived.Deep.DeepCutAuto
import Derived.Deep.CutBlock
import Derived.WalkMore
import Derived.ScopeJumps
namespace Go.Proofs.Ytobmgnoceacoaaa
open Go.RowKit

set_option maxRecDepth 100000 in
set_option maxHeartbeats 2000000 in
theorem scanA1_c {a b k : Nat} {s : MemS} {w : World} (hM : MemAt 142 w a b s) (p0 p1 p2 p3 p4 p5 T nd nx po : Int) (hk : w.heap[k]? = some (.cells #[.int .i64 p0, .int .i64 p1, .int .i64 p2, .int .i64 p3, .int .i64 p4, .int .i64 p5, .int .i64 T, .int .u64 nd, .int .i64 nx, .int .i64 po] 162 (0, 0))) (h : T < 1) :
    Calls Try.prog 58 #[.pointer (some ⟨k, 0, none⟩), .pointer (some ⟨a, 0, none⟩)] w fun e w' => e = .returned (.tuple #[.bool false, .int .i64 100]) ∧ MemAt 142 w' a b (s) ∧ w'.heap[k]? = some (.cells #[.int .i64 p0, .int .i64 p1, .int .i64 p2, .int .i64 p3, .int .i64 p4, .int .i64 p5, .int .i64 T, .int .u64 nd, .int .i64 nx, .int .i64 po] 162 (0, 0)) ∧ Mod [a, b, k] w w' := by
  have ha := hM.lta
  have hb := hM.ltb
  have hkl := lt_of_block hk
  have hka : k ≠ a := blk_ne hk hM.hd (by decide)
  have hkb : k ≠ b := blk_ne hk hM.ws (by decide)
  have x0 : w.cell? ⟨k, 0, none⟩ = some (.int .i64 p0) := cell_of_blk hk rfl
  have x1 : w.cell? ⟨k, 1, none⟩ = some (.int .i64 p1) := cell_of_blk hk rfl
  have x2 : w.cell? ⟨k, 2, none⟩ = some (.int .i64 p2) := cell_of_blk hk rfl
  have x3 : w.cell? ⟨k, 3, none⟩ = some (.int .i64 p3) := cell_of_blk hk rfl
  have x4 : w.cell? ⟨k, 4, none⟩ = some (.int .i64 p4) := cell_of_blk hk rfl
  have x5 : w.cell? ⟨k, 5, none⟩ = some (.int .i64 p5) := cell_of_blk hk rfl
  have x6 : w.cell? ⟨k, 6, none⟩ = some (.int .i64 T) := cell_of_blk hk rfl
  have x7 : w.cell? ⟨k, 7, none⟩ = some (.int .u64 nd) := cell_of_blk hk rfl
  have x8 : w.cell? ⟨k, 8, none⟩ = some (.int .i64 nx) := cell_of_blk hk rfl
  have x9 : w.cell? ⟨k, 9, none⟩ = some (.int .i64 po) := cell_of_blk hk rfl
  have xf8 := free_of_blk (i := 8) hk
  have xf9 := free_of_blk (i := 9) hk
  go_enter Try.func58, Try.ntmps58
  go_wp2
  go_step3
  go_wp2
  rw [Exit.noGoto_ret]
  go_ret2
  exact ⟨rfl, hM, hk, Mod.refl _ _⟩

set_option maxRecDepth 100000 in
set_option maxHeartbeats 2000000 in
theorem scanA2_c {a b k : Nat} {s : MemS} {w : World} (hM : MemAt 142 w a b s) (p0 p1 p2 p3 p4 p5 T nd nx po : Int) (hk : w.heap[k]? = some (.cells #[.int .i64 p0, .int .i64 p1, .int .i64 p2, .int .i64 p3, .int .i64 p4, .int .i64 p5, .int .i64 T, .int .u64 nd, .int .i64 nx, .int .i64 po] 162 (0, 0))) (h1 : 1 ≤ T) (h : 8 < T) :
    Calls Try.prog 58 #[.pointer (some ⟨k, 0, none⟩), .pointer (some ⟨a, 0, none⟩)] w fun e w' => e = .returned (.tuple #[.bool false, .int .i64 100]) ∧ MemAt 142 w' a b (s) ∧ w'.heap[k]? = some (.cells #[.int .i64 p0, .int .i64 p1, .int .i64 p2, .int .i64 p3, .int .i64 p4, .int .i64 p5, .int .i64 T, .int .u64 nd, .int .i64 nx, .int .i64 po] 162 (0, 0)) ∧ Mod [a, b, k] w w' := by
  have ha := hM.lta
  have hb := hM.ltb
  have hkl := lt_of_block hk
  have hka : k ≠ a := blk_ne hk hM.hd (by decide)
  have hkb : k ≠ b := blk_ne hk hM.ws (by decide)
  have x0 : w.cell? ⟨k, 0, none⟩ = some (.int .i64 p0) := cell_of_blk hk rfl
  have x1 : w.cell? ⟨k, 1, none⟩ = some (.int .i64 p1) := cell_of_blk hk rfl
  have x2 : w.cell? ⟨k, 2, none⟩ = some (.int .i64 p2) := cell_of_blk hk rfl
  have x3 : w.cell? ⟨k, 3, none⟩ = some (.int .i64 p3) := cell_of_blk hk rfl
  have x4 : w.cell? ⟨k, 4, none⟩ = some (.int .i64 p4) := cell_of_blk hk rfl
  have x5 : w.cell? ⟨k, 5, none⟩ = some (.int .i64 p5) := cell_of_blk hk rfl
  have x6 : w.cell? ⟨k, 6, none⟩ = some (.int .i64 T) := cell_of_blk hk rfl
  have x7 : w.cell? ⟨k, 7, none⟩ = some (.int .u64 nd) := cell_of_blk hk rfl
  have x8 : w.cell? ⟨k, 8, none⟩ = some (.int .i64 nx) := cell_of_blk hk rfl
  have x9 : w.cell? ⟨k, 9, none⟩ = some (.int .i64 po) := cell_of_blk hk rfl
  have xf8 := free_of_blk (i := 8) hk
  have xf9 := free_of_blk (i := 9) hk
  go_enter Try.func58, Try.ntmps58
  go_wp2
  go_step3
  go_wp2
  rw [Exit.noGoto_ret]
  go_ret2
  exact ⟨rfl, hM, hk, Mod.refl _ _⟩

set_option maxRecDepth 100000 in
set_option maxHeartbeats 2000000 in
theorem scanA1_r {a b k : Nat} {s : MemS} {w : World} (hM : MemAt 148 w a b s) (p0 p1 p2 p3 p4 p5 T nd nx po : Int) (hk : w.heap[k]? = some (.cells #[.int .i64 p0, .int .i64 p1, .int .i64 p2, .int .i64 p3, .int .i64 p4, .int .i64 p5, .int .i64 T, .int .u64 nd, .int .i64 nx, .int .i64 po] 170 (0, 0))) (h : T < 1) :
    Calls Try.prog 118 #[.pointer (some ⟨k, 0, none⟩), .pointer (some ⟨a, 0, none⟩)] w fun e w' => e = .returned (.tuple #[.bool false, .int .i64 100]) ∧ MemAt 148 w' a b (s) ∧ w'.heap[k]? = some (.cells #[.int .i64 p0, .int .i64 p1, .int .i64 p2, .int .i64 p3, .int .i64 p4, .int .i64 p5, .int .i64 T, .int .u64 nd, .int .i64 nx, .int .i64 po] 170 (0, 0)) ∧ Mod [a, b, k] w w' := by
  have ha := hM.lta
  have hb := hM.ltb
  have hkl := lt_of_block hk
  have hka : k ≠ a := blk_ne hk hM.hd (by decide)
  have hkb : k ≠ b := blk_ne hk hM.ws (by decide)
  have x0 : w.cell? ⟨k, 0, none⟩ = some (.int .i64 p0) := cell_of_blk hk rfl
  have x1 : w.cell? ⟨k, 1, none⟩ = some (.int .i64 p1) := cell_of_blk hk rfl
  have x2 : w.cell? ⟨k, 2, none⟩ = some (.int .i64 p2) := cell_of_blk hk rfl
  have x3 : w.cell? ⟨k, 3, none⟩ = some (.int .i64 p3) := cell_of_blk hk rfl
  have x4 : w.cell? ⟨k, 4, none⟩ = some (.int .i64 p4) := cell_of_blk hk rfl
  have x5 : w.cell? ⟨k, 5, none⟩ = some (.int .i64 p5) := cell_of_blk hk rfl
  have x6 : w.cell? ⟨k, 6, none⟩ = some (.int .i64 T) := cell_of_blk hk rfl
  have x7 : w.cell? ⟨k, 7, none⟩ = some (.int .u64 nd) := cell_of_blk hk rfl
  have x8 : w.cell? ⟨k, 8, none⟩ = some (.int .i64 nx) := cell_of_blk hk rfl
  have x9 : w.cell? ⟨k, 9, none⟩ = some (.int .i64 po) := cell_of_blk hk rfl
  have xf8 := free_of_blk (i := 8) hk
  have xf9 := free_of_blk (i := 9) hk
  go_enter Try.func118, Try.ntmps118
  go_wp2
  go_ret2
  exact ⟨rfl, hM, hk, Mod.refl _ _⟩

set_option maxRecDepth 100000 in
set_option maxHeartbeats 2000000 in
theorem scanA2_r {a b k : Nat} {s : MemS} {w : World} (hM : MemAt 148 w a b s) (p0 p1 p2 p3 p4 p5 T nd nx po : Int) (hk : w.heap[k]? = some (.cells #[.int .i64 p0, .int .i64 p1, .int .i64 p2, .int .i64 p3, .int .i64 p4, .int .i64 p5, .int .i64 T, .int .u64 nd, .int .i64 nx, .int .i64 po] 170 (0, 0))) (h1 : 1 ≤ T) (h : 8 < T) :
    Calls Try.prog 118 #[.pointer (some ⟨k, 0, none⟩), .pointer (some ⟨a, 0, none⟩)] w fun e w' => e = .returned (.tuple #[.bool false, .int .i64 100]) ∧ MemAt 148 w' a b (s) ∧ w'.heap[k]? = some (.cells #[.int .i64 p0, .int .i64 p1, .int .i64 p2, .int .i64 p3, .int .i64 p4, .int .i64 p5, .int .i64 T, .int .u64 nd, .int .i64 nx, .int .i64 po] 170 (0, 0)) ∧ Mod [a, b, k] w w' := by
  have ha := hM.lta
  have hb := hM.ltb
  have hkl := lt_of_block hk
  have hka : k ≠ a := blk_ne hk hM.hd (by decide)
  have hkb : k ≠ b := blk_ne hk hM.ws (by decide)
  have x0 : w.cell? ⟨k, 0, none⟩ = some (.int .i64 p0) := cell_of_blk hk rfl
  have x1 : w.cell? ⟨k, 1, none⟩ = some (.int .i64 p1) := cell_of_blk hk rfl
  have x2 : w.cell? ⟨k, 2, none⟩ = some (.int .i64 p2) := cell_of_blk hk rfl
  have x3 : w.cell? ⟨k, 3, none⟩ = some (.int .i64 p3) := cell_of_blk hk rfl
  have x4 : w.cell? ⟨k, 4, none⟩ = some (.int .i64 p4) := cell_of_blk hk rfl
  have x5 : w.cell? ⟨k, 5, none⟩ = some (.int .i64 p5) := cell_of_blk hk rfl
  have x6 : w.cell? ⟨k, 6, none⟩ = some (.int .i64 T) := cell_of_blk hk rfl
  have x7 : w.cell? ⟨k, 7, none⟩ = some (.int .u64 nd) := cell_of_blk hk rfl
  have x8 : w.cell? ⟨k, 8, none⟩ = some (.int .i64 nx) := cell_of_blk hk rfl
  have x9 : w.cell? ⟨k, 9, none⟩ = some (.int .i64 po) := cell_of_blk hk rfl
  have xf8 := free_of_blk (i := 8) hk
  have xf9 := free_of_blk (i := 9) hk
  go_enter Try.func118, Try.ntmps118
  go_wp2
  go_ret2
  exact ⟨rfl, hM, hk, Mod.refl _ _⟩

set_option maxRecDepth 100000 in
set_option maxHeartbeats 2000000 in
theorem scanB_c {a b k : Nat} {s : MemS} {w : World} (hM : MemAt 142 w a b s) (p0 p1 p2 p3 p4 p5 T nd po : Int) (hk : w.heap[k]? = some (.cells #[.int .i64 p0, .int .i64 p1, .int .i64 p2, .int .i64 p3, .int .i64 p4, .int .i64 p5, .int .i64 T, .int .u64 nd, .int .i64 T, .int .i64 po] 162 (0, 0))) (h1 : 1 ≤ T) (h8 : T ≤ 8) :
    Calls Try.prog 58 #[.pointer (some ⟨k, 0, none⟩), .pointer (some ⟨a, 0, none⟩)] w fun e w' => e = .returned (.tuple #[.bool false, .int .i64 3]) ∧ MemAt 142 w' a b (s) ∧ w'.heap[k]? = some (.cells #[.int .i64 p0, .int .i64 p1, .int .i64 p2, .int .i64 p3, .int .i64 p4, .int .i64 p5, .int .i64 T, .int .u64 nd, .int .i64 T, .int .i64 po] 162 (0, 0)) ∧ Mod [a, b, k] w w' := by
  have ha := hM.lta
  have hb := hM.ltb
  have hkl := lt_of_block hk
  have hka : k ≠ a := blk_ne hk hM.hd (by decide)
  have hkb : k ≠ b := blk_ne hk hM.ws (by decide)
  have x0 : w.cell? ⟨k, 0, none⟩ = some (.int .i64 p0) := cell_of_blk hk rfl
  have x1 : w.cell? ⟨k, 1, none⟩ = some (.int .i64 p1) := cell_of_blk hk rfl
  have x2 : w.cell? ⟨k, 2, none⟩ = some (.int .i64 p2) := cell_of_blk hk rfl
  have x3 : w.cell? ⟨k, 3, none⟩ = some (.int .i64 p3) := cell_of_blk hk rfl
  have x4 : w.cell? ⟨k, 4, none⟩ = some (.int .i64 p4) := cell_of_blk hk rfl
  have x5 : w.cell? ⟨k, 5, none⟩ = some (.int .i64 p5) := cell_of_blk hk rfl
  have x6 : w.cell? ⟨k, 6, none⟩ = some (.int .i64 T) := cell_of_blk hk rfl
  have x7 : w.cell? ⟨k, 7, none⟩ = some (.int .u64 nd) := cell_of_blk hk rfl
  have x8 : w.cell? ⟨k, 8, none⟩ = some (.int .i64 T) := cell_of_blk hk rfl
  have x9 : w.cell? ⟨k, 9, none⟩ = some (.int .i64 po) := cell_of_blk hk rfl
  have xf8 := free_of_blk (i := 8) hk
  have xf9 := free_of_blk (i := 9) hk
  go_enter Try.func58, Try.ntmps58
  go_wp2
  go_step3
  go_wp2
  go_step3
  go_wp2
  go_loopw [6] (fun _ wr => MemAt 142 wr a b s ∧ wr.heap[k]? = some (.cells #[.int .i64 p0, .int .i64 p1, .int .i64 p2, .int .i64 p3, .int .i64 p4, .int .i64 p5, .int .i64 T, .int .u64 nd, .int .i64 T, .int .i64 po] 162 (0, 0)) ∧ Mod [] w wr) (fun _ _ => 0)
  case atStart => exact ⟨hM, hk, Mod.refl _ _⟩
  case round =>
    obtain ⟨M1, K1, D1⟩ := hrel
    clear x0 x1 x2 x3 x4 x5 x6 x7 x8 x9 xf8 xf9
    have ha1 := M1.lta
    have hb1 := M1.ltb
    have hk1 := lt_of_block K1
    have y0 : wr.cell? ⟨k, 0, none⟩ = some (.int .i64 p0) := cell_of_blk K1 rfl
    have y1 : wr.cell? ⟨k, 1, none⟩ = some (.int .i64 p1) := cell_of_blk K1 rfl
    have y2 : wr.cell? ⟨k, 2, none⟩ = some (.int .i64 p2) := cell_of_blk K1 rfl
    have y3 : wr.cell? ⟨k, 3, none⟩ = some (.int .i64 p3) := cell_of_blk K1 rfl
    have y4 : wr.cell? ⟨k, 4, none⟩ = some (.int .i64 p4) := cell_of_blk K1 rfl
    have y5 : wr.cell? ⟨k, 5, none⟩ = some (.int .i64 p5) := cell_of_blk K1 rfl
    have y6 : wr.cell? ⟨k, 6, none⟩ = some (.int .i64 T) := cell_of_blk K1 rfl
    have y7 : wr.cell? ⟨k, 7, none⟩ = some (.int .u64 nd) := cell_of_blk K1 rfl
    have y8 : wr.cell? ⟨k, 8, none⟩ = some (.int .i64 T) := cell_of_blk K1 rfl
    have y9 : wr.cell? ⟨k, 9, none⟩ = some (.int .i64 po) := cell_of_blk K1 rfl
    have yf8 := free_of_blk (i := 8) K1
    have yf9 := free_of_blk (i := 9) K1
    go_wp2_with fail
    go_quiet (fail)
    go_wp2
    go_quiet (fail)
    go_wp2
    rw [Exit.noGoto_ret]
    go_ret2
    exact ⟨rfl, by repeat (first | exact M1 | refine MemAt.drewN ?_ _ | refine MemAt.drew ?_), K1, (D1.weak _).trans (by repeat (first | with_reducible exact Mod.refl _ _ | with_reducible assumption | with_reducible refine Mod.drew ?_ | with_reducible refine Mod.drewN ?_ _ | with_reducible refine Mod.alloc ?_ _ | with_reducible refine Mod.setCell ?_ _ _ (.inl (by simp))))⟩

set_option maxRecDepth 100000 in
set_option maxHeartbeats 2000000 in
theorem scanC_c {a b k : Nat} {s : MemS} {w : World} (hM : MemAt 142 w a b s) (p0 p1 p2 p3 p4 p5 T nd nx po : Int) (hk : w.heap[k]? = some (.cells #[.int .i64 p0, .int .i64 p1, .int .i64 p2, .int .i64 p3, .int .i64 p4, .int .i64 p5, .int .i64 T, .int .u64 nd, .int .i64 nx, .int .i64 po] 162 (0, 0))) (h1 : 1 ≤ T) (h8 : T ≤ 8)(hn : nx < T) (he : plErr p3 nx = 30) :
    Calls Try.prog 58 #[.pointer (some ⟨k, 0, none⟩), .pointer (some ⟨a, 0, none⟩)] w fun e w' => e = .returned (.tuple #[.bool false, .int .i64 30]) ∧ MemAt 142 w' a b (s) ∧ w'.heap[k]? = some (.cells #[.int .i64 p0, .int .i64 p1, .int .i64 p2, .int .i64 p3, .int .i64 p4, .int .i64 p5, .int .i64 T, .int .u64 nd, .int .i64 nx, .int .i64 po] 162 (0, 0)) ∧ Mod [a, b, k] w w' := by
  have ha := hM.lta
  have hb := hM.ltb
  have hkl := lt_of_block hk
  have hka : k ≠ a := blk_ne hk hM.hd (by decide)
  have hkb : k ≠ b := blk_ne hk hM.ws (by decide)
  have x0 : w.cell? ⟨k, 0, none⟩ = some (.int .i64 p0) := cell_of_blk hk rfl
  have x1 : w.cell? ⟨k, 1, none⟩ = some (.int .i64 p1) := cell_of_blk hk rfl
  have x2 : w.cell? ⟨k, 2, none⟩ = some (.int .i64 p2) := cell_of_blk hk rfl
  have x3 : w.cell? ⟨k, 3, none⟩ = some (.int .i64 p3) := cell_of_blk hk rfl
  have x4 : w.cell? ⟨k, 4, none⟩ = some (.int .i64 p4) := cell_of_blk hk rfl
  have x5 : w.cell? ⟨k, 5, none⟩ = some (.int .i64 p5) := cell_of_blk hk rfl
  have x6 : w.cell? ⟨k, 6, none⟩ = some (.int .i64 T) := cell_of_blk hk rfl
  have x7 : w.cell? ⟨k, 7, none⟩ = some (.int .u64 nd) := cell_of_blk hk rfl
  have x8 : w.cell? ⟨k, 8, none⟩ = some (.int .i64 nx) := cell_of_blk hk rfl
  have x9 : w.cell? ⟨k, 9, none⟩ = some (.int .i64 po) := cell_of_blk hk rfl
  have xf8 := free_of_blk (i := 8) hk
  have xf9 := free_of_blk (i := 9) hk
  have He := Lib.hid he; clear he
  go_enter Try.func58, Try.ntmps58
  go_wp2
  go_step3
  go_wp2
  go_step3
  go_wp2
  go_loopw [6] (fun _ wr => MemAt 142 wr a b s ∧ wr.heap[k]? = some (.cells #[.int .i64 p0, .int .i64 p1, .int .i64 p2, .int .i64 p3, .int .i64 p4, .int .i64 p5, .int .i64 T, .int .u64 nd, .int .i64 nx, .int .i64 po] 162 (0, 0)) ∧ Mod [] w wr) (fun _ _ => 0)
  case atStart => exact ⟨hM, hk, Mod.refl _ _⟩
  case round =>
    obtain ⟨M1, K1, D1⟩ := hrel
    clear x0 x1 x2 x3 x4 x5 x6 x7 x8 x9 xf8 xf9
    have ha1 := M1.lta
    have hb1 := M1.ltb
    have hk1 := lt_of_block K1
    have y0 : wr.cell? ⟨k, 0, none⟩ = some (.int .i64 p0) := cell_of_blk K1 rfl
    have y1 : wr.cell? ⟨k, 1, none⟩ = some (.int .i64 p1) := cell_of_blk K1 rfl
    have y2 : wr.cell? ⟨k, 2, none⟩ = some (.int .i64 p2) := cell_of_blk K1 rfl
    have y3 : wr.cell? ⟨k, 3, none⟩ = some (.int .i64 p3) := cell_of_blk K1 rfl
    have y4 : wr.cell? ⟨k, 4, none⟩ = some (.int .i64 p4) := cell_of_blk K1 rfl
    have y5 : wr.cell? ⟨k, 5, none⟩ = some (.int .i64 p5) := cell_of_blk K1 rfl
    have y6 : wr.cell? ⟨k, 6, none⟩ = some (.int .i64 T) := cell_of_blk K1 rfl
    have y7 : wr.cell? ⟨k, 7, none⟩ = some (.int .u64 nd) := cell_of_blk K1 rfl
    have y8 : wr.cell? ⟨k, 8, none⟩ = some (.int .i64 nx) := cell_of_blk K1 rfl
    have y9 : wr.cell? ⟨k, 9, none⟩ = some (.int .i64 po) := cell_of_blk K1 rfl
    have yf8 := free_of_blk (i := 8) K1
    have yf9 := free_of_blk (i := 9) K1
    go_wp2_with fail
    go_quiet (fail)
    go_upto_region 4 with fail
    generalize hwq : wr.drewN _ = wq
    have M2 : MemAt 142 wq a b s := hwq ▸ M1.drewN _
    have K2 : wq.heap[k]? = some (.cells #[.int .i64 p0, .int .i64 p1, .int .i64 p2, .int .i64 p3, .int .i64 p4, .int .i64 p5, .int .i64 T, .int .u64 nd, .int .i64 nx, .int .i64 po] 162 (0, 0)) := hwq ▸ K1
    have D2 : Mod [] w wq := hwq ▸ D1.drewN _
    clear y0 y1 y2 y3 y4 y5 y6 y7 y8 y9 yf8 yf9 hwq M1 K1 D1
    have v0 : wq.cell? ⟨k, 0, none⟩ = some (.int .i64 p0) := cell_of_blk K2 rfl
    have v1 : wq.cell? ⟨k, 1, none⟩ = some (.int .i64 p1) := cell_of_blk K2 rfl
    have v2 : wq.cell? ⟨k, 2, none⟩ = some (.int .i64 p2) := cell_of_blk K2 rfl
    have v3 : wq.cell? ⟨k, 3, none⟩ = some (.int .i64 p3) := cell_of_blk K2 rfl
    have v4 : wq.cell? ⟨k, 4, none⟩ = some (.int .i64 p4) := cell_of_blk K2 rfl
    have v5 : wq.cell? ⟨k, 5, none⟩ = some (.int .i64 p5) := cell_of_blk K2 rfl
    have v6 : wq.cell? ⟨k, 6, none⟩ = some (.int .i64 T) := cell_of_blk K2 rfl
    have v7 : wq.cell? ⟨k, 7, none⟩ = some (.int .u64 nd) := cell_of_blk K2 rfl
    have v8 : wq.cell? ⟨k, 8, none⟩ = some (.int .i64 nx) := cell_of_blk K2 rfl
    have v9 : wq.cell? ⟨k, 9, none⟩ = some (.int .i64 po) := cell_of_blk K2 rfl
    have vf8 := free_of_blk (i := 8) K2
    have vf9 := free_of_blk (i := 9) K2

    go_cut [6, 7] (fun x y wx => x = .int .i64 (plAt p3 nx) ∧ y = .int .i64 (plErr p3 nx) ∧ MemAt 142 wx a b s ∧ wx.heap[k]? = some (.cells #[.int .i64 p0, .int .i64 p1, .int .i64 p2, .int .i64 p3, .int .i64 p4, .int .i64 p5, .int .i64 T, .int .u64 nd, .int .i64 nx, .int .i64 po] 162 (0, 0)) ∧ Mod [] w wx)
    case first =>
      go_region_with (go_at_call 113; refine (place13 _ _ _ _ _ _ _ _).mono ?_; rintro e w1 ⟨rfl, rfl⟩)
      all_goals
        go_wp2_with fail
        go_meet
        exact ⟨rfl, rfl, by repeat (first | exact M2 | refine MemAt.drew ?_ | refine MemAt.alloc ?_ _), blk_alloc_old _ K2, (by repeat (first | with_reducible exact Mod.refl _ _ | with_reducible assumption | with_reducible refine Mod.drew ?_ | with_reducible refine Mod.drewN ?_ _ | with_reducible refine Mod.alloc ?_ _ | with_reducible refine Mod.setCell ?_ _ _ (.inl (by simp))))⟩
    case rest =>
      obtain ⟨rfl, rfl, M3, K3, D3⟩ := hcut
      clear v0 v1 v2 v3 v4 v5 v6 v7 v8 v9 vf8 vf9 M2 K2 D2
      have z0 : wc.cell? ⟨k, 0, none⟩ = some (.int .i64 p0) := cell_of_blk K3 rfl
      have z1 : wc.cell? ⟨k, 1, none⟩ = some (.int .i64 p1) := cell_of_blk K3 rfl
      have z2 : wc.cell? ⟨k, 2, none⟩ = some (.int .i64 p2) := cell_of_blk K3 rfl
      have z3 : wc.cell? ⟨k, 3, none⟩ = some (.int .i64 p3) := cell_of_blk K3 rfl
      have z4 : wc.cell? ⟨k, 4, none⟩ = some (.int .i64 p4) := cell_of_blk K3 rfl
      have z5 : wc.cell? ⟨k, 5, none⟩ = some (.int .i64 p5) := cell_of_blk K3 rfl
      have z6 : wc.cell? ⟨k, 6, none⟩ = some (.int .i64 T) := cell_of_blk K3 rfl
      have z7 : wc.cell? ⟨k, 7, none⟩ = some (.int .u64 nd) := cell_of_blk K3 rfl
      have z8 : wc.cell? ⟨k, 8, none⟩ = some (.int .i64 nx) := cell_of_blk K3 rfl
      have z9 : wc.cell? ⟨k, 9, none⟩ = some (.int .i64 po) := cell_of_blk K3 rfl
      have zf8 := free_of_blk (i := 8) K3
      have zf9 := free_of_blk (i := 9) K3
      rw [He.out]
      go_wp2
      rw [Exit.noGoto_ret]
      go_ret2
      exact ⟨rfl, M3, K3, D3.weak _⟩

set_option maxRecDepth 100000 in
set_option maxHeartbeats 2000000 in
theorem scanD_c {a b k : Nat} {s : MemS} {w : World} (hM : MemAt 142 w a b s) (p0 p1 p2 p3 p4 p5 T nd nx po : Int) (hk : w.heap[k]? = some (.cells #[.int .i64 p0, .int .i64 p1, .int .i64 p2, .int .i64 p3, .int .i64 p4, .int .i64 p5, .int .i64 T, .int .u64 nd, .int .i64 nx, .int .i64 po] 162 (0, 0))) (h1 : 1 ≤ T) (h8 : T ≤ 8)(hn : nx < T) (he : plErr p3 nx = 0) (h0 : (s.acc (p3 + nx) != 0) = true) :
    Calls Try.prog 58 #[.pointer (some ⟨k, 0, none⟩), .pointer (some ⟨a, 0, none⟩)] w fun e w' => e = .returned (.tuple #[.bool false, .int .i64 (s.acc (p3 + nx))]) ∧ MemAt 142 w' a b (s.load (p3 + nx)) ∧ w'.heap[k]? = some (.cells #[.int .i64 p0, .int .i64 p1, .int .i64 p2, .int .i64 p3, .int .i64 p4, .int .i64 p5, .int .i64 T, .int .u64 nd, .int .i64 nx, .int .i64 po] 162 (0, 0)) ∧ Mod [a, b, k] w w' := by
  have ha := hM.lta
  have hb := hM.ltb
  have hkl := lt_of_block hk
  have hka : k ≠ a := blk_ne hk hM.hd (by decide)
  have hkb : k ≠ b := blk_ne hk hM.ws (by decide)
  have x0 : w.cell? ⟨k, 0, none⟩ = some (.int .i64 p0) := cell_of_blk hk rfl
  have x1 : w.cell? ⟨k, 1, none⟩ = some (.int .i64 p1) := cell_of_blk hk rfl
  have x2 : w.cell? ⟨k, 2, none⟩ = some (.int .i64 p2) := cell_of_blk hk rfl
  have x3 : w.cell? ⟨k, 3, none⟩ = some (.int .i64 p3) := cell_of_blk hk rfl
  have x4 : w.cell? ⟨k, 4, none⟩ = some (.int .i64 p4) := cell_of_blk hk rfl
  have x5 : w.cell? ⟨k, 5, none⟩ = some (.int .i64 p5) := cell_of_blk hk rfl
  have x6 : w.cell? ⟨k, 6, none⟩ = some (.int .i64 T) := cell_of_blk hk rfl
  have x7 : w.cell? ⟨k, 7, none⟩ = some (.int .u64 nd) := cell_of_blk hk rfl
  have x8 : w.cell? ⟨k, 8, none⟩ = some (.int .i64 nx) := cell_of_blk hk rfl
  have x9 : w.cell? ⟨k, 9, none⟩ = some (.int .i64 po) := cell_of_blk hk rfl
  have xf8 := free_of_blk (i := 8) hk
  have xf9 := free_of_blk (i := 9) hk
  have hat : plAt p3 nx = p3 + nx := if_pos he
  have Hat := Lib.hid hat; clear hat
  have He := Lib.hid he; clear he
  go_enter Try.func58, Try.ntmps58
  go_wp2
  go_step3
  go_wp2
  go_step3
  go_wp2
  go_loopw [6] (fun _ wr => MemAt 142 wr a b s ∧ wr.heap[k]? = some (.cells #[.int .i64 p0, .int .i64 p1, .int .i64 p2, .int .i64 p3, .int .i64 p4, .int .i64 p5, .int .i64 T, .int .u64 nd, .int .i64 nx, .int .i64 po] 162 (0, 0)) ∧ Mod [] w wr) (fun _ _ => 0)
  case atStart => exact ⟨hM, hk, Mod.refl _ _⟩
  case round =>
    obtain ⟨M1, K1, D1⟩ := hrel
    clear x0 x1 x2 x3 x4 x5 x6 x7 x8 x9 xf8 xf9
    have ha1 := M1.lta
    have hb1 := M1.ltb
    have hk1 := lt_of_block K1
    have y0 : wr.cell? ⟨k, 0, none⟩ = some (.int .i64 p0) := cell_of_blk K1 rfl
    have y1 : wr.cell? ⟨k, 1, none⟩ = some (.int .i64 p1) := cell_of_blk K1 rfl
    have y2 : wr.cell? ⟨k, 2, none⟩ = some (.int .i64 p2) := cell_of_blk K1 rfl
    have y3 : wr.cell? ⟨k, 3, none⟩ = some (.int .i64 p3) := cell_of_blk K1 rfl
    have y4 : wr.cell? ⟨k, 4, none⟩ = some (.int .i64 p4) := cell_of_blk K1 rfl
    have y5 : wr.cell? ⟨k, 5, none⟩ = some (.int .i64 p5) := cell_of_blk K1 rfl
    have y6 : wr.cell? ⟨k, 6, none⟩ = some (.int .i64 T) := cell_of_blk K1 rfl
    have y7 : wr.cell? ⟨k, 7, none⟩ = some (.int .u64 nd) := cell_of_blk K1 rfl
    have y8 : wr.cell? ⟨k, 8, none⟩ = some (.int .i64 nx) := cell_of_blk K1 rfl
    have y9 : wr.cell? ⟨k, 9, none⟩ = some (.int .i64 po) := cell_of_blk K1 rfl
    have yf8 := free_of_blk (i := 8) K1
    have yf9 := free_of_blk (i := 9) K1
    go_wp2_with fail
    go_quiet (fail)
    go_upto_region 4 with fail
    generalize hwq : wr.drewN _ = wq
    have M2 : MemAt 142 wq a b s := hwq ▸ M1.drewN _
    have K2 : wq.heap[k]? = some (.cells #[.int .i64 p0, .int .i64 p1, .int .i64 p2, .int .i64 p3, .int .i64 p4, .int .i64 p5, .int .i64 T, .int .u64 nd, .int .i64 nx, .int .i64 po] 162 (0, 0)) := hwq ▸ K1
    have D2 : Mod [] w wq := hwq ▸ D1.drewN _
    clear y0 y1 y2 y3 y4 y5 y6 y7 y8 y9 yf8 yf9 hwq M1 K1 D1
    have v0 : wq.cell? ⟨k, 0, none⟩ = some (.int .i64 p0) := cell_of_blk K2 rfl
    have v1 : wq.cell? ⟨k, 1, none⟩ = some (.int .i64 p1) := cell_of_blk K2 rfl
    have v2 : wq.cell? ⟨k, 2, none⟩ = some (.int .i64 p2) := cell_of_blk K2 rfl
    have v3 : wq.cell? ⟨k, 3, none⟩ = some (.int .i64 p3) := cell_of_blk K2 rfl
    have v4 : wq.cell? ⟨k, 4, none⟩ = some (.int .i64 p4) := cell_of_blk K2 rfl
    have v5 : wq.cell? ⟨k, 5, none⟩ = some (.int .i64 p5) := cell_of_blk K2 rfl
    have v6 : wq.cell? ⟨k, 6, none⟩ = some (.int .i64 T) := cell_of_blk K2 rfl
    have v7 : wq.cell? ⟨k, 7, none⟩ = some (.int .u64 nd) := cell_of_blk K2 rfl
    have v8 : wq.cell? ⟨k, 8, none⟩ = some (.int .i64 nx) := cell_of_blk K2 rfl
    have v9 : wq.cell? ⟨k, 9, none⟩ = some (.int .i64 po) := cell_of_blk K2 rfl
    have vf8 := free_of_blk (i := 8) K2
    have vf9 := free_of_blk (i := 9) K2

    go_cut [6, 7] (fun x y wx => x = .int .i64 (plAt p3 nx) ∧ y = .int .i64 (plErr p3 nx) ∧ MemAt 142 wx a b s ∧ wx.heap[k]? = some (.cells #[.int .i64 p0, .int .i64 p1, .int .i64 p2, .int .i64 p3, .int .i64 p4, .int .i64 p5, .int .i64 T, .int .u64 nd, .int .i64 nx, .int .i64 po] 162 (0, 0)) ∧ Mod [] w wx)
    case first =>
      go_region_with (go_at_call 113; refine (place13 _ _ _ _ _ _ _ _).mono ?_; rintro e w1 ⟨rfl, rfl⟩)
      all_goals
        go_wp2_with fail
        go_meet
        exact ⟨rfl, rfl, by repeat (first | exact M2 | refine MemAt.drew ?_ | refine MemAt.alloc ?_ _), blk_alloc_old _ K2, (by repeat (first | with_reducible exact Mod.refl _ _ | with_reducible assumption | with_reducible refine Mod.drew ?_ | with_reducible refine Mod.drewN ?_ _ | with_reducible refine Mod.alloc ?_ _ | with_reducible refine Mod.setCell ?_ _ _ (.inl (by simp))))⟩
    case rest =>
      obtain ⟨rfl, rfl, M3, K3, D3⟩ := hcut
      clear v0 v1 v2 v3 v4 v5 v6 v7 v8 v9 vf8 vf9 M2 K2 D2
      have z0 : wc.cell? ⟨k, 0, none⟩ = some (.int .i64 p0) := cell_of_blk K3 rfl
      have z1 : wc.cell? ⟨k, 1, none⟩ = some (.int .i64 p1) := cell_of_blk K3 rfl
      have z2 : wc.cell? ⟨k, 2, none⟩ = some (.int .i64 p2) := cell_of_blk K3 rfl
      have z3 : wc.cell? ⟨k, 3, none⟩ = some (.int .i64 p3) := cell_of_blk K3 rfl
      have z4 : wc.cell? ⟨k, 4, none⟩ = some (.int .i64 p4) := cell_of_blk K3 rfl
      have z5 : wc.cell? ⟨k, 5, none⟩ = some (.int .i64 p5) := cell_of_blk K3 rfl
      have z6 : wc.cell? ⟨k, 6, none⟩ = some (.int .i64 T) := cell_of_blk K3 rfl
      have z7 : wc.cell? ⟨k, 7, none⟩ = some (.int .u64 nd) := cell_of_blk K3 rfl
      have z8 : wc.cell? ⟨k, 8, none⟩ = some (.int .i64 nx) := cell_of_blk K3 rfl
      have z9 : wc.cell? ⟨k, 9, none⟩ = some (.int .i64 po) := cell_of_blk K3 rfl
      have zf8 := free_of_blk (i := 8) K3
      have zf9 := free_of_blk (i := 9) K3
      rw [He.out, Hat.out]
      go_wp2_with fail
      refine (load_c M3 _).mono ?_; rintro e w2 ⟨rfl, M4, d4⟩
      have K4 := d4.at K3 (by have := M3.lta; have := M3.ltb; simp; omega)
      have HD : Hid (Mod [a, b, k] w w2) := (D3.weak _).then d4 (by simp)
      have HM := Lib.hid M4
      clear z0 z1 z2 z3 z4 z5 z6 z7 z8 z9 zf8 zf9 D3 d4 M3 M4 K3
      have u0 : w2.cell? ⟨k, 0, none⟩ = some (.int .i64 p0) := cell_of_blk K4 rfl
      have u1 : w2.cell? ⟨k, 1, none⟩ = some (.int .i64 p1) := cell_of_blk K4 rfl
      have u2 : w2.cell? ⟨k, 2, none⟩ = some (.int .i64 p2) := cell_of_blk K4 rfl
      have u3 : w2.cell? ⟨k, 3, none⟩ = some (.int .i64 p3) := cell_of_blk K4 rfl
      have u4 : w2.cell? ⟨k, 4, none⟩ = some (.int .i64 p4) := cell_of_blk K4 rfl
      have u5 : w2.cell? ⟨k, 5, none⟩ = some (.int .i64 p5) := cell_of_blk K4 rfl
      have u6 : w2.cell? ⟨k, 6, none⟩ = some (.int .i64 T) := cell_of_blk K4 rfl
      have u7 : w2.cell? ⟨k, 7, none⟩ = some (.int .u64 nd) := cell_of_blk K4 rfl
      have u8 : w2.cell? ⟨k, 8, none⟩ = some (.int .i64 nx) := cell_of_blk K4 rfl
      have u9 : w2.cell? ⟨k, 9, none⟩ = some (.int .i64 po) := cell_of_blk K4 rfl
      have uf8 := free_of_blk (i := 8) K4
      have uf9 := free_of_blk (i := 9) K4
      go_wp2
      rw [Exit.noGoto_ret]
      go_ret2
      exact ⟨rfl, HM.out, K4, HD.out⟩

set_option maxRecDepth 100000 in
set_option maxHeartbeats 2000000 in
theorem scanE_c {a b k : Nat} {s : MemS} {w : World} (hM : MemAt 142 w a b s) (p0 p1 p2 p3 p4 p5 T nd nx po : Int) (hk : w.heap[k]? = some (.cells #[.int .i64 p0, .int .i64 p1, .int .i64 p2, .int .i64 p3, .int .i64 p4, .int .i64 p5, .int .i64 T, .int .u64 nd, .int .i64 nx, .int .i64 po] 162 (0, 0))) (h1 : 1 ≤ T) (h8 : T ≤ 8)(hn : nx < T) (he : plErr p3 nx = 0) (h0 : s.acc (p3 + nx) = 0) (g0 : (s.got (p3 + nx) != 0) = true) (g1 : s.got (p3 + nx) ≤ nd) (hne : (nx == T) = false) :
    Calls Try.prog 58 #[.pointer (some ⟨k, 0, none⟩), .pointer (some ⟨a, 0, none⟩)] w fun e w' => e = .returned (.tuple #[.bool false, .int .i64 0]) ∧ MemAt 142 w' a b (s.load (p3 + nx)) ∧ w'.heap[k]? = some (.cells #[.int .i64 p0, .int .i64 p1, .int .i64 p2, .int .i64 p3, .int .i64 p4, .int .i64 p5, .int .i64 T, .int .u64 nd, .int .i64 nx, .int .i64 (wrap64 (po + 1))] 162 (0, 0)) ∧ Mod [a, b, k] w w' := by
  have ha := hM.lta
  have hb := hM.ltb
  have hkl := lt_of_block hk
  have hka : k ≠ a := blk_ne hk hM.hd (by decide)
  have hkb : k ≠ b := blk_ne hk hM.ws (by decide)
  have x0 : w.cell? ⟨k, 0, none⟩ = some (.int .i64 p0) := cell_of_blk hk rfl
  have x1 : w.cell? ⟨k, 1, none⟩ = some (.int .i64 p1) := cell_of_blk hk rfl
  have x2 : w.cell? ⟨k, 2, none⟩ = some (.int .i64 p2) := cell_of_blk hk rfl
  have x3 : w.cell? ⟨k, 3, none⟩ = some (.int .i64 p3) := cell_of_blk hk rfl
  have x4 : w.cell? ⟨k, 4, none⟩ = some (.int .i64 p4) := cell_of_blk hk rfl
  have x5 : w.cell? ⟨k, 5, none⟩ = some (.int .i64 p5) := cell_of_blk hk rfl
  have x6 : w.cell? ⟨k, 6, none⟩ = some (.int .i64 T) := cell_of_blk hk rfl
  have x7 : w.cell? ⟨k, 7, none⟩ = some (.int .u64 nd) := cell_of_blk hk rfl
  have x8 : w.cell? ⟨k, 8, none⟩ = some (.int .i64 nx) := cell_of_blk hk rfl
  have x9 : w.cell? ⟨k, 9, none⟩ = some (.int .i64 po) := cell_of_blk hk rfl
  have xf8 := free_of_blk (i := 8) hk
  have xf9 := free_of_blk (i := 9) hk
  have hat : plAt p3 nx = p3 + nx := if_pos he
  have Hat := Lib.hid hat; clear hat
  have He := Lib.hid he; clear he
  go_enter Try.func58, Try.ntmps58
  go_wp2
  go_step3
  go_wp2
  go_step3
  go_wp2
  go_loopw [6] (fun _ wr => MemAt 142 wr a b s ∧ wr.heap[k]? = some (.cells #[.int .i64 p0, .int .i64 p1, .int .i64 p2, .int .i64 p3, .int .i64 p4, .int .i64 p5, .int .i64 T, .int .u64 nd, .int .i64 nx, .int .i64 po] 162 (0, 0)) ∧ Mod [] w wr) (fun _ _ => 0)
  case atStart => exact ⟨hM, hk, Mod.refl _ _⟩
  case round =>
    obtain ⟨M1, K1, D1⟩ := hrel
    clear x0 x1 x2 x3 x4 x5 x6 x7 x8 x9 xf8 xf9
    have ha1 := M1.lta
    have hb1 := M1.ltb
    have hk1 := lt_of_block K1
    have y0 : wr.cell? ⟨k, 0, none⟩ = some (.int .i64 p0) := cell_of_blk K1 rfl
    have y1 : wr.cell? ⟨k, 1, none⟩ = some (.int .i64 p1) := cell_of_blk K1 rfl
    have y2 : wr.cell? ⟨k, 2, none⟩ = some (.int .i64 p2) := cell_of_blk K1 rfl
    have y3 : wr.cell? ⟨k, 3, none⟩ = some (.int .i64 p3) := cell_of_blk K1 rfl
    have y4 : wr.cell? ⟨k, 4, none⟩ = some (.int .i64 p4) := cell_of_blk K1 rfl
    have y5 : wr.cell? ⟨k, 5, none⟩ = some (.int .i64 p5) := cell_of_blk K1 rfl
    have y6 : wr.cell? ⟨k, 6, none⟩ = some (.int .i64 T) := cell_of_blk K1 rfl
    have y7 : wr.cell? ⟨k, 7, none⟩ = some (.int .u64 nd) := cell_of_blk K1 rfl
    have y8 : wr.cell? ⟨k, 8, none⟩ = some (.int .i64 nx) := cell_of_blk K1 rfl
    have y9 : wr.cell? ⟨k, 9, none⟩ = some (.int .i64 po) := cell_of_blk K1 rfl
    have yf8 := free_of_blk (i := 8) K1
    have yf9 := free_of_blk (i := 9) K1
    go_wp2_with fail
    go_quiet (fail)
    go_upto_region 4 with fail
    generalize hwq : wr.drewN _ = wq
    have M2 : MemAt 142 wq a b s := hwq ▸ M1.drewN _
    have K2 : wq.heap[k]? = some (.cells #[.int .i64 p0, .int .i64 p1, .int .i64 p2, .int .i64 p3, .int .i64 p4, .int .i64 p5, .int .i64 T, .int .u64 nd, .int .i64 nx, .int .i64 po] 162 (0, 0)) := hwq ▸ K1
    have D2 : Mod [] w wq := hwq ▸ D1.drewN _
    clear y0 y1 y2 y3 y4 y5 y6 y7 y8 y9 yf8 yf9 hwq M1 K1 D1
    have v0 : wq.cell? ⟨k, 0, none⟩ = some (.int .i64 p0) := cell_of_blk K2 rfl
    have v1 : wq.cell? ⟨k, 1, none⟩ = some (.int .i64 p1) := cell_of_blk K2 rfl
    have v2 : wq.cell? ⟨k, 2, none⟩ = some (.int .i64 p2) := cell_of_blk K2 rfl
    have v3 : wq.cell? ⟨k, 3, none⟩ = some (.int .i64 p3) := cell_of_blk K2 rfl
    have v4 : wq.cell? ⟨k, 4, none⟩ = some (.int .i64 p4) := cell_of_blk K2 rfl
    have v5 : wq.cell? ⟨k, 5, none⟩ = some (.int .i64 p5) := cell_of_blk K2 rfl
    have v6 : wq.cell? ⟨k, 6, none⟩ = some (.int .i64 T) := cell_of_blk K2 rfl
    have v7 : wq.cell? ⟨k, 7, none⟩ = some (.int .u64 nd) := cell_of_blk K2 rfl
    have v8 : wq.cell? ⟨k, 8, none⟩ = some (.int .i64 nx) := cell_of_blk K2 rfl
    have v9 : wq.cell? ⟨k, 9, none⟩ = some (.int .i64 po) := cell_of_blk K2 rfl
    have vf8 := free_of_blk (i := 8) K2
    have vf9 := free_of_blk (i := 9) K2

    go_cut [6, 7] (fun x y wx => x = .int .i64 (plAt p3 nx) ∧ y = .int .i64 (plErr p3 nx) ∧ MemAt 142 wx a b s ∧ wx.heap[k]? = some (.cells #[.int .i64 p0, .int .i64 p1, .int .i64 p2, .int .i64 p3, .int .i64 p4, .int .i64 p5, .int .i64 T, .int .u64 nd, .int .i64 nx, .int .i64 po] 162 (0, 0)) ∧ Mod [] w wx)
    case first =>
      go_region_with (go_at_call 113; refine (place13 _ _ _ _ _ _ _ _).mono ?_; rintro e w1 ⟨rfl, rfl⟩)
      all_goals
        go_wp2_with fail
        go_meet
        exact ⟨rfl, rfl, by repeat (first | exact M2 | refine MemAt.drew ?_ | refine MemAt.alloc ?_ _), blk_alloc_old _ K2, (by repeat (first | with_reducible exact Mod.refl _ _ | with_reducible assumption | with_reducible refine Mod.drew ?_ | with_reducible refine Mod.drewN ?_ _ | with_reducible refine Mod.alloc ?_ _ | with_reducible refine Mod.setCell ?_ _ _ (.inl (by simp))))⟩
    case rest =>
      obtain ⟨rfl, rfl, M3, K3, D3⟩ := hcut
      clear v0 v1 v2 v3 v4 v5 v6 v7 v8 v9 vf8 vf9 M2 K2 D2
      have z0 : wc.cell? ⟨k, 0, none⟩ = some (.int .i64 p0) := cell_of_blk K3 rfl
      have z1 : wc.cell? ⟨k, 1, none⟩ = some (.int .i64 p1) := cell_of_blk K3 rfl
      have z2 : wc.cell? ⟨k, 2, none⟩ = some (.int .i64 p2) := cell_of_blk K3 rfl
      have z3 : wc.cell? ⟨k, 3, none⟩ = some (.int .i64 p3) := cell_of_blk K3 rfl
      have z4 : wc.cell? ⟨k, 4, none⟩ = some (.int .i64 p4) := cell_of_blk K3 rfl
      have z5 : wc.cell? ⟨k, 5, none⟩ = some (.int .i64 p5) := cell_of_blk K3 rfl
      have z6 : wc.cell? ⟨k, 6, none⟩ = some (.int .i64 T) := cell_of_blk K3 rfl
      have z7 : wc.cell? ⟨k, 7, none⟩ = some (.int .u64 nd) := cell_of_blk K3 rfl
      have z8 : wc.cell? ⟨k, 8, none⟩ = some (.int .i64 nx) := cell_of_blk K3 rfl
      have z9 : wc.cell? ⟨k, 9, none⟩ = some (.int .i64 po) := cell_of_blk K3 rfl
      have zf8 := free_of_blk (i := 8) K3
      have zf9 := free_of_blk (i := 9) K3
      rw [He.out, Hat.out]
      go_wp2_with fail
      refine (load_c M3 _).mono ?_; rintro e w2 ⟨rfl, M4, d4⟩
      have K4 := d4.at K3 (by have := M3.lta; have := M3.ltb; simp; omega)
      have HD : Hid (Mod [a, b, k] w w2) := (D3.weak _).then d4 (by simp)
      have HM := Lib.hid M4
      clear z0 z1 z2 z3 z4 z5 z6 z7 z8 z9 zf8 zf9 D3 d4 M3 M4 K3
      have u0 : w2.cell? ⟨k, 0, none⟩ = some (.int .i64 p0) := cell_of_blk K4 rfl
      have u1 : w2.cell? ⟨k, 1, none⟩ = some (.int .i64 p1) := cell_of_blk K4 rfl
      have u2 : w2.cell? ⟨k, 2, none⟩ = some (.int .i64 p2) := cell_of_blk K4 rfl
      have u3 : w2.cell? ⟨k, 3, none⟩ = some (.int .i64 p3) := cell_of_blk K4 rfl
      have u4 : w2.cell? ⟨k, 4, none⟩ = some (.int .i64 p4) := cell_of_blk K4 rfl
      have u5 : w2.cell? ⟨k, 5, none⟩ = some (.int .i64 p5) := cell_of_blk K4 rfl
      have u6 : w2.cell? ⟨k, 6, none⟩ = some (.int .i64 T) := cell_of_blk K4 rfl
      have u7 : w2.cell? ⟨k, 7, none⟩ = some (.int .u64 nd) := cell_of_blk K4 rfl
      have u8 : w2.cell? ⟨k, 8, none⟩ = some (.int .i64 nx) := cell_of_blk K4 rfl
      have u9 : w2.cell? ⟨k, 9, none⟩ = some (.int .i64 po) := cell_of_blk K4 rfl
      have uf8 := free_of_blk (i := 8) K4
      have uf9 := free_of_blk (i := 9) K4
      go_wp2_with fail
      generalize hws : w2.setCell _ _ = ws
      have K5 : ws.heap[k]? = some (.cells #[.int .i64 p0, .int .i64 p1, .int .i64 p2, .int .i64 p3, .int .i64 p4, .int .i64 p5, .int .i64 T, .int .u64 nd, .int .i64 nx, .int .i64 (wrap64 (po + 1))] 162 (0, 0)) := by rw [← hws]; exact blk_setCell_same _ K4
      have M5 : Hid (MemAt 142 ws a b (s.load (p3 + nx))) := by rw [← hws]; exact HM.out.other _ _ _ (Ne.symm hka) (Ne.symm hkb)
      have D5 : Hid (Mod [a, b, k] w ws) := by rw [← hws]; exact HD.out.setCell _ _ (.inl (by simp))
      clear hws HM HD K4 u0 u1 u2 u3 u4 u5 u6 u7 u8 u9 uf8 uf9
      have q0 : ws.cell? ⟨k, 0, none⟩ = some (.int .i64 p0) := cell_of_blk K5 rfl
      have q1 : ws.cell? ⟨k, 1, none⟩ = some (.int .i64 p1) := cell_of_blk K5 rfl
      have q2 : ws.cell? ⟨k, 2, none⟩ = some (.int .i64 p2) := cell_of_blk K5 rfl
      have q3 : ws.cell? ⟨k, 3, none⟩ = some (.int .i64 p3) := cell_of_blk K5 rfl
      have q4 : ws.cell? ⟨k, 4, none⟩ = some (.int .i64 p4) := cell_of_blk K5 rfl
      have q5 : ws.cell? ⟨k, 5, none⟩ = some (.int .i64 p5) := cell_of_blk K5 rfl
      have q6 : ws.cell? ⟨k, 6, none⟩ = some (.int .i64 T) := cell_of_blk K5 rfl
      have q7 : ws.cell? ⟨k, 7, none⟩ = some (.int .u64 nd) := cell_of_blk K5 rfl
      have q8 : ws.cell? ⟨k, 8, none⟩ = some (.int .i64 nx) := cell_of_blk K5 rfl
      have q9 : ws.cell? ⟨k, 9, none⟩ = some (.int .i64 (wrap64 (po + 1))) := cell_of_blk K5 rfl
      have qf8 := free_of_blk (i := 8) K5
      have qf9 := free_of_blk (i := 9) K5
      go_quiet (fail)
      go_wp2
      rw [Exit.noGoto_ret]
      go_ret2
      exact ⟨rfl, by have MM := M5.out; repeat (first | exact MM | refine MemAt.drewN ?_ _ | refine MemAt.drew ?_), K5, by have DD := D5.out; repeat (first | exact DD | refine Mod.drewN ?_ _ | refine Mod.drew ?_)⟩

set_option maxRecDepth 100000 in
set_option maxHeartbeats 2000000 in
theorem scanF1_c {a b k : Nat} {s : MemS} {w : World} (hM : MemAt 142 w a b s) (p0 p1 p2 p3 p4 p5 T nd nx po : Int) (hk : w.heap[k]? = some (.cells #[.int .i64 p0, .int .i64 p1, .int .i64 p2, .int .i64 p3, .int .i64 p4, .int .i64 p5, .int .i64 T, .int .u64 nd, .int .i64 nx, .int .i64 po] 162 (0, 0))) (h1 : 1 ≤ T) (h8 : T ≤ 8)(hn0 : 0 ≤ nx)(hn : nx < T) (he : plErr p3 nx = 0) (h0 : s.acc (p3 + nx) = 0) (g0 : s.got (p3 + nx) = 0) :
    Calls Try.prog 58 #[.pointer (some ⟨k, 0, none⟩), .pointer (some ⟨a, 0, none⟩)] w fun e w' => e = .returned (.tuple #[.bool (nx + 1 == T), .int .i64 0]) ∧ MemAt 142 w' a b (s.load (p3 + nx)) ∧ w'.heap[k]? = some (.cells #[.int .i64 p0, .int .i64 p1, .int .i64 p2, .int .i64 p3, .int .i64 p4, .int .i64 p5, .int .i64 T, .int .u64 nd, .int .i64 (nx + 1), .int .i64 po] 162 (0, 0)) ∧ Mod [a, b, k] w w' := by
  have ha := hM.lta
  have hb := hM.ltb
  have hkl := lt_of_block hk
  have hka : k ≠ a := blk_ne hk hM.hd (by decide)
  have hkb : k ≠ b := blk_ne hk hM.ws (by decide)
  have x0 : w.cell? ⟨k, 0, none⟩ = some (.int .i64 p0) := cell_of_blk hk rfl
  have x1 : w.cell? ⟨k, 1, none⟩ = some (.int .i64 p1) := cell_of_blk hk rfl
  have x2 : w.cell? ⟨k, 2, none⟩ = some (.int .i64 p2) := cell_of_blk hk rfl
  have x3 : w.cell? ⟨k, 3, none⟩ = some (.int .i64 p3) := cell_of_blk hk rfl
  have x4 : w.cell? ⟨k, 4, none⟩ = some (.int .i64 p4) := cell_of_blk hk rfl
  have x5 : w.cell? ⟨k, 5, none⟩ = some (.int .i64 p5) := cell_of_blk hk rfl
  have x6 : w.cell? ⟨k, 6, none⟩ = some (.int .i64 T) := cell_of_blk hk rfl
  have x7 : w.cell? ⟨k, 7, none⟩ = some (.int .u64 nd) := cell_of_blk hk rfl
  have x8 : w.cell? ⟨k, 8, none⟩ = some (.int .i64 nx) := cell_of_blk hk rfl
  have x9 : w.cell? ⟨k, 9, none⟩ = some (.int .i64 po) := cell_of_blk hk rfl
  have xf8 := free_of_blk (i := 8) hk
  have xf9 := free_of_blk (i := 9) hk
  have hat : plAt p3 nx = p3 + nx := if_pos he
  have Hat := Lib.hid hat; clear hat
  have He := Lib.hid he; clear he
  go_enter Try.func58, Try.ntmps58
  go_wp2
  go_step3
  go_wp2
  go_step3
  go_wp2
  go_loopw [6] (fun _ wr => MemAt 142 wr a b s ∧ wr.heap[k]? = some (.cells #[.int .i64 p0, .int .i64 p1, .int .i64 p2, .int .i64 p3, .int .i64 p4, .int .i64 p5, .int .i64 T, .int .u64 nd, .int .i64 nx, .int .i64 po] 162 (0, 0)) ∧ Mod [] w wr) (fun _ _ => 0)
  case atStart => exact ⟨hM, hk, Mod.refl _ _⟩
  case round =>
    obtain ⟨M1, K1, D1⟩ := hrel
    clear x0 x1 x2 x3 x4 x5 x6 x7 x8 x9 xf8 xf9
    have ha1 := M1.lta
    have hb1 := M1.ltb
    have hk1 := lt_of_block K1
    have y0 : wr.cell? ⟨k, 0, none⟩ = some (.int .i64 p0) := cell_of_blk K1 rfl
    have y1 : wr.cell? ⟨k, 1, none⟩ = some (.int .i64 p1) := cell_of_blk K1 rfl
    have y2 : wr.cell? ⟨k, 2, none⟩ = some (.int .i64 p2) := cell_of_blk K1 rfl
    have y3 : wr.cell? ⟨k, 3, none⟩ = some (.int .i64 p3) := cell_of_blk K1 rfl
    have y4 : wr.cell? ⟨k, 4, none⟩ = some (.int .i64 p4) := cell_of_blk K1 rfl
    have y5 : wr.cell? ⟨k, 5, none⟩ = some (.int .i64 p5) := cell_of_blk K1 rfl
    have y6 : wr.cell? ⟨k, 6, none⟩ = some (.int .i64 T) := cell_of_blk K1 rfl
    have y7 : wr.cell? ⟨k, 7, none⟩ = some (.int .u64 nd) := cell_of_blk K1 rfl
    have y8 : wr.cell? ⟨k, 8, none⟩ = some (.int .i64 nx) := cell_of_blk K1 rfl
    have y9 : wr.cell? ⟨k, 9, none⟩ = some (.int .i64 po) := cell_of_blk K1 rfl
    have yf8 := free_of_blk (i := 8) K1
    have yf9 := free_of_blk (i := 9) K1
    go_wp2_with fail
    go_quiet (fail)
    go_upto_region 4 with fail
    generalize hwq : wr.drewN _ = wq
    have M2 : MemAt 142 wq a b s := hwq ▸ M1.drewN _
    have K2 : wq.heap[k]? = some (.cells #[.int .i64 p0, .int .i64 p1, .int .i64 p2, .int .i64 p3, .int .i64 p4, .int .i64 p5, .int .i64 T, .int .u64 nd, .int .i64 nx, .int .i64 po] 162 (0, 0)) := hwq ▸ K1
    have D2 : Mod [] w wq := hwq ▸ D1.drewN _
    clear y0 y1 y2 y3 y4 y5 y6 y7 y8 y9 yf8 yf9 hwq M1 K1 D1
    have v0 : wq.cell? ⟨k, 0, none⟩ = some (.int .i64 p0) := cell_of_blk K2 rfl
    have v1 : wq.cell? ⟨k, 1, none⟩ = some (.int .i64 p1) := cell_of_blk K2 rfl
    have v2 : wq.cell? ⟨k, 2, none⟩ = some (.int .i64 p2) := cell_of_blk K2 rfl
    have v3 : wq.cell? ⟨k, 3, none⟩ = some (.int .i64 p3) := cell_of_blk K2 rfl
    have v4 : wq.cell? ⟨k, 4, none⟩ = some (.int .i64 p4) := cell_of_blk K2 rfl
    have v5 : wq.cell? ⟨k, 5, none⟩ = some (.int .i64 p5) := cell_of_blk K2 rfl
    have v6 : wq.cell? ⟨k, 6, none⟩ = some (.int .i64 T) := cell_of_blk K2 rfl
    have v7 : wq.cell? ⟨k, 7, none⟩ = some (.int .u64 nd) := cell_of_blk K2 rfl
    have v8 : wq.cell? ⟨k, 8, none⟩ = some (.int .i64 nx) := cell_of_blk K2 rfl
    have v9 : wq.cell? ⟨k, 9, none⟩ = some (.int .i64 po) := cell_of_blk K2 rfl
    have vf8 := free_of_blk (i := 8) K2
    have vf9 := free_of_blk (i := 9) K2

    go_cut [6, 7] (fun x y wx => x = .int .i64 (plAt p3 nx) ∧ y = .int .i64 (plErr p3 nx) ∧ MemAt 142 wx a b s ∧ wx.heap[k]? = some (.cells #[.int .i64 p0, .int .i64 p1, .int .i64 p2, .int .i64 p3, .int .i64 p4, .int .i64 p5, .int .i64 T, .int .u64 nd, .int .i64 nx, .int .i64 po] 162 (0, 0)) ∧ Mod [] w wx)
    case first =>
      go_region_with (go_at_call 113; refine (place13 _ _ _ _ _ _ _ _).mono ?_; rintro e w1 ⟨rfl, rfl⟩)
      all_goals
        go_wp2_with fail
        go_meet
        exact ⟨rfl, rfl, by repeat (first | exact M2 | refine MemAt.drew ?_ | refine MemAt.alloc ?_ _), blk_alloc_old _ K2, (by repeat (first | with_reducible exact Mod.refl _ _ | with_reducible assumption | with_reducible refine Mod.drew ?_ | with_reducible refine Mod.drewN ?_ _ | with_reducible refine Mod.alloc ?_ _ | with_reducible refine Mod.setCell ?_ _ _ (.inl (by simp))))⟩
    case rest =>
      obtain ⟨rfl, rfl, M3, K3, D3⟩ := hcut
      clear v0 v1 v2 v3 v4 v5 v6 v7 v8 v9 vf8 vf9 M2 K2 D2
      have z0 : wc.cell? ⟨k, 0, none⟩ = some (.int .i64 p0) := cell_of_blk K3 rfl
      have z1 : wc.cell? ⟨k, 1, none⟩ = some (.int .i64 p1) := cell_of_blk K3 rfl
      have z2 : wc.cell? ⟨k, 2, none⟩ = some (.int .i64 p2) := cell_of_blk K3 rfl
      have z3 : wc.cell? ⟨k, 3, none⟩ = some (.int .i64 p3) := cell_of_blk K3 rfl
      have z4 : wc.cell? ⟨k, 4, none⟩ = some (.int .i64 p4) := cell_of_blk K3 rfl
      have z5 : wc.cell? ⟨k, 5, none⟩ = some (.int .i64 p5) := cell_of_blk K3 rfl
      have z6 : wc.cell? ⟨k, 6, none⟩ = some (.int .i64 T) := cell_of_blk K3 rfl
      have z7 : wc.cell? ⟨k, 7, none⟩ = some (.int .u64 nd) := cell_of_blk K3 rfl
      have z8 : wc.cell? ⟨k, 8, none⟩ = some (.int .i64 nx) := cell_of_blk K3 rfl
      have z9 : wc.cell? ⟨k, 9, none⟩ = some (.int .i64 po) := cell_of_blk K3 rfl
      have zf8 := free_of_blk (i := 8) K3
      have zf9 := free_of_blk (i := 9) K3
      rw [He.out, Hat.out]
      go_wp2_with fail
      refine (load_c M3 _).mono ?_; rintro e w2 ⟨rfl, M4, d4⟩
      have K4 := d4.at K3 (by have := M3.lta; have := M3.ltb; simp; omega)
      have HD : Hid (Mod [a, b, k] w w2) := (D3.weak _).then d4 (by simp)
      have HM := Lib.hid M4
      clear z0 z1 z2 z3 z4 z5 z6 z7 z8 z9 zf8 zf9 D3 d4 M3 M4 K3
      have u0 : w2.cell? ⟨k, 0, none⟩ = some (.int .i64 p0) := cell_of_blk K4 rfl
      have u1 : w2.cell? ⟨k, 1, none⟩ = some (.int .i64 p1) := cell_of_blk K4 rfl
      have u2 : w2.cell? ⟨k, 2, none⟩ = some (.int .i64 p2) := cell_of_blk K4 rfl
      have u3 : w2.cell? ⟨k, 3, none⟩ = some (.int .i64 p3) := cell_of_blk K4 rfl
      have u4 : w2.cell? ⟨k, 4, none⟩ = some (.int .i64 p4) := cell_of_blk K4 rfl
      have u5 : w2.cell? ⟨k, 5, none⟩ = some (.int .i64 p5) := cell_of_blk K4 rfl
      have u6 : w2.cell? ⟨k, 6, none⟩ = some (.int .i64 T) := cell_of_blk K4 rfl
      have u7 : w2.cell? ⟨k, 7, none⟩ = some (.int .u64 nd) := cell_of_blk K4 rfl
      have u8 : w2.cell? ⟨k, 8, none⟩ = some (.int .i64 nx) := cell_of_blk K4 rfl
      have u9 : w2.cell? ⟨k, 9, none⟩ = some (.int .i64 po) := cell_of_blk K4 rfl
      have uf8 := free_of_blk (i := 8) K4
      have uf9 := free_of_blk (i := 9) K4
      go_wp2_with fail
      generalize hws : w2.setCell _ _ = ws
      have K5 : ws.heap[k]? = some (.cells #[.int .i64 p0, .int .i64 p1, .int .i64 p2, .int .i64 p3, .int .i64 p4, .int .i64 p5, .int .i64 T, .int .u64 nd, .int .i64 (nx + 1), .int .i64 po] 162 (0, 0)) := by rw [← hws]; exact blk_setCell_same _ K4
      have M5 : Hid (MemAt 142 ws a b (s.load (p3 + nx))) := by rw [← hws]; exact HM.out.other _ _ _ (Ne.symm hka) (Ne.symm hkb)
      have D5 : Hid (Mod [a, b, k] w ws) := by rw [← hws]; exact HD.out.setCell _ _ (.inl (by simp))
      clear hws HM HD K4 u0 u1 u2 u3 u4 u5 u6 u7 u8 u9 uf8 uf9
      have q0 : ws.cell? ⟨k, 0, none⟩ = some (.int .i64 p0) := cell_of_blk K5 rfl
      have q1 : ws.cell? ⟨k, 1, none⟩ = some (.int .i64 p1) := cell_of_blk K5 rfl
      have q2 : ws.cell? ⟨k, 2, none⟩ = some (.int .i64 p2) := cell_of_blk K5 rfl
      have q3 : ws.cell? ⟨k, 3, none⟩ = some (.int .i64 p3) := cell_of_blk K5 rfl
      have q4 : ws.cell? ⟨k, 4, none⟩ = some (.int .i64 p4) := cell_of_blk K5 rfl
      have q5 : ws.cell? ⟨k, 5, none⟩ = some (.int .i64 p5) := cell_of_blk K5 rfl
      have q6 : ws.cell? ⟨k, 6, none⟩ = some (.int .i64 T) := cell_of_blk K5 rfl
      have q7 : ws.cell? ⟨k, 7, none⟩ = some (.int .u64 nd) := cell_of_blk K5 rfl
      have q8 : ws.cell? ⟨k, 8, none⟩ = some (.int .i64 (nx + 1)) := cell_of_blk K5 rfl
      have q9 : ws.cell? ⟨k, 9, none⟩ = some (.int .i64 po) := cell_of_blk K5 rfl
      have qf8 := free_of_blk (i := 8) K5
      have qf9 := free_of_blk (i := 9) K5
      go_quiet (fail)
      go_wp2
      rw [Exit.noGoto_ret]
      go_ret2
      exact ⟨rfl, by have MM := M5.out; repeat (first | exact MM | refine MemAt.drewN ?_ _ | refine MemAt.drew ?_), K5, by have DD := D5.out; repeat (first | exact DD | refine Mod.drewN ?_ _ | refine Mod.drew ?_)⟩

set_option maxRecDepth 100000 in
set_option maxHeartbeats 2000000 in
theorem scanF2_c {a b k : Nat} {s : MemS} {w : World} (hM : MemAt 142 w a b s) (p0 p1 p2 p3 p4 p5 T nd nx po : Int) (hk : w.heap[k]? = some (.cells #[.int .i64 p0, .int .i64 p1, .int .i64 p2, .int .i64 p3, .int .i64 p4, .int .i64 p5, .int .i64 T, .int .u64 nd, .int .i64 nx, .int .i64 po] 162 (0, 0))) (h1 : 1 ≤ T) (h8 : T ≤ 8)(hn0 : 0 ≤ nx)(hn : nx < T) (he : plErr p3 nx = 0) (h0 : s.acc (p3 + nx) = 0) (g0 : (s.got (p3 + nx) != 0) = true) (g1 : nd < s.got (p3 + nx)) :
    Calls Try.prog 58 #[.pointer (some ⟨k, 0, none⟩), .pointer (some ⟨a, 0, none⟩)] w fun e w' => e = .returned (.tuple #[.bool (nx + 1 == T), .int .i64 0]) ∧ MemAt 142 w' a b (s.load (p3 + nx)) ∧ w'.heap[k]? = some (.cells #[.int .i64 p0, .int .i64 p1, .int .i64 p2, .int .i64 p3, .int .i64 p4, .int .i64 p5, .int .i64 T, .int .u64 nd, .int .i64 (nx + 1), .int .i64 po] 162 (0, 0)) ∧ Mod [a, b, k] w w' := by
  have ha := hM.lta
  have hb := hM.ltb
  have hkl := lt_of_block hk
  have hka : k ≠ a := blk_ne hk hM.hd (by decide)
  have hkb : k ≠ b := blk_ne hk hM.ws (by decide)
  have x0 : w.cell? ⟨k, 0, none⟩ = some (.int .i64 p0) := cell_of_blk hk rfl
  have x1 : w.cell? ⟨k, 1, none⟩ = some (.int .i64 p1) := cell_of_blk hk rfl
  have x2 : w.cell? ⟨k, 2, none⟩ = some (.int .i64 p2) := cell_of_blk hk rfl
  have x3 : w.cell? ⟨k, 3, none⟩ = some (.int .i64 p3) := cell_of_blk hk rfl
  have x4 : w.cell? ⟨k, 4, none⟩ = some (.int .i64 p4) := cell_of_blk hk rfl
  have x5 : w.cell? ⟨k, 5, none⟩ = some (.int .i64 p5) := cell_of_blk hk rfl
  have x6 : w.cell? ⟨k, 6, none⟩ = some (.int .i64 T) := cell_of_blk hk rfl
  have x7 : w.cell? ⟨k, 7, none⟩ = some (.int .u64 nd) := cell_of_blk hk rfl
  have x8 : w.cell? ⟨k, 8, none⟩ = some (.int .i64 nx) := cell_of_blk hk rfl
  have x9 : w.cell? ⟨k, 9, none⟩ = some (.int .i64 po) := cell_of_blk hk rfl
  have xf8 := free_of_blk (i := 8) hk
  have xf9 := free_of_blk (i := 9) hk
  have hat : plAt p3 nx = p3 + nx := if_pos he
  have Hat := Lib.hid hat; clear hat
  have He := Lib.hid he; clear he
  go_enter Try.func58, Try.ntmps58
  go_wp2
  go_step3
  go_wp2
  go_step3
  go_wp2
  go_loopw [6] (fun _ wr => MemAt 142 wr a b s ∧ wr.heap[k]? = some (.cells #[.int .i64 p0, .int .i64 p1, .int .i64 p2, .int .i64 p3, .int .i64 p4, .int .i64 p5, .int .i64 T, .int .u64 nd, .int .i64 nx, .int .i64 po] 162 (0, 0)) ∧ Mod [] w wr) (fun _ _ => 0)
  case atStart => exact ⟨hM, hk, Mod.refl _ _⟩
  case round =>
    obtain ⟨M1, K1, D1⟩ := hrel
    clear x0 x1 x2 x3 x4 x5 x6 x7 x8 x9 xf8 xf9
    have ha1 := M1.lta
    have hb1 := M1.ltb
    have hk1 := lt_of_block K1
    have y0 : wr.cell? ⟨k, 0, none⟩ = some (.int .i64 p0) := cell_of_blk K1 rfl
    have y1 : wr.cell? ⟨k, 1, none⟩ = some (.int .i64 p1) := cell_of_blk K1 rfl
    have y2 : wr.cell? ⟨k, 2, none⟩ = some (.int .i64 p2) := cell_of_blk K1 rfl
    have y3 : wr.cell? ⟨k, 3, none⟩ = some (.int .i64 p3) := cell_of_blk K1 rfl
    have y4 : wr.cell? ⟨k, 4, none⟩ = some (.int .i64 p4) := cell_of_blk K1 rfl
    have y5 : wr.cell? ⟨k, 5, none⟩ = some (.int .i64 p5) := cell_of_blk K1 rfl
    have y6 : wr.cell? ⟨k, 6, none⟩ = some (.int .i64 T) := cell_of_blk K1 rfl
    have y7 : wr.cell? ⟨k, 7, none⟩ = some (.int .u64 nd) := cell_of_blk K1 rfl
    have y8 : wr.cell? ⟨k, 8, none⟩ = some (.int .i64 nx) := cell_of_blk K1 rfl
    have y9 : wr.cell? ⟨k, 9, none⟩ = some (.int .i64 po) := cell_of_blk K1 rfl
    have yf8 := free_of_blk (i := 8) K1
    have yf9 := free_of_blk (i := 9) K1
    go_wp2_with fail
    go_quiet (fail)
    go_upto_region 4 with fail
    generalize hwq : wr.drewN _ = wq
    have M2 : MemAt 142 wq a b s := hwq ▸ M1.drewN _
    have K2 : wq.heap[k]? = some (.cells #[.int .i64 p0, .int .i64 p1, .int .i64 p2, .int .i64 p3, .int .i64 p4, .int .i64 p5, .int .i64 T, .int .u64 nd, .int .i64 nx, .int .i64 po] 162 (0, 0)) := hwq ▸ K1
    have D2 : Mod [] w wq := hwq ▸ D1.drewN _
    clear y0 y1 y2 y3 y4 y5 y6 y7 y8 y9 yf8 yf9 hwq M1 K1 D1
    have v0 : wq.cell? ⟨k, 0, none⟩ = some (.int .i64 p0) := cell_of_blk K2 rfl
    have v1 : wq.cell? ⟨k, 1, none⟩ = some (.int .i64 p1) := cell_of_blk K2 rfl
    have v2 : wq.cell? ⟨k, 2, none⟩ = some (.int .i64 p2) := cell_of_blk K2 rfl
    have v3 : wq.cell? ⟨k, 3, none⟩ = some (.int .i64 p3) := cell_of_blk K2 rfl
    have v4 : wq.cell? ⟨k, 4, none⟩ = some (.int .i64 p4) := cell_of_blk K2 rfl
    have v5 : wq.cell? ⟨k, 5, none⟩ = some (.int .i64 p5) := cell_of_blk K2 rfl
    have v6 : wq.cell? ⟨k, 6, none⟩ = some (.int .i64 T) := cell_of_blk K2 rfl
    have v7 : wq.cell? ⟨k, 7, none⟩ = some (.int .u64 nd) := cell_of_blk K2 rfl
    have v8 : wq.cell? ⟨k, 8, none⟩ = some (.int .i64 nx) := cell_of_blk K2 rfl
    have v9 : wq.cell? ⟨k, 9, none⟩ = some (.int .i64 po) := cell_of_blk K2 rfl
    have vf8 := free_of_blk (i := 8) K2
    have vf9 := free_of_blk (i := 9) K2

    go_cut [6, 7] (fun x y wx => x = .int .i64 (plAt p3 nx) ∧ y = .int .i64 (plErr p3 nx) ∧ MemAt 142 wx a b s ∧ wx.heap[k]? = some (.cells #[.int .i64 p0, .int .i64 p1, .int .i64 p2, .int .i64 p3, .int .i64 p4, .int .i64 p5, .int .i64 T, .int .u64 nd, .int .i64 nx, .int .i64 po] 162 (0, 0)) ∧ Mod [] w wx)
    case first =>
      go_region_with (go_at_call 113; refine (place13 _ _ _ _ _ _ _ _).mono ?_; rintro e w1 ⟨rfl, rfl⟩)
      all_goals
        go_wp2_with fail
        go_meet
        exact ⟨rfl, rfl, by repeat (first | exact M2 | refine MemAt.drew ?_ | refine MemAt.alloc ?_ _), blk_alloc_old _ K2, (by repeat (first | with_reducible exact Mod.refl _ _ | with_reducible assumption | with_reducible refine Mod.drew ?_ | with_reducible refine Mod.drewN ?_ _ | with_reducible refine Mod.alloc ?_ _ | with_reducible refine Mod.setCell ?_ _ _ (.inl (by simp))))⟩
    case rest =>
      obtain ⟨rfl, rfl, M3, K3, D3⟩ := hcut
      clear v0 v1 v2 v3 v4 v5 v6 v7 v8 v9 vf8 vf9 M2 K2 D2
      have z0 : wc.cell? ⟨k, 0, none⟩ = some (.int .i64 p0) := cell_of_blk K3 rfl
      have z1 : wc.cell? ⟨k, 1, none⟩ = some (.int .i64 p1) := cell_of_blk K3 rfl
      have z2 : wc.cell? ⟨k, 2, none⟩ = some (.int .i64 p2) := cell_of_blk K3 rfl
      have z3 : wc.cell? ⟨k, 3, none⟩ = some (.int .i64 p3) := cell_of_blk K3 rfl
      have z4 : wc.cell? ⟨k, 4, none⟩ = some (.int .i64 p4) := cell_of_blk K3 rfl
      have z5 : wc.cell? ⟨k, 5, none⟩ = some (.int .i64 p5) := cell_of_blk K3 rfl
      have z6 : wc.cell? ⟨k, 6, none⟩ = some (.int .i64 T) := cell_of_blk K3 rfl
      have z7 : wc.cell? ⟨k, 7, none⟩ = some (.int .u64 nd) := cell_of_blk K3 rfl
      have z8 : wc.cell? ⟨k, 8, none⟩ = some (.int .i64 nx) := cell_of_blk K3 rfl
      have z9 : wc.cell? ⟨k, 9, none⟩ = some (.int .i64 po) := cell_of_blk K3 rfl
      have zf8 := free_of_blk (i := 8) K3
      have zf9 := free_of_blk (i := 9) K3
      rw [He.out, Hat.out]
      go_wp2_with fail
      refine (load_c M3 _).mono ?_; rintro e w2 ⟨rfl, M4, d4⟩
      have K4 := d4.at K3 (by have := M3.lta; have := M3.ltb; simp; omega)
      have HD : Hid (Mod [a, b, k] w w2) := (D3.weak _).then d4 (by simp)
      have HM := Lib.hid M4
      clear z0 z1 z2 z3 z4 z5 z6 z7 z8 z9 zf8 zf9 D3 d4 M3 M4 K3
      have u0 : w2.cell? ⟨k, 0, none⟩ = some (.int .i64 p0) := cell_of_blk K4 rfl
      have u1 : w2.cell? ⟨k, 1, none⟩ = some (.int .i64 p1) := cell_of_blk K4 rfl
      have u2 : w2.cell? ⟨k, 2, none⟩ = some (.int .i64 p2) := cell_of_blk K4 rfl
      have u3 : w2.cell? ⟨k, 3, none⟩ = some (.int .i64 p3) := cell_of_blk K4 rfl
      have u4 : w2.cell? ⟨k, 4, none⟩ = some (.int .i64 p4) := cell_of_blk K4 rfl
      have u5 : w2.cell? ⟨k, 5, none⟩ = some (.int .i64 p5) := cell_of_blk K4 rfl
      have u6 : w2.cell? ⟨k, 6, none⟩ = some (.int .i64 T) := cell_of_blk K4 rfl
      have u7 : w2.cell? ⟨k, 7, none⟩ = some (.int .u64 nd) := cell_of_blk K4 rfl
      have u8 : w2.cell? ⟨k, 8, none⟩ = some (.int .i64 nx) := cell_of_blk K4 rfl
      have u9 : w2.cell? ⟨k, 9, none⟩ = some (.int .i64 po) := cell_of_blk K4 rfl
      have uf8 := free_of_blk (i := 8) K4
      have uf9 := free_of_blk (i := 9) K4
      go_wp2_with fail
      generalize hws : w2.setCell _ _ = ws
      have K5 : ws.heap[k]? = some (.cells #[.int .i64 p0, .int .i64 p1, .int .i64 p2, .int .i64 p3, .int .i64 p4, .int .i64 p5, .int .i64 T, .int .u64 nd, .int .i64 (nx + 1), .int .i64 po] 162 (0, 0)) := by rw [← hws]; exact blk_setCell_same _ K4
      have M5 : Hid (MemAt 142 ws a b (s.load (p3 + nx))) := by rw [← hws]; exact HM.out.other _ _ _ (Ne.symm hka) (Ne.symm hkb)
      have D5 : Hid (Mod [a, b, k] w ws) := by rw [← hws]; exact HD.out.setCell _ _ (.inl (by simp))
      clear hws HM HD K4 u0 u1 u2 u3 u4 u5 u6 u7 u8 u9 uf8 uf9
      have q0 : ws.cell? ⟨k, 0, none⟩ = some (.int .i64 p0) := cell_of_blk K5 rfl
      have q1 : ws.cell? ⟨k, 1, none⟩ = some (.int .i64 p1) := cell_of_blk K5 rfl
      have q2 : ws.cell? ⟨k, 2, none⟩ = some (.int .i64 p2) := cell_of_blk K5 rfl
      have q3 : ws.cell? ⟨k, 3, none⟩ = some (.int .i64 p3) := cell_of_blk K5 rfl
      have q4 : ws.cell? ⟨k, 4, none⟩ = some (.int .i64 p4) := cell_of_blk K5 rfl
      have q5 : ws.cell? ⟨k, 5, none⟩ = some (.int .i64 p5) := cell_of_blk K5 rfl
      have q6 : ws.cell? ⟨k, 6, none⟩ = some (.int .i64 T) := cell_of_blk K5 rfl
      have q7 : ws.cell? ⟨k, 7, none⟩ = some (.int .u64 nd) := cell_of_blk K5 rfl
      have q8 : ws.cell? ⟨k, 8, none⟩ = some (.int .i64 (nx + 1)) := cell_of_blk K5 rfl
      have q9 : ws.cell? ⟨k, 9, none⟩ = some (.int .i64 po) := cell_of_blk K5 rfl
      have qf8 := free_of_blk (i := 8) K5
      have qf9 := free_of_blk (i := 9) K5
      go_quiet (fail)
      go_wp2
      rw [Exit.noGoto_ret]
      go_ret2
      exact ⟨rfl, by have MM := M5.out; repeat (first | exact MM | refine MemAt.drewN ?_ _ | refine MemAt.drew ?_), K5, by have DD := D5.out; repeat (first | exact DD | refine Mod.drewN ?_ _ | refine Mod.drew ?_)⟩

set_option maxRecDepth 100000 in
set_option maxHeartbeats 2000000 in
theorem scanB_r {a b k : Nat} {s : MemS} {w : World} (hM : MemAt 148 w a b s) (p0 p1 p2 p3 p4 p5 T nd po : Int) (hk : w.heap[k]? = some (.cells #[.int .i64 p0, .int .i64 p1, .int .i64 p2, .int .i64 p3, .int .i64 p4, .int .i64 p5, .int .i64 T, .int .u64 nd, .int .i64 T, .int .i64 po] 170 (0, 0))) (h1 : 1 ≤ T) (h8 : T ≤ 8) :
    Calls Try.prog 118 #[.pointer (some ⟨k, 0, none⟩), .pointer (some ⟨a, 0, none⟩)] w fun e w' => e = .returned (.tuple #[.bool false, .int .i64 3]) ∧ MemAt 148 w' a b (s) ∧ w'.heap[k]? = some (.cells #[.int .i64 p0, .int .i64 p1, .int .i64 p2, .int .i64 p3, .int .i64 p4, .int .i64 p5, .int .i64 T, .int .u64 nd, .int .i64 T, .int .i64 po] 170 (0, 0)) ∧ Mod [a, b, k] w w' := by
  have ha := hM.lta
  have hb := hM.ltb
  have hkl := lt_of_block hk
  have hka : k ≠ a := blk_ne hk hM.hd (by decide)
  have hkb : k ≠ b := blk_ne hk hM.ws (by decide)
  have x0 : w.cell? ⟨k, 0, none⟩ = some (.int .i64 p0) := cell_of_blk hk rfl
  have x1 : w.cell? ⟨k, 1, none⟩ = some (.int .i64 p1) := cell_of_blk hk rfl
  have x2 : w.cell? ⟨k, 2, none⟩ = some (.int .i64 p2) := cell_of_blk hk rfl
  have x3 : w.cell? ⟨k, 3, none⟩ = some (.int .i64 p3) := cell_of_blk hk rfl
  have x4 : w.cell? ⟨k, 4, none⟩ = some (.int .i64 p4) := cell_of_blk hk rfl
  have x5 : w.cell? ⟨k, 5, none⟩ = some (.int .i64 p5) := cell_of_blk hk rfl
  have x6 : w.cell? ⟨k, 6, none⟩ = some (.int .i64 T) := cell_of_blk hk rfl
  have x7 : w.cell? ⟨k, 7, none⟩ = some (.int .u64 nd) := cell_of_blk hk rfl
  have x8 : w.cell? ⟨k, 8, none⟩ = some (.int .i64 T) := cell_of_blk hk rfl
  have x9 : w.cell? ⟨k, 9, none⟩ = some (.int .i64 po) := cell_of_blk hk rfl
  have xf8 := free_of_blk (i := 8) hk
  have xf9 := free_of_blk (i := 9) hk
  go_enter Try.func118, Try.ntmps118
  go_wp2
  go_quiet (fail)
  go_wp2
  go_ret2
  exact ⟨rfl, by repeat (first | exact hM | refine MemAt.drewN ?_ _ | refine MemAt.drew ?_), hk, (by repeat (first | with_reducible exact Mod.refl _ _ | with_reducible assumption | with_reducible refine Mod.drew ?_ | with_reducible refine Mod.drewN ?_ _ | with_reducible refine Mod.alloc ?_ _ | with_reducible refine Mod.setCell ?_ _ _ (.inl (by simp))))⟩

set_option maxRecDepth 100000 in
set_option maxHeartbeats 2000000 in
theorem scanD_r {a b k : Nat} {s : MemS} {w : World} (hM : MemAt 148 w a b s) (p0 p1 p2 p3 p4 p5 T nd nx po : Int) (hk : w.heap[k]? = some (.cells #[.int .i64 p0, .int .i64 p1, .int .i64 p2, .int .i64 p3, .int .i64 p4, .int .i64 p5, .int .i64 T, .int .u64 nd, .int .i64 nx, .int .i64 po] 170 (0, 0))) (h1 : 1 ≤ T) (h8 : T ≤ 8)(t0 : 0 ≤ nx) (t8 : nx < 8)(hn : nx < T) (hp : 0 ≤ p3) (hp2 : p3 ≤ 4096) (h0 : (s.acc (p3 + nx) != 0) = true) :
    Calls Try.prog 118 #[.pointer (some ⟨k, 0, none⟩), .pointer (some ⟨a, 0, none⟩)] w fun e w' => e = .returned (.tuple #[.bool false, .int .i64 (s.acc (p3 + nx))]) ∧ MemAt 148 w' a b (s.load (p3 + nx)) ∧ w'.heap[k]? = some (.cells #[.int .i64 p0, .int .i64 p1, .int .i64 p2, .int .i64 p3, .int .i64 p4, .int .i64 p5, .int .i64 T, .int .u64 nd, .int .i64 nx, .int .i64 po] 170 (0, 0)) ∧ Mod [a, b, k] w w' := by
  have ha := hM.lta
  have hb := hM.ltb
  have hkl := lt_of_block hk
  have hka : k ≠ a := blk_ne hk hM.hd (by decide)
  have hkb : k ≠ b := blk_ne hk hM.ws (by decide)
  have x0 : w.cell? ⟨k, 0, none⟩ = some (.int .i64 p0) := cell_of_blk hk rfl
  have x1 : w.cell? ⟨k, 1, none⟩ = some (.int .i64 p1) := cell_of_blk hk rfl
  have x2 : w.cell? ⟨k, 2, none⟩ = some (.int .i64 p2) := cell_of_blk hk rfl
  have x3 : w.cell? ⟨k, 3, none⟩ = some (.int .i64 p3) := cell_of_blk hk rfl
  have x4 : w.cell? ⟨k, 4, none⟩ = some (.int .i64 p4) := cell_of_blk hk rfl
  have x5 : w.cell? ⟨k, 5, none⟩ = some (.int .i64 p5) := cell_of_blk hk rfl
  have x6 : w.cell? ⟨k, 6, none⟩ = some (.int .i64 T) := cell_of_blk hk rfl
  have x7 : w.cell? ⟨k, 7, none⟩ = some (.int .u64 nd) := cell_of_blk hk rfl
  have x8 : w.cell? ⟨k, 8, none⟩ = some (.int .i64 nx) := cell_of_blk hk rfl
  have x9 : w.cell? ⟨k, 9, none⟩ = some (.int .i64 po) := cell_of_blk hk rfl
  have xf8 := free_of_blk (i := 8) hk
  have xf9 := free_of_blk (i := 9) hk
  have hwd : wordAt p3 nx = p3 + nx := if_neg (by omega)
  have Hwd := Lib.hid hwd; clear hwd
  go_enter Try.func118, Try.ntmps118
  go_wp2
  go_quiet (fail)
  go_upto_region 5 with fail
  generalize hwq : w.drewN _ = wq
  have M2 : MemAt 148 wq a b s := hwq ▸ hM.drewN _
  have K2 : wq.heap[k]? = some (.cells #[.int .i64 p0, .int .i64 p1, .int .i64 p2, .int .i64 p3, .int .i64 p4, .int .i64 p5, .int .i64 T, .int .u64 nd, .int .i64 nx, .int .i64 po] 170 (0, 0)) := hwq ▸ hk
  have D2 : Mod [] w wq := hwq ▸ (Mod.refl _ _).drewN _
  clear x0 x1 x2 x3 x4 x5 x6 x7 x8 x9 xf8 xf9 hwq
  have v0 : wq.cell? ⟨k, 0, none⟩ = some (.int .i64 p0) := cell_of_blk K2 rfl
  have v1 : wq.cell? ⟨k, 1, none⟩ = some (.int .i64 p1) := cell_of_blk K2 rfl
  have v2 : wq.cell? ⟨k, 2, none⟩ = some (.int .i64 p2) := cell_of_blk K2 rfl
  have v3 : wq.cell? ⟨k, 3, none⟩ = some (.int .i64 p3) := cell_of_blk K2 rfl
  have v4 : wq.cell? ⟨k, 4, none⟩ = some (.int .i64 p4) := cell_of_blk K2 rfl
  have v5 : wq.cell? ⟨k, 5, none⟩ = some (.int .i64 p5) := cell_of_blk K2 rfl
  have v6 : wq.cell? ⟨k, 6, none⟩ = some (.int .i64 T) := cell_of_blk K2 rfl
  have v7 : wq.cell? ⟨k, 7, none⟩ = some (.int .u64 nd) := cell_of_blk K2 rfl
  have v8 : wq.cell? ⟨k, 8, none⟩ = some (.int .i64 nx) := cell_of_blk K2 rfl
  have v9 : wq.cell? ⟨k, 9, none⟩ = some (.int .i64 po) := cell_of_blk K2 rfl
  have vf8 := free_of_blk (i := 8) K2
  have vf9 := free_of_blk (i := 9) K2
  go_cut [6] (fun x wx => x = .int .i64 (wordAt p3 nx) ∧ MemAt 148 wx a b s ∧ wx.heap[k]? = some (.cells #[.int .i64 p0, .int .i64 p1, .int .i64 p2, .int .i64 p3, .int .i64 p4, .int .i64 p5, .int .i64 T, .int .u64 nd, .int .i64 nx, .int .i64 po] 170 (0, 0)) ∧ Mod [] w wx)
  case first =>
    go_region_with (go_at_call 144; refine (word13 _ _ _ _ _ _ _ t0 t8 _).mono ?_; rintro e w1 ⟨rfl, rfl⟩)
    all_goals
      go_wp2_with fail
      go_meet
      exact ⟨rfl, by repeat (first | exact M2 | refine MemAt.drew ?_ | refine MemAt.alloc ?_ _), blk_alloc_old _ K2, (by repeat (first | with_reducible exact Mod.refl _ _ | with_reducible assumption | with_reducible refine Mod.drew ?_ | with_reducible refine Mod.drewN ?_ _ | with_reducible refine Mod.alloc ?_ _ | with_reducible refine Mod.setCell ?_ _ _ (.inl (by simp))))⟩
  case rest =>
    obtain ⟨rfl, M3, K3, D3⟩ := hcut
    clear v0 v1 v2 v3 v4 v5 v6 v7 v8 v9 vf8 vf9 M2 K2 D2
    rw [Hwd.out]
    have z0 : wc.cell? ⟨k, 0, none⟩ = some (.int .i64 p0) := cell_of_blk K3 rfl
    have z1 : wc.cell? ⟨k, 1, none⟩ = some (.int .i64 p1) := cell_of_blk K3 rfl
    have z2 : wc.cell? ⟨k, 2, none⟩ = some (.int .i64 p2) := cell_of_blk K3 rfl
    have z3 : wc.cell? ⟨k, 3, none⟩ = some (.int .i64 p3) := cell_of_blk K3 rfl
    have z4 : wc.cell? ⟨k, 4, none⟩ = some (.int .i64 p4) := cell_of_blk K3 rfl
    have z5 : wc.cell? ⟨k, 5, none⟩ = some (.int .i64 p5) := cell_of_blk K3 rfl
    have z6 : wc.cell? ⟨k, 6, none⟩ = some (.int .i64 T) := cell_of_blk K3 rfl
    have z7 : wc.cell? ⟨k, 7, none⟩ = some (.int .u64 nd) := cell_of_blk K3 rfl
    have z8 : wc.cell? ⟨k, 8, none⟩ = some (.int .i64 nx) := cell_of_blk K3 rfl
    have z9 : wc.cell? ⟨k, 9, none⟩ = some (.int .i64 po) := cell_of_blk K3 rfl
    have zf8 := free_of_blk (i := 8) K3
    have zf9 := free_of_blk (i := 9) K3
    go_wp2_with fail
    refine (load_r M3 _).mono ?_; rintro e w2 ⟨rfl, M4, d4⟩
    have K4 := d4.at K3 (by have := M3.lta; have := M3.ltb; simp; omega)
    have HD : Hid (Mod [a, b, k] w w2) := (D3.weak _).then d4 (by simp)
    have HM := Lib.hid M4
    clear z0 z1 z2 z3 z4 z5 z6 z7 z8 z9 zf8 zf9 D3 d4 M3 M4 K3
    have u0 : w2.cell? ⟨k, 0, none⟩ = some (.int .i64 p0) := cell_of_blk K4 rfl
    have u1 : w2.cell? ⟨k, 1, none⟩ = some (.int .i64 p1) := cell_of_blk K4 rfl
    have u2 : w2.cell? ⟨k, 2, none⟩ = some (.int .i64 p2) := cell_of_blk K4 rfl
    have u3 : w2.cell? ⟨k, 3, none⟩ = some (.int .i64 p3) := cell_of_blk K4 rfl
    have u4 : w2.cell? ⟨k, 4, none⟩ = some (.int .i64 p4) := cell_of_blk K4 rfl
    have u5 : w2.cell? ⟨k, 5, none⟩ = some (.int .i64 p5) := cell_of_blk K4 rfl
    have u6 : w2.cell? ⟨k, 6, none⟩ = some (.int .i64 T) := cell_of_blk K4 rfl
    have u7 : w2.cell? ⟨k, 7, none⟩ = some (.int .u64 nd) := cell_of_blk K4 rfl
    have u8 : w2.cell? ⟨k, 8, none⟩ = some (.int .i64 nx) := cell_of_blk K4 rfl
    have u9 : w2.cell? ⟨k, 9, none⟩ = some (.int .i64 po) := cell_of_blk K4 rfl
    have uf8 := free_of_blk (i := 8) K4
    have uf9 := free_of_blk (i := 9) K4
    go_wp2
    go_ret2
    exact ⟨rfl, HM.out, K4, HD.out⟩

set_option maxRecDepth 100000 in
set_option maxHeartbeats 2000000 in
theorem scanE_r {a b k : Nat} {s : MemS} {w : World} (hM : MemAt 148 w a b s) (p0 p1 p2 p3 p4 p5 T nd nx po : Int) (hk : w.heap[k]? = some (.cells #[.int .i64 p0, .int .i64 p1, .int .i64 p2, .int .i64 p3, .int .i64 p4, .int .i64 p5, .int .i64 T, .int .u64 nd, .int .i64 nx, .int .i64 po] 170 (0, 0))) (h1 : 1 ≤ T) (h8 : T ≤ 8)(t0 : 0 ≤ nx) (t8 : nx < 8)(hn : nx < T) (hp : 0 ≤ p3) (hp2 : p3 ≤ 4096) (h0 : s.acc (p3 + nx) = 0) (g0 : (s.got (p3 + nx) == 0) = false) (g1 : s.got (p3 + nx) ≤ nd) (hne : (nx == T) = false) :
    Calls Try.prog 118 #[.pointer (some ⟨k, 0, none⟩), .pointer (some ⟨a, 0, none⟩)] w fun e w' => e = .returned (.tuple #[.bool false, .int .i64 0]) ∧ MemAt 148 w' a b (s.load (p3 + nx)) ∧ w'.heap[k]? = some (.cells #[.int .i64 p0, .int .i64 p1, .int .i64 p2, .int .i64 p3, .int .i64 p4, .int .i64 p5, .int .i64 T, .int .u64 nd, .int .i64 nx, .int .i64 (wrap64 (po + 1))] 170 (0, 0)) ∧ Mod [a, b, k] w w' := by
  have ha := hM.lta
  have hb := hM.ltb
  have hkl := lt_of_block hk
  have hka : k ≠ a := blk_ne hk hM.hd (by decide)
  have hkb : k ≠ b := blk_ne hk hM.ws (by decide)
  have x0 : w.cell? ⟨k, 0, none⟩ = some (.int .i64 p0) := cell_of_blk hk rfl
  have x1 : w.cell? ⟨k, 1, none⟩ = some (.int .i64 p1) := cell_of_blk hk rfl
  have x2 : w.cell? ⟨k, 2, none⟩ = some (.int .i64 p2) := cell_of_blk hk rfl
  have x3 : w.cell? ⟨k, 3, none⟩ = some (.int .i64 p3) := cell_of_blk hk rfl
  have x4 : w.cell? ⟨k, 4, none⟩ = some (.int .i64 p4) := cell_of_blk hk rfl
  have x5 : w.cell? ⟨k, 5, none⟩ = some (.int .i64 p5) := cell_of_blk hk rfl
  have x6 : w.cell? ⟨k, 6, none⟩ = some (.int .i64 T) := cell_of_blk hk rfl
  have x7 : w.cell? ⟨k, 7, none⟩ = some (.int .u64 nd) := cell_of_blk hk rfl
  have x8 : w.cell? ⟨k, 8, none⟩ = some (.int .i64 nx) := cell_of_blk hk rfl
  have x9 : w.cell? ⟨k, 9, none⟩ = some (.int .i64 po) := cell_of_blk hk rfl
  have xf8 := free_of_blk (i := 8) hk
  have xf9 := free_of_blk (i := 9) hk
  have hwd : wordAt p3 nx = p3 + nx := if_neg (by omega)
  have Hwd := Lib.hid hwd; clear hwd
  go_enter Try.func118, Try.ntmps118
  go_wp2
  go_quiet (fail)
  go_upto_region 5 with fail
  generalize hwq : w.drewN _ = wq
  have M2 : MemAt 148 wq a b s := hwq ▸ hM.drewN _
  have K2 : wq.heap[k]? = some (.cells #[.int .i64 p0, .int .i64 p1, .int .i64 p2, .int .i64 p3, .int .i64 p4, .int .i64 p5, .int .i64 T, .int .u64 nd, .int .i64 nx, .int .i64 po] 170 (0, 0)) := hwq ▸ hk
  have D2 : Mod [] w wq := hwq ▸ (Mod.refl _ _).drewN _
  clear x0 x1 x2 x3 x4 x5 x6 x7 x8 x9 xf8 xf9 hwq
  have v0 : wq.cell? ⟨k, 0, none⟩ = some (.int .i64 p0) := cell_of_blk K2 rfl
  have v1 : wq.cell? ⟨k, 1, none⟩ = some (.int .i64 p1) := cell_of_blk K2 rfl
  have v2 : wq.cell? ⟨k, 2, none⟩ = some (.int .i64 p2) := cell_of_blk K2 rfl
  have v3 : wq.cell? ⟨k, 3, none⟩ = some (.int .i64 p3) := cell_of_blk K2 rfl
  have v4 : wq.cell? ⟨k, 4, none⟩ = some (.int .i64 p4) := cell_of_blk K2 rfl
  have v5 : wq.cell? ⟨k, 5, none⟩ = some (.int .i64 p5) := cell_of_blk K2 rfl
  have v6 : wq.cell? ⟨k, 6, none⟩ = some (.int .i64 T) := cell_of_blk K2 rfl
  have v7 : wq.cell? ⟨k, 7, none⟩ = some (.int .u64 nd) := cell_of_blk K2 rfl
  have v8 : wq.cell? ⟨k, 8, none⟩ = some (.int .i64 nx) := cell_of_blk K2 rfl
  have v9 : wq.cell? ⟨k, 9, none⟩ = some (.int .i64 po) := cell_of_blk K2 rfl
  have vf8 := free_of_blk (i := 8) K2
  have vf9 := free_of_blk (i := 9) K2
  go_cut [6] (fun x wx => x = .int .i64 (wordAt p3 nx) ∧ MemAt 148 wx a b s ∧ wx.heap[k]? = some (.cells #[.int .i64 p0, .int .i64 p1, .int .i64 p2, .int .i64 p3, .int .i64 p4, .int .i64 p5, .int .i64 T, .int .u64 nd, .int .i64 nx, .int .i64 po] 170 (0, 0)) ∧ Mod [] w wx)
  case first =>
    go_region_with (go_at_call 144; refine (word13 _ _ _ _ _ _ _ t0 t8 _).mono ?_; rintro e w1 ⟨rfl, rfl⟩)
    all_goals
      go_wp2_with fail
      go_meet
      exact ⟨rfl, by repeat (first | exact M2 | refine MemAt.drew ?_ | refine MemAt.alloc ?_ _), blk_alloc_old _ K2, (by repeat (first | with_reducible exact Mod.refl _ _ | with_reducible assumption | with_reducible refine Mod.drew ?_ | with_reducible refine Mod.drewN ?_ _ | with_reducible refine Mod.alloc ?_ _ | with_reducible refine Mod.setCell ?_ _ _ (.inl (by simp))))⟩
  case rest =>
    obtain ⟨rfl, M3, K3, D3⟩ := hcut
    clear v0 v1 v2 v3 v4 v5 v6 v7 v8 v9 vf8 vf9 M2 K2 D2
    rw [Hwd.out]
    have z0 : wc.cell? ⟨k, 0, none⟩ = some (.int .i64 p0) := cell_of_blk K3 rfl
    have z1 : wc.cell? ⟨k, 1, none⟩ = some (.int .i64 p1) := cell_of_blk K3 rfl
    have z2 : wc.cell? ⟨k, 2, none⟩ = some (.int .i64 p2) := cell_of_blk K3 rfl
    have z3 : wc.cell? ⟨k, 3, none⟩ = some (.int .i64 p3) := cell_of_blk K3 rfl
    have z4 : wc.cell? ⟨k, 4, none⟩ = some (.int .i64 p4) := cell_of_blk K3 rfl
    have z5 : wc.cell? ⟨k, 5, none⟩ = some (.int .i64 p5) := cell_of_blk K3 rfl
    have z6 : wc.cell? ⟨k, 6, none⟩ = some (.int .i64 T) := cell_of_blk K3 rfl
    have z7 : wc.cell? ⟨k, 7, none⟩ = some (.int .u64 nd) := cell_of_blk K3 rfl
    have z8 : wc.cell? ⟨k, 8, none⟩ = some (.int .i64 nx) := cell_of_blk K3 rfl
    have z9 : wc.cell? ⟨k, 9, none⟩ = some (.int .i64 po) := cell_of_blk K3 rfl
    have zf8 := free_of_blk (i := 8) K3
    have zf9 := free_of_blk (i := 9) K3
    go_wp2_with fail
    refine (load_r M3 _).mono ?_; rintro e w2 ⟨rfl, M4, d4⟩
    have K4 := d4.at K3 (by have := M3.lta; have := M3.ltb; simp; omega)
    have HD : Hid (Mod [a, b, k] w w2) := (D3.weak _).then d4 (by simp)
    have HM := Lib.hid M4
    clear z0 z1 z2 z3 z4 z5 z6 z7 z8 z9 zf8 zf9 D3 d4 M3 M4 K3
    have u0 : w2.cell? ⟨k, 0, none⟩ = some (.int .i64 p0) := cell_of_blk K4 rfl
    have u1 : w2.cell? ⟨k, 1, none⟩ = some (.int .i64 p1) := cell_of_blk K4 rfl
    have u2 : w2.cell? ⟨k, 2, none⟩ = some (.int .i64 p2) := cell_of_blk K4 rfl
    have u3 : w2.cell? ⟨k, 3, none⟩ = some (.int .i64 p3) := cell_of_blk K4 rfl
    have u4 : w2.cell? ⟨k, 4, none⟩ = some (.int .i64 p4) := cell_of_blk K4 rfl
    have u5 : w2.cell? ⟨k, 5, none⟩ = some (.int .i64 p5) := cell_of_blk K4 rfl
    have u6 : w2.cell? ⟨k, 6, none⟩ = some (.int .i64 T) := cell_of_blk K4 rfl
    have u7 : w2.cell? ⟨k, 7, none⟩ = some (.int .u64 nd) := cell_of_blk K4 rfl
    have u8 : w2.cell? ⟨k, 8, none⟩ = some (.int .i64 nx) := cell_of_blk K4 rfl
    have u9 : w2.cell? ⟨k, 9, none⟩ = some (.int .i64 po) := cell_of_blk K4 rfl
    have uf8 := free_of_blk (i := 8) K4
    have uf9 := free_of_blk (i := 9) K4
    go_wp2_with fail
    generalize hws : w2.setCell _ _ = ws
    have K5 : ws.heap[k]? = some (.cells #[.int .i64 p0, .int .i64 p1, .int .i64 p2, .int .i64 p3, .int .i64 p4, .int .i64 p5, .int .i64 T, .int .u64 nd, .int .i64 nx, .int .i64 (wrap64 (po + 1))] 170 (0, 0)) := by rw [← hws]; exact blk_setCell_same _ K4
    have M5 : Hid (MemAt 148 ws a b (s.load (p3 + nx))) := by rw [← hws]; exact HM.out.other _ _ _ (Ne.symm hka) (Ne.symm hkb)
    have D5 : Hid (Mod [a, b, k] w ws) := by rw [← hws]; exact HD.out.setCell _ _ (.inl (by simp))
    clear hws HM HD K4 u0 u1 u2 u3 u4 u5 u6 u7 u8 u9 uf8 uf9
    have q0 : ws.cell? ⟨k, 0, none⟩ = some (.int .i64 p0) := cell_of_blk K5 rfl
    have q1 : ws.cell? ⟨k, 1, none⟩ = some (.int .i64 p1) := cell_of_blk K5 rfl
    have q2 : ws.cell? ⟨k, 2, none⟩ = some (.int .i64 p2) := cell_of_blk K5 rfl
    have q3 : ws.cell? ⟨k, 3, none⟩ = some (.int .i64 p3) := cell_of_blk K5 rfl
    have q4 : ws.cell? ⟨k, 4, none⟩ = some (.int .i64 p4) := cell_of_blk K5 rfl
    have q5 : ws.cell? ⟨k, 5, none⟩ = some (.int .i64 p5) := cell_of_blk K5 rfl
    have q6 : ws.cell? ⟨k, 6, none⟩ = some (.int .i64 T) := cell_of_blk K5 rfl
    have q7 : ws.cell? ⟨k, 7, none⟩ = some (.int .u64 nd) := cell_of_blk K5 rfl
    have q8 : ws.cell? ⟨k, 8, none⟩ = some (.int .i64 nx) := cell_of_blk K5 rfl
    have q9 : ws.cell? ⟨k, 9, none⟩ = some (.int .i64 (wrap64 (po + 1))) := cell_of_blk K5 rfl
    have qf8 := free_of_blk (i := 8) K5
    have qf9 := free_of_blk (i := 9) K5
    go_quiet (fail)
    go_wp2
    skip
    go_ret2
    exact ⟨rfl, by have MM := M5.out; repeat (first | exact MM | refine MemAt.drewN ?_ _ | refine MemAt.drew ?_), K5, by have DD := D5.out; repeat (first | exact DD | refine Mod.drewN ?_ _ | refine Mod.drew ?_)⟩

set_option maxRecDepth 100000 in
set_option maxHeartbeats 2000000 in
theorem scanF1_r {a b k : Nat} {s : MemS} {w : World} (hM : MemAt 148 w a b s) (p0 p1 p2 p3 p4 p5 T nd nx po : Int) (hk : w.heap[k]? = some (.cells #[.int .i64 p0, .int .i64 p1, .int .i64 p2, .int .i64 p3, .int .i64 p4, .int .i64 p5, .int .i64 T, .int .u64 nd, .int .i64 nx, .int .i64 po] 170 (0, 0))) (h1 : 1 ≤ T) (h8 : T ≤ 8)(t0 : 0 ≤ nx) (t8 : nx < 8)(hn : nx < T) (hp : 0 ≤ p3) (hp2 : p3 ≤ 4096) (h0 : s.acc (p3 + nx) = 0) (g0 : s.got (p3 + nx) = 0) :
    Calls Try.prog 118 #[.pointer (some ⟨k, 0, none⟩), .pointer (some ⟨a, 0, none⟩)] w fun e w' => e = .returned (.tuple #[.bool (nx + 1 == T), .int .i64 0]) ∧ MemAt 148 w' a b (s.load (p3 + nx)) ∧ w'.heap[k]? = some (.cells #[.int .i64 p0, .int .i64 p1, .int .i64 p2, .int .i64 p3, .int .i64 p4, .int .i64 p5, .int .i64 T, .int .u64 nd, .int .i64 (nx + 1), .int .i64 po] 170 (0, 0)) ∧ Mod [a, b, k] w w' := by
  have ha := hM.lta
  have hb := hM.ltb
  have hkl := lt_of_block hk
  have hka : k ≠ a := blk_ne hk hM.hd (by decide)
  have hkb : k ≠ b := blk_ne hk hM.ws (by decide)
  have x0 : w.cell? ⟨k, 0, none⟩ = some (.int .i64 p0) := cell_of_blk hk rfl
  have x1 : w.cell? ⟨k, 1, none⟩ = some (.int .i64 p1) := cell_of_blk hk rfl
  have x2 : w.cell? ⟨k, 2, none⟩ = some (.int .i64 p2) := cell_of_blk hk rfl
  have x3 : w.cell? ⟨k, 3, none⟩ = some (.int .i64 p3) := cell_of_blk hk rfl
  have x4 : w.cell? ⟨k, 4, none⟩ = some (.int .i64 p4) := cell_of_blk hk rfl
  have x5 : w.cell? ⟨k, 5, none⟩ = some (.int .i64 p5) := cell_of_blk hk rfl
  have x6 : w.cell? ⟨k, 6, none⟩ = some (.int .i64 T) := cell_of_blk hk rfl
  have x7 : w.cell? ⟨k, 7, none⟩ = some (.int .u64 nd) := cell_of_blk hk rfl
  have x8 : w.cell? ⟨k, 8, none⟩ = some (.int .i64 nx) := cell_of_blk hk rfl
  have x9 : w.cell? ⟨k, 9, none⟩ = some (.int .i64 po) := cell_of_blk hk rfl
  have xf8 := free_of_blk (i := 8) hk
  have xf9 := free_of_blk (i := 9) hk
  have hwd : wordAt p3 nx = p3 + nx := if_neg (by omega)
  have Hwd := Lib.hid hwd; clear hwd
  go_enter Try.func118, Try.ntmps118
  go_wp2
  go_quiet (fail)
  go_upto_region 5 with fail
  generalize hwq : w.drewN _ = wq
  have M2 : MemAt 148 wq a b s := hwq ▸ hM.drewN _
  have K2 : wq.heap[k]? = some (.cells #[.int .i64 p0, .int .i64 p1, .int .i64 p2, .int .i64 p3, .int .i64 p4, .int .i64 p5, .int .i64 T, .int .u64 nd, .int .i64 nx, .int .i64 po] 170 (0, 0)) := hwq ▸ hk
  have D2 : Mod [] w wq := hwq ▸ (Mod.refl _ _).drewN _
  clear x0 x1 x2 x3 x4 x5 x6 x7 x8 x9 xf8 xf9 hwq
  have v0 : wq.cell? ⟨k, 0, none⟩ = some (.int .i64 p0) := cell_of_blk K2 rfl
  have v1 : wq.cell? ⟨k, 1, none⟩ = some (.int .i64 p1) := cell_of_blk K2 rfl
  have v2 : wq.cell? ⟨k, 2, none⟩ = some (.int .i64 p2) := cell_of_blk K2 rfl
  have v3 : wq.cell? ⟨k, 3, none⟩ = some (.int .i64 p3) := cell_of_blk K2 rfl
  have v4 : wq.cell? ⟨k, 4, none⟩ = some (.int .i64 p4) := cell_of_blk K2 rfl
  have v5 : wq.cell? ⟨k, 5, none⟩ = some (.int .i64 p5) := cell_of_blk K2 rfl
  have v6 : wq.cell? ⟨k, 6, none⟩ = some (.int .i64 T) := cell_of_blk K2 rfl
  have v7 : wq.cell? ⟨k, 7, none⟩ = some (.int .u64 nd) := cell_of_blk K2 rfl
  have v8 : wq.cell? ⟨k, 8, none⟩ = some (.int .i64 nx) := cell_of_blk K2 rfl
  have v9 : wq.cell? ⟨k, 9, none⟩ = some (.int .i64 po) := cell_of_blk K2 rfl
  have vf8 := free_of_blk (i := 8) K2
  have vf9 := free_of_blk (i := 9) K2
  go_cut [6] (fun x wx => x = .int .i64 (wordAt p3 nx) ∧ MemAt 148 wx a b s ∧ wx.heap[k]? = some (.cells #[.int .i64 p0, .int .i64 p1, .int .i64 p2, .int .i64 p3, .int .i64 p4, .int .i64 p5, .int .i64 T, .int .u64 nd, .int .i64 nx, .int .i64 po] 170 (0, 0)) ∧ Mod [] w wx)
  case first =>
    go_region_with (go_at_call 144; refine (word13 _ _ _ _ _ _ _ t0 t8 _).mono ?_; rintro e w1 ⟨rfl, rfl⟩)
    all_goals
      go_wp2_with fail
      go_meet
      exact ⟨rfl, by repeat (first | exact M2 | refine MemAt.drew ?_ | refine MemAt.alloc ?_ _), blk_alloc_old _ K2, (by repeat (first | with_reducible exact Mod.refl _ _ | with_reducible assumption | with_reducible refine Mod.drew ?_ | with_reducible refine Mod.drewN ?_ _ | with_reducible refine Mod.alloc ?_ _ | with_reducible refine Mod.setCell ?_ _ _ (.inl (by simp))))⟩
  case rest =>
    obtain ⟨rfl, M3, K3, D3⟩ := hcut
    clear v0 v1 v2 v3 v4 v5 v6 v7 v8 v9 vf8 vf9 M2 K2 D2
    rw [Hwd.out]
    have z0 : wc.cell? ⟨k, 0, none⟩ = some (.int .i64 p0) := cell_of_blk K3 rfl
    have z1 : wc.cell? ⟨k, 1, none⟩ = some (.int .i64 p1) := cell_of_blk K3 rfl
    have z2 : wc.cell? ⟨k, 2, none⟩ = some (.int .i64 p2) := cell_of_blk K3 rfl
    have z3 : wc.cell? ⟨k, 3, none⟩ = some (.int .i64 p3) := cell_of_blk K3 rfl
    have z4 : wc.cell? ⟨k, 4, none⟩ = some (.int .i64 p4) := cell_of_blk K3 rfl
    have z5 : wc.cell? ⟨k, 5, none⟩ = some (.int .i64 p5) := cell_of_blk K3 rfl
    have z6 : wc.cell? ⟨k, 6, none⟩ = some (.int .i64 T) := cell_of_blk K3 rfl
    have z7 : wc.cell? ⟨k, 7, none⟩ = some (.int .u64 nd) := cell_of_blk K3 rfl
    have z8 : wc.cell? ⟨k, 8, none⟩ = some (.int .i64 nx) := cell_of_blk K3 rfl
    have z9 : wc.cell? ⟨k, 9, none⟩ = some (.int .i64 po) := cell_of_blk K3 rfl
    have zf8 := free_of_blk (i := 8) K3
    have zf9 := free_of_blk (i := 9) K3
    go_wp2_with fail
    refine (load_r M3 _).mono ?_; rintro e w2 ⟨rfl, M4, d4⟩
    have K4 := d4.at K3 (by have := M3.lta; have := M3.ltb; simp; omega)
    have HD : Hid (Mod [a, b, k] w w2) := (D3.weak _).then d4 (by simp)
    have HM := Lib.hid M4
    clear z0 z1 z2 z3 z4 z5 z6 z7 z8 z9 zf8 zf9 D3 d4 M3 M4 K3
    have u0 : w2.cell? ⟨k, 0, none⟩ = some (.int .i64 p0) := cell_of_blk K4 rfl
    have u1 : w2.cell? ⟨k, 1, none⟩ = some (.int .i64 p1) := cell_of_blk K4 rfl
    have u2 : w2.cell? ⟨k, 2, none⟩ = some (.int .i64 p2) := cell_of_blk K4 rfl
    have u3 : w2.cell? ⟨k, 3, none⟩ = some (.int .i64 p3) := cell_of_blk K4 rfl
    have u4 : w2.cell? ⟨k, 4, none⟩ = some (.int .i64 p4) := cell_of_blk K4 rfl
    have u5 : w2.cell? ⟨k, 5, none⟩ = some (.int .i64 p5) := cell_of_blk K4 rfl
    have u6 : w2.cell? ⟨k, 6, none⟩ = some (.int .i64 T) := cell_of_blk K4 rfl
    have u7 : w2.cell? ⟨k, 7, none⟩ = some (.int .u64 nd) := cell_of_blk K4 rfl
    have u8 : w2.cell? ⟨k, 8, none⟩ = some (.int .i64 nx) := cell_of_blk K4 rfl
    have u9 : w2.cell? ⟨k, 9, none⟩ = some (.int .i64 po) := cell_of_blk K4 rfl
    have uf8 := free_of_blk (i := 8) K4
    have uf9 := free_of_blk (i := 9) K4
    go_wp2_with fail
    generalize hws : w2.setCell _ _ = ws
    have K5 : ws.heap[k]? = some (.cells #[.int .i64 p0, .int .i64 p1, .int .i64 p2, .int .i64 p3, .int .i64 p4, .int .i64 p5, .int .i64 T, .int .u64 nd, .int .i64 (nx + 1), .int .i64 po] 170 (0, 0)) := by rw [← hws]; exact blk_setCell_same _ K4
    have M5 : Hid (MemAt 148 ws a b (s.load (p3 + nx))) := by rw [← hws]; exact HM.out.other _ _ _ (Ne.symm hka) (Ne.symm hkb)
    have D5 : Hid (Mod [a, b, k] w ws) := by rw [← hws]; exact HD.out.setCell _ _ (.inl (by simp))
    clear hws HM HD K4 u0 u1 u2 u3 u4 u5 u6 u7 u8 u9 uf8 uf9
    have q0 : ws.cell? ⟨k, 0, none⟩ = some (.int .i64 p0) := cell_of_blk K5 rfl
    have q1 : ws.cell? ⟨k, 1, none⟩ = some (.int .i64 p1) := cell_of_blk K5 rfl
    have q2 : ws.cell? ⟨k, 2, none⟩ = some (.int .i64 p2) := cell_of_blk K5 rfl
    have q3 : ws.cell? ⟨k, 3, none⟩ = some (.int .i64 p3) := cell_of_blk K5 rfl
    have q4 : ws.cell? ⟨k, 4, none⟩ = some (.int .i64 p4) := cell_of_blk K5 rfl
    have q5 : ws.cell? ⟨k, 5, none⟩ = some (.int .i64 p5) := cell_of_blk K5 rfl
    have q6 : ws.cell? ⟨k, 6, none⟩ = some (.int .i64 T) := cell_of_blk K5 rfl
    have q7 : ws.cell? ⟨k, 7, none⟩ = some (.int .u64 nd) := cell_of_blk K5 rfl
    have q8 : ws.cell? ⟨k, 8, none⟩ = some (.int .i64 (nx + 1)) := cell_of_blk K5 rfl
    have q9 : ws.cell? ⟨k, 9, none⟩ = some (.int .i64 po) := cell_of_blk K5 rfl
    have qf8 := free_of_blk (i := 8) K5
    have qf9 := free_of_blk (i := 9) K5
    go_quiet (fail)
    go_wp2
    skip
    go_ret2
    exact ⟨rfl, by have MM := M5.out; repeat (first | exact MM | refine MemAt.drewN ?_ _ | refine MemAt.drew ?_), K5, by have DD := D5.out; repeat (first | exact DD | refine Mod.drewN ?_ _ | refine Mod.drew ?_)⟩

set_option maxRecDepth 100000 in
set_option maxHeartbeats 2000000 in
theorem scanF2_r {a b k : Nat} {s : MemS} {w : World} (hM : MemAt 148 w a b s) (p0 p1 p2 p3 p4 p5 T nd nx po : Int) (hk : w.heap[k]? = some (.cells #[.int .i64 p0, .int .i64 p1, .int .i64 p2, .int .i64 p3, .int .i64 p4, .int .i64 p5, .int .i64 T, .int .u64 nd, .int .i64 nx, .int .i64 po] 170 (0, 0))) (h1 : 1 ≤ T) (h8 : T ≤ 8)(t0 : 0 ≤ nx) (t8 : nx < 8)(hn : nx < T) (hp : 0 ≤ p3) (hp2 : p3 ≤ 4096) (h0 : s.acc (p3 + nx) = 0) (g0 : (s.got (p3 + nx) == 0) = false) (g1 : nd < s.got (p3 + nx)) :
    Calls Try.prog 118 #[.pointer (some ⟨k, 0, none⟩), .pointer (some ⟨a, 0, none⟩)] w fun e w' => e = .returned (.tuple #[.bool (nx + 1 == T), .int .i64 0]) ∧ MemAt 148 w' a b (s.load (p3 + nx)) ∧ w'.heap[k]? = some (.cells #[.int .i64 p0, .int .i64 p1, .int .i64 p2, .int .i64 p3, .int .i64 p4, .int .i64 p5, .int .i64 T, .int .u64 nd, .int .i64 (nx + 1), .int .i64 po] 170 (0, 0)) ∧ Mod [a, b, k] w w' := by
  have ha := hM.lta
  have hb := hM.ltb
  have hkl := lt_of_block hk
  have hka : k ≠ a := blk_ne hk hM.hd (by decide)
  have hkb : k ≠ b := blk_ne hk hM.ws (by decide)
  have x0 : w.cell? ⟨k, 0, none⟩ = some (.int .i64 p0) := cell_of_blk hk rfl
  have x1 : w.cell? ⟨k, 1, none⟩ = some (.int .i64 p1) := cell_of_blk hk rfl
  have x2 : w.cell? ⟨k, 2, none⟩ = some (.int .i64 p2) := cell_of_blk hk rfl
  have x3 : w.cell? ⟨k, 3, none⟩ = some (.int .i64 p3) := cell_of_blk hk rfl
  have x4 : w.cell? ⟨k, 4, none⟩ = some (.int .i64 p4) := cell_of_blk hk rfl
  have x5 : w.cell? ⟨k, 5, none⟩ = some (.int .i64 p5) := cell_of_blk hk rfl
  have x6 : w.cell? ⟨k, 6, none⟩ = some (.int .i64 T) := cell_of_blk hk rfl
  have x7 : w.cell? ⟨k, 7, none⟩ = some (.int .u64 nd) := cell_of_blk hk rfl
  have x8 : w.cell? ⟨k, 8, none⟩ = some (.int .i64 nx) := cell_of_blk hk rfl
  have x9 : w.cell? ⟨k, 9, none⟩ = some (.int .i64 po) := cell_of_blk hk rfl
  have xf8 := free_of_blk (i := 8) hk
  have xf9 := free_of_blk (i := 9) hk
  have hwd : wordAt p3 nx = p3 + nx := if_neg (by omega)
  have Hwd := Lib.hid hwd; clear hwd
  go_enter Try.func118, Try.ntmps118
  go_wp2
  go_quiet (fail)
  go_upto_region 5 with fail
  generalize hwq : w.drewN _ = wq
  have M2 : MemAt 148 wq a b s := hwq ▸ hM.drewN _
  have K2 : wq.heap[k]? = some (.cells #[.int .i64 p0, .int .i64 p1, .int .i64 p2, .int .i64 p3, .int .i64 p4, .int .i64 p5, .int .i64 T, .int .u64 nd, .int .i64 nx, .int .i64 po] 170 (0, 0)) := hwq ▸ hk
  have D2 : Mod [] w wq := hwq ▸ (Mod.refl _ _).drewN _
  clear x0 x1 x2 x3 x4 x5 x6 x7 x8 x9 xf8 xf9 hwq
  have v0 : wq.cell? ⟨k, 0, none⟩ = some (.int .i64 p0) := cell_of_blk K2 rfl
  have v1 : wq.cell? ⟨k, 1, none⟩ = some (.int .i64 p1) := cell_of_blk K2 rfl
  have v2 : wq.cell? ⟨k, 2, none⟩ = some (.int .i64 p2) := cell_of_blk K2 rfl
  have v3 : wq.cell? ⟨k, 3, none⟩ = some (.int .i64 p3) := cell_of_blk K2 rfl
  have v4 : wq.cell? ⟨k, 4, none⟩ = some (.int .i64 p4) := cell_of_blk K2 rfl
  have v5 : wq.cell? ⟨k, 5, none⟩ = some (.int .i64 p5) := cell_of_blk K2 rfl
  have v6 : wq.cell? ⟨k, 6, none⟩ = some (.int .i64 T) := cell_of_blk K2 rfl
  have v7 : wq.cell? ⟨k, 7, none⟩ = some (.int .u64 nd) := cell_of_blk K2 rfl
  have v8 : wq.cell? ⟨k, 8, none⟩ = some (.int .i64 nx) := cell_of_blk K2 rfl
  have v9 : wq.cell? ⟨k, 9, none⟩ = some (.int .i64 po) := cell_of_blk K2 rfl
  have vf8 := free_of_blk (i := 8) K2
  have vf9 := free_of_blk (i := 9) K2
  go_cut [6] (fun x wx => x = .int .i64 (wordAt p3 nx) ∧ MemAt 148 wx a b s ∧ wx.heap[k]? = some (.cells #[.int .i64 p0, .int .i64 p1, .int .i64 p2, .int .i64 p3, .int .i64 p4, .int .i64 p5, .int .i64 T, .int .u64 nd, .int .i64 nx, .int .i64 po] 170 (0, 0)) ∧ Mod [] w wx)
  case first =>
    go_region_with (go_at_call 144; refine (word13 _ _ _ _ _ _ _ t0 t8 _).mono ?_; rintro e w1 ⟨rfl, rfl⟩)
    all_goals
      go_wp2_with fail
      go_meet
      exact ⟨rfl, by repeat (first | exact M2 | refine MemAt.drew ?_ | refine MemAt.alloc ?_ _), blk_alloc_old _ K2, (by repeat (first | with_reducible exact Mod.refl _ _ | with_reducible assumption | with_reducible refine Mod.drew ?_ | with_reducible refine Mod.drewN ?_ _ | with_reducible refine Mod.alloc ?_ _ | with_reducible refine Mod.setCell ?_ _ _ (.inl (by simp))))⟩
  case rest =>
    obtain ⟨rfl, M3, K3, D3⟩ := hcut
    clear v0 v1 v2 v3 v4 v5 v6 v7 v8 v9 vf8 vf9 M2 K2 D2
    rw [Hwd.out]
    have z0 : wc.cell? ⟨k, 0, none⟩ = some (.int .i64 p0) := cell_of_blk K3 rfl
    have z1 : wc.cell? ⟨k, 1, none⟩ = some (.int .i64 p1) := cell_of_blk K3 rfl
    have z2 : wc.cell? ⟨k, 2, none⟩ = some (.int .i64 p2) := cell_of_blk K3 rfl
    have z3 : wc.cell? ⟨k, 3, none⟩ = some (.int .i64 p3) := cell_of_blk K3 rfl
    have z4 : wc.cell? ⟨k, 4, none⟩ = some (.int .i64 p4) := cell_of_blk K3 rfl
    have z5 : wc.cell? ⟨k, 5, none⟩ = some (.int .i64 p5) := cell_of_blk K3 rfl
    have z6 : wc.cell? ⟨k, 6, none⟩ = some (.int .i64 T) := cell_of_blk K3 rfl
    have z7 : wc.cell? ⟨k, 7, none⟩ = some (.int .u64 nd) := cell_of_blk K3 rfl
    have z8 : wc.cell? ⟨k, 8, none⟩ = some (.int .i64 nx) := cell_of_blk K3 rfl
    have z9 : wc.cell? ⟨k, 9, none⟩ = some (.int .i64 po) := cell_of_blk K3 rfl
    have zf8 := free_of_blk (i := 8) K3
    have zf9 := free_of_blk (i := 9) K3
    go_wp2_with fail
    refine (load_r M3 _).mono ?_; rintro e w2 ⟨rfl, M4, d4⟩
    have K4 := d4.at K3 (by have := M3.lta; have := M3.ltb; simp; omega)
    have HD : Hid (Mod [a, b, k] w w2) := (D3.weak _).then d4 (by simp)
    have HM := Lib.hid M4
    clear z0 z1 z2 z3 z4 z5 z6 z7 z8 z9 zf8 zf9 D3 d4 M3 M4 K3
    have u0 : w2.cell? ⟨k, 0, none⟩ = some (.int .i64 p0) := cell_of_blk K4 rfl
    have u1 : w2.cell? ⟨k, 1, none⟩ = some (.int .i64 p1) := cell_of_blk K4 rfl
    have u2 : w2.cell? ⟨k, 2, none⟩ = some (.int .i64 p2) := cell_of_blk K4 rfl
    have u3 : w2.cell? ⟨k, 3, none⟩ = some (.int .i64 p3) := cell_of_blk K4 rfl
    have u4 : w2.cell? ⟨k, 4, none⟩ = some (.int .i64 p4) := cell_of_blk K4 rfl
    have u5 : w2.cell? ⟨k, 5, none⟩ = some (.int .i64 p5) := cell_of_blk K4 rfl
    have u6 : w2.cell? ⟨k, 6, none⟩ = some (.int .i64 T) := cell_of_blk K4 rfl
    have u7 : w2.cell? ⟨k, 7, none⟩ = some (.int .u64 nd) := cell_of_blk K4 rfl
    have u8 : w2.cell? ⟨k, 8, none⟩ = some (.int .i64 nx) := cell_of_blk K4 rfl
    have u9 : w2.cell? ⟨k, 9, none⟩ = some (.int .i64 po) := cell_of_blk K4 rfl
    have uf8 := free_of_blk (i := 8) K4
    have uf9 := free_of_blk (i := 9) K4
    go_wp2_with fail
    generalize hws : w2.setCell _ _ = ws
    have K5 : ws.heap[k]? = some (.cells #[.int .i64 p0, .int .i64 p1, .int .i64 p2, .int .i64 p3, .int .i64 p4, .int .i64 p5, .int .i64 T, .int .u64 nd, .int .i64 (nx + 1), .int .i64 po] 170 (0, 0)) := by rw [← hws]; exact blk_setCell_same _ K4
    have M5 : Hid (MemAt 148 ws a b (s.load (p3 + nx))) := by rw [← hws]; exact HM.out.other _ _ _ (Ne.symm hka) (Ne.symm hkb)
    have D5 : Hid (Mod [a, b, k] w ws) := by rw [← hws]; exact HD.out.setCell _ _ (.inl (by simp))
    clear hws HM HD K4 u0 u1 u2 u3 u4 u5 u6 u7 u8 u9 uf8 uf9
    have q0 : ws.cell? ⟨k, 0, none⟩ = some (.int .i64 p0) := cell_of_blk K5 rfl
    have q1 : ws.cell? ⟨k, 1, none⟩ = some (.int .i64 p1) := cell_of_blk K5 rfl
    have q2 : ws.cell? ⟨k, 2, none⟩ = some (.int .i64 p2) := cell_of_blk K5 rfl
    have q3 : ws.cell? ⟨k, 3, none⟩ = some (.int .i64 p3) := cell_of_blk K5 rfl
    have q4 : ws.cell? ⟨k, 4, none⟩ = some (.int .i64 p4) := cell_of_blk K5 rfl
    have q5 : ws.cell? ⟨k, 5, none⟩ = some (.int .i64 p5) := cell_of_blk K5 rfl
    have q6 : ws.cell? ⟨k, 6, none⟩ = some (.int .i64 T) := cell_of_blk K5 rfl
    have q7 : ws.cell? ⟨k, 7, none⟩ = some (.int .u64 nd) := cell_of_blk K5 rfl
    have q8 : ws.cell? ⟨k, 8, none⟩ = some (.int .i64 (nx + 1)) := cell_of_blk K5 rfl
    have q9 : ws.cell? ⟨k, 9, none⟩ = some (.int .i64 po) := cell_of_blk K5 rfl
    have qf8 := free_of_blk (i := 8) K5
    have qf9 := free_of_blk (i := 9) K5
    go_quiet (fail)
    go_wp2
    skip
    go_ret2
    exact ⟨rfl, by have MM := M5.out; repeat (first | exact MM | refine MemAt.drewN ?_ _ | refine MemAt.drew ?_), K5, by have DD := D5.out; repeat (first | exact DD | refine Mod.drewN ?_ _ | refine Mod.drew ?_)⟩

set_option maxRecDepth 100000 in
set_option maxHeartbeats 2000000 in
theorem scanC_r {a b k : Nat} {s : MemS} {w : World} (hM : MemAt 148 w a b s) (p0 p1 p2 p3 p4 p5 T nd nx po : Int) (hk : w.heap[k]? = some (.cells #[.int .i64 p0, .int .i64 p1, .int .i64 p2, .int .i64 p3, .int .i64 p4, .int .i64 p5, .int .i64 T, .int .u64 nd, .int .i64 nx, .int .i64 po] 170 (0, 0))) (h1 : 1 ≤ T) (h8 : T ≤ 8)(t0 : 0 ≤ nx) (t8 : nx < 8)(hn : nx < T) (h : p3 < 0 ∨ 4096 < p3) :
    Calls Try.prog 118 #[.pointer (some ⟨k, 0, none⟩), .pointer (some ⟨a, 0, none⟩)] w fun e w' => e = .returned (.tuple #[.bool false, .int .i64 30]) ∧ MemAt 148 w' a b (s) ∧ w'.heap[k]? = some (.cells #[.int .i64 p0, .int .i64 p1, .int .i64 p2, .int .i64 p3, .int .i64 p4, .int .i64 p5, .int .i64 T, .int .u64 nd, .int .i64 nx, .int .i64 po] 170 (0, 0)) ∧ Mod [a, b, k] w w' := by
  have ha := hM.lta
  have hb := hM.ltb
  have hkl := lt_of_block hk
  have hka : k ≠ a := blk_ne hk hM.hd (by decide)
  have hkb : k ≠ b := blk_ne hk hM.ws (by decide)
  have x0 : w.cell? ⟨k, 0, none⟩ = some (.int .i64 p0) := cell_of_blk hk rfl
  have x1 : w.cell? ⟨k, 1, none⟩ = some (.int .i64 p1) := cell_of_blk hk rfl
  have x2 : w.cell? ⟨k, 2, none⟩ = some (.int .i64 p2) := cell_of_blk hk rfl
  have x3 : w.cell? ⟨k, 3, none⟩ = some (.int .i64 p3) := cell_of_blk hk rfl
  have x4 : w.cell? ⟨k, 4, none⟩ = some (.int .i64 p4) := cell_of_blk hk rfl
  have x5 : w.cell? ⟨k, 5, none⟩ = some (.int .i64 p5) := cell_of_blk hk rfl
  have x6 : w.cell? ⟨k, 6, none⟩ = some (.int .i64 T) := cell_of_blk hk rfl
  have x7 : w.cell? ⟨k, 7, none⟩ = some (.int .u64 nd) := cell_of_blk hk rfl
  have x8 : w.cell? ⟨k, 8, none⟩ = some (.int .i64 nx) := cell_of_blk hk rfl
  have x9 : w.cell? ⟨k, 9, none⟩ = some (.int .i64 po) := cell_of_blk hk rfl
  have xf8 := free_of_blk (i := 8) hk
  have xf9 := free_of_blk (i := 9) hk
  have hwd : wordAt p3 nx = -1 := if_pos h
  have Hwd := Lib.hid hwd; clear hwd h
  have Hst : Hid (s.load (-1) = s) := Lib.hid (load_bad s (by rw [acc_neg s (by omega)]; omega))
  have ha1 : s.acc (-1) = 30 := acc_neg s (by omega)
  have Ha1 := Lib.hid ha1; clear ha1
  go_enter Try.func118, Try.ntmps118
  go_wp2
  go_quiet (fail)
  go_upto_region 5 with fail
  generalize hwq : w.drewN _ = wq
  have M2 : MemAt 148 wq a b s := hwq ▸ hM.drewN _
  have K2 : wq.heap[k]? = some (.cells #[.int .i64 p0, .int .i64 p1, .int .i64 p2, .int .i64 p3, .int .i64 p4, .int .i64 p5, .int .i64 T, .int .u64 nd, .int .i64 nx, .int .i64 po] 170 (0, 0)) := hwq ▸ hk
  have D2 : Mod [] w wq := hwq ▸ (Mod.refl _ _).drewN _
  clear x0 x1 x2 x3 x4 x5 x6 x7 x8 x9 xf8 xf9 hwq
  have v0 : wq.cell? ⟨k, 0, none⟩ = some (.int .i64 p0) := cell_of_blk K2 rfl
  have v1 : wq.cell? ⟨k, 1, none⟩ = some (.int .i64 p1) := cell_of_blk K2 rfl
  have v2 : wq.cell? ⟨k, 2, none⟩ = some (.int .i64 p2) := cell_of_blk K2 rfl
  have v3 : wq.cell? ⟨k, 3, none⟩ = some (.int .i64 p3) := cell_of_blk K2 rfl
  have v4 : wq.cell? ⟨k, 4, none⟩ = some (.int .i64 p4) := cell_of_blk K2 rfl
  have v5 : wq.cell? ⟨k, 5, none⟩ = some (.int .i64 p5) := cell_of_blk K2 rfl
  have v6 : wq.cell? ⟨k, 6, none⟩ = some (.int .i64 T) := cell_of_blk K2 rfl
  have v7 : wq.cell? ⟨k, 7, none⟩ = some (.int .u64 nd) := cell_of_blk K2 rfl
  have v8 : wq.cell? ⟨k, 8, none⟩ = some (.int .i64 nx) := cell_of_blk K2 rfl
  have v9 : wq.cell? ⟨k, 9, none⟩ = some (.int .i64 po) := cell_of_blk K2 rfl
  have vf8 := free_of_blk (i := 8) K2
  have vf9 := free_of_blk (i := 9) K2
  go_cut [6] (fun x wx => x = .int .i64 (wordAt p3 nx) ∧ MemAt 148 wx a b s ∧ wx.heap[k]? = some (.cells #[.int .i64 p0, .int .i64 p1, .int .i64 p2, .int .i64 p3, .int .i64 p4, .int .i64 p5, .int .i64 T, .int .u64 nd, .int .i64 nx, .int .i64 po] 170 (0, 0)) ∧ Mod [] w wx)
  case first =>
    go_region_with (go_at_call 144; refine (word13 _ _ _ _ _ _ _ t0 t8 _).mono ?_; rintro e w1 ⟨rfl, rfl⟩)
    all_goals
      go_wp2_with fail
      go_meet
      exact ⟨rfl, by repeat (first | exact M2 | refine MemAt.drew ?_ | refine MemAt.alloc ?_ _), blk_alloc_old _ K2, (by repeat (first | with_reducible exact Mod.refl _ _ | with_reducible assumption | with_reducible refine Mod.drew ?_ | with_reducible refine Mod.drewN ?_ _ | with_reducible refine Mod.alloc ?_ _ | with_reducible refine Mod.setCell ?_ _ _ (.inl (by simp))))⟩
  case rest =>
    obtain ⟨rfl, M3, K3, D3⟩ := hcut
    clear v0 v1 v2 v3 v4 v5 v6 v7 v8 v9 vf8 vf9 M2 K2 D2
    rw [Hwd.out]
    have z0 : wc.cell? ⟨k, 0, none⟩ = some (.int .i64 p0) := cell_of_blk K3 rfl
    have z1 : wc.cell? ⟨k, 1, none⟩ = some (.int .i64 p1) := cell_of_blk K3 rfl
    have z2 : wc.cell? ⟨k, 2, none⟩ = some (.int .i64 p2) := cell_of_blk K3 rfl
    have z3 : wc.cell? ⟨k, 3, none⟩ = some (.int .i64 p3) := cell_of_blk K3 rfl
    have z4 : wc.cell? ⟨k, 4, none⟩ = some (.int .i64 p4) := cell_of_blk K3 rfl
    have z5 : wc.cell? ⟨k, 5, none⟩ = some (.int .i64 p5) := cell_of_blk K3 rfl
    have z6 : wc.cell? ⟨k, 6, none⟩ = some (.int .i64 T) := cell_of_blk K3 rfl
    have z7 : wc.cell? ⟨k, 7, none⟩ = some (.int .u64 nd) := cell_of_blk K3 rfl
    have z8 : wc.cell? ⟨k, 8, none⟩ = some (.int .i64 nx) := cell_of_blk K3 rfl
    have z9 : wc.cell? ⟨k, 9, none⟩ = some (.int .i64 po) := cell_of_blk K3 rfl
    have zf8 := free_of_blk (i := 8) K3
    have zf9 := free_of_blk (i := 9) K3
    go_wp2_with fail
    refine (load_r M3 _).mono ?_; rintro e w2 ⟨rfl, M4, d4⟩
    have K4 := d4.at K3 (by have := M3.lta; have := M3.ltb; simp; omega)
    have HD : Hid (Mod [a, b, k] w w2) := (D3.weak _).then d4 (by simp)
    have HM := Lib.hid M4
    clear z0 z1 z2 z3 z4 z5 z6 z7 z8 z9 zf8 zf9 D3 d4 M3 M4 K3
    rw [Ha1.out]
    go_wp2
    go_ret2
    exact ⟨rfl, by have := HM.out; rwa [Hst.out] at this, K4, HD.out⟩

end Go.Proofs.Ytobmgnoceacoaaa

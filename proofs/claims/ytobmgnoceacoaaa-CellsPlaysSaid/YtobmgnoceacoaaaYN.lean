/- CellsPlays: a step of a script: readings and writings. -/
import Derived.Test.YtobmgnoceacoaaaYL
import Derived.Deep.QuietTactic
import Derived.BigQuiet
import Derived.Deep.DeepCutAuto
import Derived.Deep.CutBlock
import Derived.Deep.RegionHeld3
import Derived.StillTailTactics
import Derived.IntWalk
namespace Go.Proofs.Ytobmgnoceacoaaa
open Go.RowKit
attribute [local go_sem] run_store_float

variable {w0 w w1 w' : World} {lab lab' : Nat → Nat} {x a b c d k g n : Nat} {r0 r1 d0 d1 u0 u1 e0 e1 v : Value} {s t s' : MemS} {R0 R1 : Option RdS} {D0 D1 : Option (RdS × List Int)} {U0 U1 E0 E1 : Option WrS} {r r' : RdS} {q q' : WrS} {u : Value} {L L' : List Int} {kr : Nat}

set_option maxRecDepth 100000 in
set_option maxHeartbeats 40000000 in
theorem step11_5 (h : W11 w0 w lab x a b c d r0 r1 d0 d1 u0 u1 e0 e1 s s R0 R1 D0 D1 U0 U1 E0 E1) (c0 : CplR R0 D0) (c1 : CplR R1 D1) (c2 : CplW U0 E0) (c3 : CplW U1 E1) (ii ce cl vv xx yy : Int) (la : Option Addr) (ln lc : Nat) :
    Calls Try.prog 88 #[.pointer (some ⟨x, 0, none⟩), .agg #[.int .i64 5, .int .i64 ii, .int .i64 ce, .int .i64 cl, .int .u64 vv, .int .u64 xx, .int .u64 yy, .slice la ln lc]] w (Kept11 w0 x a b c d) := by
  have Q1 : ((w.alloc (.cells #[.int .i64 5, .int .i64 ii, .int .i64 ce, .int .i64 cl, .int .u64 vv, .int .u64 xx, .int .u64 yy, .slice la ln lc] 138)).alloc (.cells #[.int .i64 0, .int .i64 0, .int .i64 0, .int .i64 0, .int .i64 ce, .int .i64 0] 35)).heap[w.heap.size]? = some (.cells #[.int .i64 5, .int .i64 ii, .int .i64 ce, .int .i64 cl, .int .u64 vv, .int .u64 xx, .int .u64 yy, .slice la ln lc] 138 (0, 0)) := blk_alloc_old _ (heap_alloc_new _ _)
  have P1 : ((w.alloc (.cells #[.int .i64 5, .int .i64 ii, .int .i64 ce, .int .i64 cl, .int .u64 vv, .int .u64 xx, .int .u64 yy, .slice la ln lc] 138)).alloc (.cells #[.int .i64 0, .int .i64 0, .int .i64 0, .int .i64 0, .int .i64 ce, .int .i64 0] 35)).heap[w.heap.size + 1]? = some (.cells #[.int .i64 0, .int .i64 0, .int .i64 0, .int .i64 0, .int .i64 ce, .int .i64 0] 35 (0, 0)) := blk2 w _ _
  have W1 := h.mod0 (((Mod.refl [] w).alloc (.cells #[.int .i64 5, .int .i64 ii, .int .i64 ce, .int .i64 cl, .int .u64 vv, .int .u64 xx, .int .u64 yy, .slice la ln lc] 138)).alloc (.cells #[.int .i64 0, .int .i64 0, .int .i64 0, .int .i64 0, .int .i64 ce, .int .i64 0] 35))
  have hgx := lt_of_block h.hx
  obtain ⟨bb, hbb⟩ : ∃ bb, bb = decide (ii = 0 ∨ ii = 1) := ⟨_, rfl⟩
  have HB := Lib.hid hbb
  clear h hbb
  go_enter Try.func88, Try.ntmps88
  go_upto_region 2 with fail
  generalize (w.alloc (.cells #[.int .i64 5, .int .i64 ii, .int .i64 ce, .int .i64 cl, .int .u64 vv, .int .u64 xx, .int .u64 yy, .slice la ln lc] 138)).alloc (.cells #[.int .i64 0, .int .i64 0, .int .i64 0, .int .i64 0, .int .i64 ce, .int .i64 0] 35) = w1 at *
  have hox : w.heap.size ≠ x := by omega
  have hpx : w.heap.size + 1 ≠ x := by omega
  clear hgx
  generalize w.heap.size + 1 = pb at *
  generalize w.heap.size = ob at *
  have q0 : w1.cell? ⟨ob, 0, none⟩ = some (.int .i64 5) := cell_of_blk Q1 rfl
  have q1 : w1.cell? ⟨ob, 1, none⟩ = some (.int .i64 ii) := cell_of_blk Q1 rfl
  go_cut [6] (fun A wx => A = .bool bb ∧ wx = w1)
  case first =>
    by_cases h0 : ii = 0
    · subst h0
      go_wp2_with fail
      go_meet
      exact ⟨by rw [HB.out]; rfl, rfl⟩
    · by_cases h1 : ii = 1
      · subst h1
        go_wp2_with fail
        go_meet
        exact ⟨by rw [HB.out]; rfl, rfl⟩
      · have g0 : (ii == 0) = false := by simp [h0]
        have g1 : (ii == 1) = false := by simp [h1]
        go_wp2_with fail
        go_meet
        exact ⟨by rw [HB.out, decide_eq_false (by omega)], rfl⟩
  case rest =>
    obtain ⟨rfl, hwc⟩ := hcut
    have hwc' := hwc.symm
    subst hwc'
    clear hwc
    have W9 := W1
    cases bb
    · clear W1 P1 Q1 q1 HB
      have W8 := Lib.hid W9
      clear W9
      go_wp2
      go_ret
      exact ⟨rfl, lab, _, _, _, _, _, _, _, _, _, _, _, _, _, _, _, _, _, W8.out, c0, c1, c2, c3⟩
    · have hii : ii = 0 ∨ ii = 1 := by simpa using HB.out.symm
      clear HB W9
      rcases hii with rfl | rfl
      · clear q0 q1
        have q0 : w1.cell? ⟨ob, 0, none⟩ = some (.int .i64 5) := cell_of_blk Q1 rfl
        have q1 : w1.cell? ⟨ob, 1, none⟩ = some (.int .i64 0) := cell_of_blk Q1 rfl
        have q2 : w1.cell? ⟨ob, 2, none⟩ = some (.int .i64 ce) := cell_of_blk Q1 rfl
        have q3 : w1.cell? ⟨ob, 3, none⟩ = some (.int .i64 cl) := cell_of_blk Q1 rfl
        have q4 : w1.cell? ⟨ob, 4, none⟩ = some (.int .u64 vv) := cell_of_blk Q1 rfl
        have q5 : w1.cell? ⟨ob, 5, none⟩ = some (.int .u64 xx) := cell_of_blk Q1 rfl
        have q6 : w1.cell? ⟨ob, 6, none⟩ = some (.int .u64 yy) := cell_of_blk Q1 rfl
        have q7 : w1.cell? ⟨ob, 7, none⟩ = some (.slice la ln lc) := cell_of_blk Q1 rfl
        have p0 : w1.cell? ⟨pb, 0, none⟩ = some (.int .i64 0) := cell_of_blk P1 rfl
        have p1 : w1.cell? ⟨pb, 1, none⟩ = some (.int .i64 0) := cell_of_blk P1 rfl
        have p2 : w1.cell? ⟨pb, 2, none⟩ = some (.int .i64 0) := cell_of_blk P1 rfl
        have p3 : w1.cell? ⟨pb, 3, none⟩ = some (.int .i64 0) := cell_of_blk P1 rfl
        have p4 : w1.cell? ⟨pb, 4, none⟩ = some (.int .i64 ce) := cell_of_blk P1 rfl
        have p5 : w1.cell? ⟨pb, 5, none⟩ = some (.int .i64 0) := cell_of_blk P1 rfl
        go_wp2_with fail
        refine (begins_50 W1 0 ce cl vv xx yy la ln lc).mono ?_; rintro e w2 ⟨rfl, lab2, k, kr, W2⟩
        have W8 := Lib.hid W2
        clear W1 P1 Q1 q0 q1 q2 q3 q4 q5 q6 q7 p0 p1 p2 p3 p4 p5 W2
        go_wp2
        go_ret
        exact ⟨rfl, lab2, _, _, _, _, _, _, _, _, _, _, _, _, _, _, _, _, _, W8.out, ⟨rfl, rfl, rfl, rfl⟩, c1, c2, c3⟩
      · clear q0 q1
        have q0 : w1.cell? ⟨ob, 0, none⟩ = some (.int .i64 5) := cell_of_blk Q1 rfl
        have q1 : w1.cell? ⟨ob, 1, none⟩ = some (.int .i64 1) := cell_of_blk Q1 rfl
        have q2 : w1.cell? ⟨ob, 2, none⟩ = some (.int .i64 ce) := cell_of_blk Q1 rfl
        have q3 : w1.cell? ⟨ob, 3, none⟩ = some (.int .i64 cl) := cell_of_blk Q1 rfl
        have q4 : w1.cell? ⟨ob, 4, none⟩ = some (.int .u64 vv) := cell_of_blk Q1 rfl
        have q5 : w1.cell? ⟨ob, 5, none⟩ = some (.int .u64 xx) := cell_of_blk Q1 rfl
        have q6 : w1.cell? ⟨ob, 6, none⟩ = some (.int .u64 yy) := cell_of_blk Q1 rfl
        have q7 : w1.cell? ⟨ob, 7, none⟩ = some (.slice la ln lc) := cell_of_blk Q1 rfl
        have p0 : w1.cell? ⟨pb, 0, none⟩ = some (.int .i64 0) := cell_of_blk P1 rfl
        have p1 : w1.cell? ⟨pb, 1, none⟩ = some (.int .i64 0) := cell_of_blk P1 rfl
        have p2 : w1.cell? ⟨pb, 2, none⟩ = some (.int .i64 0) := cell_of_blk P1 rfl
        have p3 : w1.cell? ⟨pb, 3, none⟩ = some (.int .i64 0) := cell_of_blk P1 rfl
        have p4 : w1.cell? ⟨pb, 4, none⟩ = some (.int .i64 ce) := cell_of_blk P1 rfl
        have p5 : w1.cell? ⟨pb, 5, none⟩ = some (.int .i64 0) := cell_of_blk P1 rfl
        go_wp2_with fail
        refine (begins_51 W1 1 ce cl vv xx yy la ln lc).mono ?_; rintro e w2 ⟨rfl, lab2, k, kr, W2⟩
        have W8 := Lib.hid W2
        clear W1 P1 Q1 q0 q1 q2 q3 q4 q5 q6 q7 p0 p1 p2 p3 p4 p5 W2
        go_wp2
        go_ret
        exact ⟨rfl, lab2, _, _, _, _, _, _, _, _, _, _, _, _, _, _, _, _, _, W8.out, c0, ⟨rfl, rfl, rfl, rfl⟩, c2, c3⟩

set_option maxRecDepth 100000 in
set_option maxHeartbeats 40000000 in
theorem step11_7 (h : W11 w0 w lab x a b c d r0 r1 d0 d1 u0 u1 e0 e1 s s R0 R1 D0 D1 U0 U1 E0 E1) (c0 : CplR R0 D0) (c1 : CplR R1 D1) (c2 : CplW U0 E0) (c3 : CplW U1 E1) (ii ce cl vv xx yy : Int) (la : Option Addr) (ln lc : Nat) :
    Calls Try.prog 88 #[.pointer (some ⟨x, 0, none⟩), .agg #[.int .i64 7, .int .i64 ii, .int .i64 ce, .int .i64 cl, .int .u64 vv, .int .u64 xx, .int .u64 yy, .slice la ln lc]] w (Kept11 w0 x a b c d) := by
  have Q1 : ((w.alloc (.cells #[.int .i64 7, .int .i64 ii, .int .i64 ce, .int .i64 cl, .int .u64 vv, .int .u64 xx, .int .u64 yy, .slice la ln lc] 138)).alloc (.cells #[.int .i64 0, .int .i64 0, .int .i64 0, .int .i64 0, .int .i64 ce, .int .i64 0] 35)).heap[w.heap.size]? = some (.cells #[.int .i64 7, .int .i64 ii, .int .i64 ce, .int .i64 cl, .int .u64 vv, .int .u64 xx, .int .u64 yy, .slice la ln lc] 138 (0, 0)) := blk_alloc_old _ (heap_alloc_new _ _)
  have P1 : ((w.alloc (.cells #[.int .i64 7, .int .i64 ii, .int .i64 ce, .int .i64 cl, .int .u64 vv, .int .u64 xx, .int .u64 yy, .slice la ln lc] 138)).alloc (.cells #[.int .i64 0, .int .i64 0, .int .i64 0, .int .i64 0, .int .i64 ce, .int .i64 0] 35)).heap[w.heap.size + 1]? = some (.cells #[.int .i64 0, .int .i64 0, .int .i64 0, .int .i64 0, .int .i64 ce, .int .i64 0] 35 (0, 0)) := blk2 w _ _
  have W1 := h.mod0 (((Mod.refl [] w).alloc (.cells #[.int .i64 7, .int .i64 ii, .int .i64 ce, .int .i64 cl, .int .u64 vv, .int .u64 xx, .int .u64 yy, .slice la ln lc] 138)).alloc (.cells #[.int .i64 0, .int .i64 0, .int .i64 0, .int .i64 0, .int .i64 ce, .int .i64 0] 35))
  have hgx := lt_of_block h.hx
  obtain ⟨bb, hbb⟩ : ∃ bb, bb = decide (ii = 0 ∨ ii = 1) := ⟨_, rfl⟩
  have HB := Lib.hid hbb
  clear h hbb
  go_enter Try.func88, Try.ntmps88
  go_upto_region 2 with fail
  generalize (w.alloc (.cells #[.int .i64 7, .int .i64 ii, .int .i64 ce, .int .i64 cl, .int .u64 vv, .int .u64 xx, .int .u64 yy, .slice la ln lc] 138)).alloc (.cells #[.int .i64 0, .int .i64 0, .int .i64 0, .int .i64 0, .int .i64 ce, .int .i64 0] 35) = w1 at *
  have hox : w.heap.size ≠ x := by omega
  have hpx : w.heap.size + 1 ≠ x := by omega
  clear hgx
  generalize w.heap.size + 1 = pb at *
  generalize w.heap.size = ob at *
  have q0 : w1.cell? ⟨ob, 0, none⟩ = some (.int .i64 7) := cell_of_blk Q1 rfl
  have q1 : w1.cell? ⟨ob, 1, none⟩ = some (.int .i64 ii) := cell_of_blk Q1 rfl
  go_cut [6] (fun A wx => A = .bool bb ∧ wx = w1)
  case first =>
    by_cases h0 : ii = 0
    · subst h0
      go_wp2_with fail
      go_meet
      exact ⟨by rw [HB.out]; rfl, rfl⟩
    · by_cases h1 : ii = 1
      · subst h1
        go_wp2_with fail
        go_meet
        exact ⟨by rw [HB.out]; rfl, rfl⟩
      · have g0 : (ii == 0) = false := by simp [h0]
        have g1 : (ii == 1) = false := by simp [h1]
        go_wp2_with fail
        go_meet
        exact ⟨by rw [HB.out, decide_eq_false (by omega)], rfl⟩
  case rest =>
    obtain ⟨rfl, hwc⟩ := hcut
    have hwc' := hwc.symm
    subst hwc'
    clear hwc
    have W9 := W1
    cases bb
    · clear W1 P1 Q1 q1 HB
      have W8 := Lib.hid W9
      clear W9
      go_wp2
      go_ret
      exact ⟨rfl, lab, _, _, _, _, _, _, _, _, _, _, _, _, _, _, _, _, _, W8.out, c0, c1, c2, c3⟩
    · have hii : ii = 0 ∨ ii = 1 := by simpa using HB.out.symm
      clear HB W9
      rcases hii with rfl | rfl
      · clear q0 q1
        have q0 : w1.cell? ⟨ob, 0, none⟩ = some (.int .i64 7) := cell_of_blk Q1 rfl
        have q1 : w1.cell? ⟨ob, 1, none⟩ = some (.int .i64 0) := cell_of_blk Q1 rfl
        have q2 : w1.cell? ⟨ob, 2, none⟩ = some (.int .i64 ce) := cell_of_blk Q1 rfl
        have q3 : w1.cell? ⟨ob, 3, none⟩ = some (.int .i64 cl) := cell_of_blk Q1 rfl
        have q4 : w1.cell? ⟨ob, 4, none⟩ = some (.int .u64 vv) := cell_of_blk Q1 rfl
        have q5 : w1.cell? ⟨ob, 5, none⟩ = some (.int .u64 xx) := cell_of_blk Q1 rfl
        have q6 : w1.cell? ⟨ob, 6, none⟩ = some (.int .u64 yy) := cell_of_blk Q1 rfl
        have q7 : w1.cell? ⟨ob, 7, none⟩ = some (.slice la ln lc) := cell_of_blk Q1 rfl
        have p0 : w1.cell? ⟨pb, 0, none⟩ = some (.int .i64 0) := cell_of_blk P1 rfl
        have p1 : w1.cell? ⟨pb, 1, none⟩ = some (.int .i64 0) := cell_of_blk P1 rfl
        have p2 : w1.cell? ⟨pb, 2, none⟩ = some (.int .i64 0) := cell_of_blk P1 rfl
        have p3 : w1.cell? ⟨pb, 3, none⟩ = some (.int .i64 0) := cell_of_blk P1 rfl
        have p4 : w1.cell? ⟨pb, 4, none⟩ = some (.int .i64 ce) := cell_of_blk P1 rfl
        have p5 : w1.cell? ⟨pb, 5, none⟩ = some (.int .i64 0) := cell_of_blk P1 rfl
        go_wp2_with fail
        refine (begins_70 W1 0 ce cl vv xx yy la ln lc).mono ?_; rintro e w2 ⟨rfl, lab2, k, kr, W2⟩
        have W8 := Lib.hid W2
        clear W1 P1 Q1 q0 q1 q2 q3 q4 q5 q6 q7 p0 p1 p2 p3 p4 p5 W2
        go_wp2
        go_ret
        exact ⟨rfl, lab2, _, _, _, _, _, _, _, _, _, _, _, _, _, _, _, _, _, W8.out, c0, c1, ⟨rfl, by show (0 : Int) ≤ 0; decide, by show (0 : Int) ≤ 3; decide⟩, c3⟩
      · clear q0 q1
        have q0 : w1.cell? ⟨ob, 0, none⟩ = some (.int .i64 7) := cell_of_blk Q1 rfl
        have q1 : w1.cell? ⟨ob, 1, none⟩ = some (.int .i64 1) := cell_of_blk Q1 rfl
        have q2 : w1.cell? ⟨ob, 2, none⟩ = some (.int .i64 ce) := cell_of_blk Q1 rfl
        have q3 : w1.cell? ⟨ob, 3, none⟩ = some (.int .i64 cl) := cell_of_blk Q1 rfl
        have q4 : w1.cell? ⟨ob, 4, none⟩ = some (.int .u64 vv) := cell_of_blk Q1 rfl
        have q5 : w1.cell? ⟨ob, 5, none⟩ = some (.int .u64 xx) := cell_of_blk Q1 rfl
        have q6 : w1.cell? ⟨ob, 6, none⟩ = some (.int .u64 yy) := cell_of_blk Q1 rfl
        have q7 : w1.cell? ⟨ob, 7, none⟩ = some (.slice la ln lc) := cell_of_blk Q1 rfl
        have p0 : w1.cell? ⟨pb, 0, none⟩ = some (.int .i64 0) := cell_of_blk P1 rfl
        have p1 : w1.cell? ⟨pb, 1, none⟩ = some (.int .i64 0) := cell_of_blk P1 rfl
        have p2 : w1.cell? ⟨pb, 2, none⟩ = some (.int .i64 0) := cell_of_blk P1 rfl
        have p3 : w1.cell? ⟨pb, 3, none⟩ = some (.int .i64 0) := cell_of_blk P1 rfl
        have p4 : w1.cell? ⟨pb, 4, none⟩ = some (.int .i64 ce) := cell_of_blk P1 rfl
        have p5 : w1.cell? ⟨pb, 5, none⟩ = some (.int .i64 0) := cell_of_blk P1 rfl
        go_wp2_with fail
        refine (begins_71 W1 1 ce cl vv xx yy la ln lc).mono ?_; rintro e w2 ⟨rfl, lab2, k, kr, W2⟩
        have W8 := Lib.hid W2
        clear W1 P1 Q1 q0 q1 q2 q3 q4 q5 q6 q7 p0 p1 p2 p3 p4 p5 W2
        go_wp2
        go_ret
        exact ⟨rfl, lab2, _, _, _, _, _, _, _, _, _, _, _, _, _, _, _, _, _, W8.out, c0, c1, c2, ⟨rfl, by show (0 : Int) ≤ 0; decide, by show (0 : Int) ≤ 3; decide⟩⟩

set_option maxRecDepth 100000 in
set_option maxHeartbeats 40000000 in
theorem step11_6 (h : W11 w0 w lab x a b c d r0 r1 d0 d1 u0 u1 e0 e1 s s R0 R1 D0 D1 U0 U1 E0 E1) (c0 : CplR R0 D0) (c1 : CplR R1 D1) (c2 : CplW U0 E0) (c3 : CplW U1 E1) (ii ce cl vv xx yy : Int) (la : Option Addr) (ln lc : Nat) :
    Calls Try.prog 88 #[.pointer (some ⟨x, 0, none⟩), .agg #[.int .i64 6, .int .i64 ii, .int .i64 ce, .int .i64 cl, .int .u64 vv, .int .u64 xx, .int .u64 yy, .slice la ln lc]] w (Kept11 w0 x a b c d) := by
  have Q1 : ((w.alloc (.cells #[.int .i64 6, .int .i64 ii, .int .i64 ce, .int .i64 cl, .int .u64 vv, .int .u64 xx, .int .u64 yy, .slice la ln lc] 138)).alloc (.cells #[.int .i64 0, .int .i64 0, .int .i64 0, .int .i64 0, .int .i64 ce, .int .i64 0] 35)).heap[w.heap.size]? = some (.cells #[.int .i64 6, .int .i64 ii, .int .i64 ce, .int .i64 cl, .int .u64 vv, .int .u64 xx, .int .u64 yy, .slice la ln lc] 138 (0, 0)) := blk_alloc_old _ (heap_alloc_new _ _)
  have P1 : ((w.alloc (.cells #[.int .i64 6, .int .i64 ii, .int .i64 ce, .int .i64 cl, .int .u64 vv, .int .u64 xx, .int .u64 yy, .slice la ln lc] 138)).alloc (.cells #[.int .i64 0, .int .i64 0, .int .i64 0, .int .i64 0, .int .i64 ce, .int .i64 0] 35)).heap[w.heap.size + 1]? = some (.cells #[.int .i64 0, .int .i64 0, .int .i64 0, .int .i64 0, .int .i64 ce, .int .i64 0] 35 (0, 0)) := blk2 w _ _
  have W1 := h.mod0 (((Mod.refl [] w).alloc (.cells #[.int .i64 6, .int .i64 ii, .int .i64 ce, .int .i64 cl, .int .u64 vv, .int .u64 xx, .int .u64 yy, .slice la ln lc] 138)).alloc (.cells #[.int .i64 0, .int .i64 0, .int .i64 0, .int .i64 0, .int .i64 ce, .int .i64 0] 35))
  have hgx := lt_of_block h.hx
  obtain ⟨bb, hbb⟩ : ∃ bb, bb = decide (ii = 0 ∨ ii = 1) := ⟨_, rfl⟩
  have HB := Lib.hid hbb
  clear h hbb
  go_enter Try.func88, Try.ntmps88
  go_upto_region 2 with fail
  generalize (w.alloc (.cells #[.int .i64 6, .int .i64 ii, .int .i64 ce, .int .i64 cl, .int .u64 vv, .int .u64 xx, .int .u64 yy, .slice la ln lc] 138)).alloc (.cells #[.int .i64 0, .int .i64 0, .int .i64 0, .int .i64 0, .int .i64 ce, .int .i64 0] 35) = w1 at *
  have hox : w.heap.size ≠ x := by omega
  have hpx : w.heap.size + 1 ≠ x := by omega
  clear hgx
  generalize w.heap.size + 1 = pb at *
  generalize w.heap.size = ob at *
  have q0 : w1.cell? ⟨ob, 0, none⟩ = some (.int .i64 6) := cell_of_blk Q1 rfl
  have q1 : w1.cell? ⟨ob, 1, none⟩ = some (.int .i64 ii) := cell_of_blk Q1 rfl
  go_cut [6] (fun A wx => A = .bool bb ∧ wx = w1)
  case first =>
    by_cases h0 : ii = 0
    · subst h0
      go_wp2_with fail
      go_meet
      exact ⟨by rw [HB.out]; rfl, rfl⟩
    · by_cases h1 : ii = 1
      · subst h1
        go_wp2_with fail
        go_meet
        exact ⟨by rw [HB.out]; rfl, rfl⟩
      · have g0 : (ii == 0) = false := by simp [h0]
        have g1 : (ii == 1) = false := by simp [h1]
        go_wp2_with fail
        go_meet
        exact ⟨by rw [HB.out, decide_eq_false (by omega)], rfl⟩
  case rest =>
    obtain ⟨rfl, hwc⟩ := hcut
    have hwc' := hwc.symm
    subst hwc'
    clear hwc
    have W9 := W1
    cases bb
    · clear W1 P1 Q1 q1 HB
      have W8 := Lib.hid W9
      clear W9
      go_wp2
      go_ret
      exact ⟨rfl, lab, _, _, _, _, _, _, _, _, _, _, _, _, _, _, _, _, _, W8.out, c0, c1, c2, c3⟩
    · have hii : ii = 0 ∨ ii = 1 := by simpa using HB.out.symm
      clear HB W9
      rcases hii with rfl | rfl
      · match R0, D0, c0, W1 with
        | none, none, c0, W1 =>
          have hv : r0 = .pointer none := W1.c_r0
          subst hv
          go_wp2_with fail
          refine (reads_none0 W1.hx).mono ?_; rintro e w2 ⟨rfl, hw2⟩
          have hw2' := hw2.symm
          subst hw2'
          clear hw2
          have W8 := Lib.hid W1
          clear W1 P1 Q1 q0 q1
          go_wp2
          go_ret
          exact ⟨rfl, lab, _, _, _, _, _, _, _, _, _, _, _, _, _, _, _, _, _, W8.out, c0, c1, c2, c3⟩
        | some r, some (r2, L), hc, W1 =>
          obtain ⟨rfl, hI⟩ := hc
          go_wp2_with fail
          refine (reads_some0 W1 hI).mono ?_; rintro e w2 ⟨rfl, lab2, k, kr, s', r', L', W2, hI2⟩
          have W8 := Lib.hid W2
          clear W1 P1 Q1 q0 q1 W2
          go_wp2
          go_ret
          exact ⟨rfl, lab2, _, _, _, _, _, _, _, _, _, _, _, _, _, _, _, _, _, W8.out, ⟨rfl, hI2⟩, c1, c2, c3⟩
      · match R1, D1, c1, W1 with
        | none, none, c1, W1 =>
          have hv : r1 = .pointer none := W1.c_r1
          subst hv
          go_wp2_with fail
          refine (reads_none1 W1.hx).mono ?_; rintro e w2 ⟨rfl, hw2⟩
          have hw2' := hw2.symm
          subst hw2'
          clear hw2
          have W8 := Lib.hid W1
          clear W1 P1 Q1 q0 q1
          go_wp2
          go_ret
          exact ⟨rfl, lab, _, _, _, _, _, _, _, _, _, _, _, _, _, _, _, _, _, W8.out, c0, c1, c2, c3⟩
        | some r, some (r2, L), hc, W1 =>
          obtain ⟨rfl, hI⟩ := hc
          go_wp2_with fail
          refine (reads_some1 W1 hI).mono ?_; rintro e w2 ⟨rfl, lab2, k, kr, s', r', L', W2, hI2⟩
          have W8 := Lib.hid W2
          clear W1 P1 Q1 q0 q1 W2
          go_wp2
          go_ret
          exact ⟨rfl, lab2, _, _, _, _, _, _, _, _, _, _, _, _, _, _, _, _, _, W8.out, c0, ⟨rfl, hI2⟩, c2, c3⟩

set_option maxRecDepth 100000 in
set_option maxHeartbeats 40000000 in
theorem step11_8 (h : W11 w0 w lab x a b c d r0 r1 d0 d1 u0 u1 e0 e1 s s R0 R1 D0 D1 U0 U1 E0 E1) (c0 : CplR R0 D0) (c1 : CplR R1 D1) (c2 : CplW U0 E0) (c3 : CplW U1 E1) (ii ce cl vv xx yy : Int) (la : Option Addr) (ln lc : Nat) :
    Calls Try.prog 88 #[.pointer (some ⟨x, 0, none⟩), .agg #[.int .i64 8, .int .i64 ii, .int .i64 ce, .int .i64 cl, .int .u64 vv, .int .u64 xx, .int .u64 yy, .slice la ln lc]] w (Kept11 w0 x a b c d) := by
  have Q1 : ((w.alloc (.cells #[.int .i64 8, .int .i64 ii, .int .i64 ce, .int .i64 cl, .int .u64 vv, .int .u64 xx, .int .u64 yy, .slice la ln lc] 138)).alloc (.cells #[.int .i64 0, .int .i64 0, .int .i64 0, .int .i64 0, .int .i64 ce, .int .i64 0] 35)).heap[w.heap.size]? = some (.cells #[.int .i64 8, .int .i64 ii, .int .i64 ce, .int .i64 cl, .int .u64 vv, .int .u64 xx, .int .u64 yy, .slice la ln lc] 138 (0, 0)) := blk_alloc_old _ (heap_alloc_new _ _)
  have P1 : ((w.alloc (.cells #[.int .i64 8, .int .i64 ii, .int .i64 ce, .int .i64 cl, .int .u64 vv, .int .u64 xx, .int .u64 yy, .slice la ln lc] 138)).alloc (.cells #[.int .i64 0, .int .i64 0, .int .i64 0, .int .i64 0, .int .i64 ce, .int .i64 0] 35)).heap[w.heap.size + 1]? = some (.cells #[.int .i64 0, .int .i64 0, .int .i64 0, .int .i64 0, .int .i64 ce, .int .i64 0] 35 (0, 0)) := blk2 w _ _
  have W1 := h.mod0 (((Mod.refl [] w).alloc (.cells #[.int .i64 8, .int .i64 ii, .int .i64 ce, .int .i64 cl, .int .u64 vv, .int .u64 xx, .int .u64 yy, .slice la ln lc] 138)).alloc (.cells #[.int .i64 0, .int .i64 0, .int .i64 0, .int .i64 0, .int .i64 ce, .int .i64 0] 35))
  have hgx := lt_of_block h.hx
  obtain ⟨bb, hbb⟩ : ∃ bb, bb = decide (ii = 0 ∨ ii = 1) := ⟨_, rfl⟩
  have HB := Lib.hid hbb
  clear h hbb
  go_enter Try.func88, Try.ntmps88
  go_upto_region 2 with fail
  generalize (w.alloc (.cells #[.int .i64 8, .int .i64 ii, .int .i64 ce, .int .i64 cl, .int .u64 vv, .int .u64 xx, .int .u64 yy, .slice la ln lc] 138)).alloc (.cells #[.int .i64 0, .int .i64 0, .int .i64 0, .int .i64 0, .int .i64 ce, .int .i64 0] 35) = w1 at *
  have hox : w.heap.size ≠ x := by omega
  have hpx : w.heap.size + 1 ≠ x := by omega
  clear hgx
  generalize w.heap.size + 1 = pb at *
  generalize w.heap.size = ob at *
  have q0 : w1.cell? ⟨ob, 0, none⟩ = some (.int .i64 8) := cell_of_blk Q1 rfl
  have q1 : w1.cell? ⟨ob, 1, none⟩ = some (.int .i64 ii) := cell_of_blk Q1 rfl
  go_cut [6] (fun A wx => A = .bool bb ∧ wx = w1)
  case first =>
    by_cases h0 : ii = 0
    · subst h0
      go_wp2_with fail
      go_meet
      exact ⟨by rw [HB.out]; rfl, rfl⟩
    · by_cases h1 : ii = 1
      · subst h1
        go_wp2_with fail
        go_meet
        exact ⟨by rw [HB.out]; rfl, rfl⟩
      · have g0 : (ii == 0) = false := by simp [h0]
        have g1 : (ii == 1) = false := by simp [h1]
        go_wp2_with fail
        go_meet
        exact ⟨by rw [HB.out, decide_eq_false (by omega)], rfl⟩
  case rest =>
    obtain ⟨rfl, hwc⟩ := hcut
    have hwc' := hwc.symm
    subst hwc'
    clear hwc
    have W9 := W1
    cases bb
    · clear W1 P1 Q1 q1 HB
      have W8 := Lib.hid W9
      clear W9
      go_wp2
      go_ret
      exact ⟨rfl, lab, _, _, _, _, _, _, _, _, _, _, _, _, _, _, _, _, _, W8.out, c0, c1, c2, c3⟩
    · have hii : ii = 0 ∨ ii = 1 := by simpa using HB.out.symm
      clear HB W9
      rcases hii with rfl | rfl
      · match U0, E0, c2, W1 with
        | none, none, c2, W1 =>
          have hv : u0 = .pointer none := W1.c_u0
          subst hv
          go_wp2_with fail
          refine (writes_none0 W1.hx).mono ?_; rintro e w2 ⟨rfl, hw2⟩
          have hw2' := hw2.symm
          subst hw2'
          clear hw2
          have W8 := Lib.hid W1
          clear W1 P1 Q1 q0 q1
          go_wp2
          go_ret
          exact ⟨rfl, lab, _, _, _, _, _, _, _, _, _, _, _, _, _, _, _, _, _, W8.out, c0, c1, c2, c3⟩
        | some r, some q2, hc, W1 =>
          obtain ⟨rfl, hI⟩ := hc
          go_wp2_with fail
          refine (writes_some0 W1 hI).mono ?_; rintro e w2 ⟨rfl, k, kr, s', q', W2, hI2⟩
          have W8 := Lib.hid W2
          clear W1 P1 Q1 q0 q1 W2
          go_wp2
          go_ret
          exact ⟨rfl, lab, _, _, _, _, _, _, _, _, _, _, _, _, _, _, _, _, _, W8.out, c0, c1, ⟨rfl, hI2⟩, c3⟩
      · match U1, E1, c3, W1 with
        | none, none, c3, W1 =>
          have hv : u1 = .pointer none := W1.c_u1
          subst hv
          go_wp2_with fail
          refine (writes_none1 W1.hx).mono ?_; rintro e w2 ⟨rfl, hw2⟩
          have hw2' := hw2.symm
          subst hw2'
          clear hw2
          have W8 := Lib.hid W1
          clear W1 P1 Q1 q0 q1
          go_wp2
          go_ret
          exact ⟨rfl, lab, _, _, _, _, _, _, _, _, _, _, _, _, _, _, _, _, _, W8.out, c0, c1, c2, c3⟩
        | some r, some q2, hc, W1 =>
          obtain ⟨rfl, hI⟩ := hc
          go_wp2_with fail
          refine (writes_some1 W1 hI).mono ?_; rintro e w2 ⟨rfl, k, kr, s', q', W2, hI2⟩
          have W8 := Lib.hid W2
          clear W1 P1 Q1 q0 q1 W2
          go_wp2
          go_ret
          exact ⟨rfl, lab, _, _, _, _, _, _, _, _, _, _, _, _, _, _, _, _, _, W8.out, c0, c1, c2, ⟨rfl, hI2⟩⟩

set_option maxRecDepth 100000 in
set_option maxHeartbeats 40000000 in
theorem step11_0 (h : W11 w0 w lab x a b c d r0 r1 d0 d1 u0 u1 e0 e1 s s R0 R1 D0 D1 U0 U1 E0 E1) (c0 : CplR R0 D0) (c1 : CplR R1 D1) (c2 : CplW U0 E0) (c3 : CplW U1 E1) (y : Int) (ii ce cl vv xx yy : Int) (la : Option Addr) (ln lc : Nat) (n1 : (y == 1) = false) (n2 : (y == 2) = false) (n3 : (y == 3) = false) (n4 : (y == 4) = false) (n5 : (y == 5) = false) (n6 : (y == 6) = false) (n7 : (y == 7) = false) (n8 : (y == 8) = false) (n9 : (y == 9) = false) (n10 : (y == 10) = false) :
    Calls Try.prog 88 #[.pointer (some ⟨x, 0, none⟩), .agg #[.int .i64 y, .int .i64 ii, .int .i64 ce, .int .i64 cl, .int .u64 vv, .int .u64 xx, .int .u64 yy, .slice la ln lc]] w (Kept11 w0 x a b c d) := by
  have Q1 : ((w.alloc (.cells #[.int .i64 y, .int .i64 ii, .int .i64 ce, .int .i64 cl, .int .u64 vv, .int .u64 xx, .int .u64 yy, .slice la ln lc] 138)).alloc (.cells #[.int .i64 0, .int .i64 0, .int .i64 0, .int .i64 0, .int .i64 ce, .int .i64 0] 35)).heap[w.heap.size]? = some (.cells #[.int .i64 y, .int .i64 ii, .int .i64 ce, .int .i64 cl, .int .u64 vv, .int .u64 xx, .int .u64 yy, .slice la ln lc] 138 (0, 0)) := blk_alloc_old _ (heap_alloc_new _ _)
  have P1 : ((w.alloc (.cells #[.int .i64 y, .int .i64 ii, .int .i64 ce, .int .i64 cl, .int .u64 vv, .int .u64 xx, .int .u64 yy, .slice la ln lc] 138)).alloc (.cells #[.int .i64 0, .int .i64 0, .int .i64 0, .int .i64 0, .int .i64 ce, .int .i64 0] 35)).heap[w.heap.size + 1]? = some (.cells #[.int .i64 0, .int .i64 0, .int .i64 0, .int .i64 0, .int .i64 ce, .int .i64 0] 35 (0, 0)) := blk2 w _ _
  have W1 := h.mod0 (((Mod.refl [] w).alloc (.cells #[.int .i64 y, .int .i64 ii, .int .i64 ce, .int .i64 cl, .int .u64 vv, .int .u64 xx, .int .u64 yy, .slice la ln lc] 138)).alloc (.cells #[.int .i64 0, .int .i64 0, .int .i64 0, .int .i64 0, .int .i64 ce, .int .i64 0] 35))
  have hgx := lt_of_block h.hx
  obtain ⟨bb, hbb⟩ : ∃ bb, bb = decide (ii = 0 ∨ ii = 1) := ⟨_, rfl⟩
  have HB := Lib.hid hbb
  clear h hbb
  go_enter Try.func88, Try.ntmps88
  go_upto_region 2 with fail
  generalize (w.alloc (.cells #[.int .i64 y, .int .i64 ii, .int .i64 ce, .int .i64 cl, .int .u64 vv, .int .u64 xx, .int .u64 yy, .slice la ln lc] 138)).alloc (.cells #[.int .i64 0, .int .i64 0, .int .i64 0, .int .i64 0, .int .i64 ce, .int .i64 0] 35) = w1 at *
  have hox : w.heap.size ≠ x := by omega
  have hpx : w.heap.size + 1 ≠ x := by omega
  clear hgx
  generalize w.heap.size + 1 = pb at *
  generalize w.heap.size = ob at *
  have q0 : w1.cell? ⟨ob, 0, none⟩ = some (.int .i64 y) := cell_of_blk Q1 rfl
  have q1 : w1.cell? ⟨ob, 1, none⟩ = some (.int .i64 ii) := cell_of_blk Q1 rfl
  go_cut [6] (fun A wx => A = .bool bb ∧ wx = w1)
  case first =>
    by_cases h0 : ii = 0
    · subst h0
      go_wp2_with fail
      go_meet
      exact ⟨by rw [HB.out]; rfl, rfl⟩
    · by_cases h1 : ii = 1
      · subst h1
        go_wp2_with fail
        go_meet
        exact ⟨by rw [HB.out]; rfl, rfl⟩
      · have g0 : (ii == 0) = false := by simp [h0]
        have g1 : (ii == 1) = false := by simp [h1]
        go_wp2_with fail
        go_meet
        exact ⟨by rw [HB.out, decide_eq_false (by omega)], rfl⟩
  case rest =>
    obtain ⟨rfl, hwc⟩ := hcut
    have hwc' := hwc.symm
    subst hwc'
    clear hwc
    have W8 := Lib.hid W1
    clear W1 P1 Q1 q1 HB
    go_wp2
    go_ret
    exact ⟨rfl, lab, _, _, _, _, _, _, _, _, _, _, _, _, _, _, _, _, _, W8.out, c0, c1, c2, c3⟩

end Go.Proofs.Ytobmgnoceacoaaa

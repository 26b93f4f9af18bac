/- CellsPlays: a step of a script: openings, looks, pokes. -/
import Derived.Test.YtobmgnoceacoaaaYK
import Derived.Test.YtobmgnoceacoaaaYJ
import Derived.Test.YtobmgnoceacoaaaYC
import Derived.Deep.QuietTactic
import Derived.BigQuiet
import Derived.Deep.DeepCutAuto
import Derived.Deep.CutBlock
import Derived.Deep.RegionHeld3
import Derived.StillTailTactics
import Derived.IntWalk
namespace Go.Proofs.Ytobmgnoceacoaaa
open Go.RowKit
attribute [local go_sem] run_store_float

variable {w0 w w1 w' : World} {lab lab' : Nat → Nat} {x a b c d k g n : Nat} {r0 r1 d0 d1 u0 u1 e0 e1 v : Value} {s t s' : MemS} {R0 R1 : Option RdS} {D0 D1 : Option (RdS × List Int)} {U0 U1 E0 E1 : Option WrS} {r r' : RdS} {q q' : WrS} {u : Value} {L L' : List Int} {kr : Nat}
theorem CplR.inv (h : CplR R0 D0) : ∀ r, R0 = some r → r.Inv := by
  rintro r rfl
  match D0, h with
  | some (r', L), h => exact h.2.inv
theorem CplW.inv (h : CplW U0 E0) : ∀ q, U0 = some q → q.Inv := by
  rintro q rfl
  match E0, h with
  | some q', h => exact h.2

set_option maxRecDepth 100000 in
set_option maxHeartbeats 40000000 in
theorem step11_1 (h : W11 w0 w lab x a b c d r0 r1 d0 d1 u0 u1 e0 e1 s s R0 R1 D0 D1 U0 U1 E0 E1) (c0 : CplR R0 D0) (c1 : CplR R1 D1) (c2 : CplW U0 E0) (c3 : CplW U1 E1) (ii ce cl vv xx yy : Int) (la : Option Addr) (ln lc : Nat) :
    Calls Try.prog 88 #[.pointer (some ⟨x, 0, none⟩), .agg #[.int .i64 1, .int .i64 ii, .int .i64 ce, .int .i64 cl, .int .u64 vv, .int .u64 xx, .int .u64 yy, .slice la ln lc]] w (Kept11 w0 x a b c d) := by
  have Q1 : ((w.alloc (.cells #[.int .i64 1, .int .i64 ii, .int .i64 ce, .int .i64 cl, .int .u64 vv, .int .u64 xx, .int .u64 yy, .slice la ln lc] 138)).alloc (.cells #[.int .i64 0, .int .i64 0, .int .i64 0, .int .i64 0, .int .i64 ce, .int .i64 0] 35)).heap[w.heap.size]? = some (.cells #[.int .i64 1, .int .i64 ii, .int .i64 ce, .int .i64 cl, .int .u64 vv, .int .u64 xx, .int .u64 yy, .slice la ln lc] 138 (0, 0)) := blk_alloc_old _ (heap_alloc_new _ _)
  have P1 : ((w.alloc (.cells #[.int .i64 1, .int .i64 ii, .int .i64 ce, .int .i64 cl, .int .u64 vv, .int .u64 xx, .int .u64 yy, .slice la ln lc] 138)).alloc (.cells #[.int .i64 0, .int .i64 0, .int .i64 0, .int .i64 0, .int .i64 ce, .int .i64 0] 35)).heap[w.heap.size + 1]? = some (.cells #[.int .i64 0, .int .i64 0, .int .i64 0, .int .i64 0, .int .i64 ce, .int .i64 0] 35 (0, 0)) := blk2 w _ _
  have W1 := h.mod0 (((Mod.refl [] w).alloc (.cells #[.int .i64 1, .int .i64 ii, .int .i64 ce, .int .i64 cl, .int .u64 vv, .int .u64 xx, .int .u64 yy, .slice la ln lc] 138)).alloc (.cells #[.int .i64 0, .int .i64 0, .int .i64 0, .int .i64 0, .int .i64 ce, .int .i64 0] 35))
  have hgx := lt_of_block h.hx
  obtain ⟨bb, hbb⟩ : ∃ bb, bb = decide (ii = 0 ∨ ii = 1) := ⟨_, rfl⟩
  have HB := Lib.hid hbb
  clear h hbb
  go_enter Try.func88, Try.ntmps88
  go_upto_region 2 with fail
  generalize (w.alloc (.cells #[.int .i64 1, .int .i64 ii, .int .i64 ce, .int .i64 cl, .int .u64 vv, .int .u64 xx, .int .u64 yy, .slice la ln lc] 138)).alloc (.cells #[.int .i64 0, .int .i64 0, .int .i64 0, .int .i64 0, .int .i64 ce, .int .i64 0] 35) = w1 at *
  have hox : w.heap.size ≠ x := by omega
  have hpx : w.heap.size + 1 ≠ x := by omega
  clear hgx
  generalize w.heap.size + 1 = pb at *
  generalize w.heap.size = ob at *
  have q0 : w1.cell? ⟨ob, 0, none⟩ = some (.int .i64 1) := cell_of_blk Q1 rfl
  have q1 : w1.cell? ⟨ob, 1, none⟩ = some (.int .i64 ii) := cell_of_blk Q1 rfl
  go_cut [6] (fun A wx => A = .bool bb ∧ wx = w1)
  case first =>
    by_cases h0 : ii = 0
    · subst h0
      go_wp2_with fail
      go_meet
      exact ⟨by rw [HB.out]; rfl, rfl⟩
    · by_cases h1 : ii = 1
      · subst h1
        go_wp2_with fail
        go_meet
        exact ⟨by rw [HB.out]; rfl, rfl⟩
      · have g0 : (ii == 0) = false := by simp [h0]
        have g1 : (ii == 1) = false := by simp [h1]
        go_wp2_with fail
        go_meet
        exact ⟨by rw [HB.out, decide_eq_false (by omega)], rfl⟩
  case rest =>
    obtain ⟨rfl, hwc⟩ := hcut
    have hwc' := hwc.symm
    subst hwc'
    clear hwc
    have x0 : w1.cell? ⟨x, 0, none⟩ = some (.pointer (some ⟨a, 0, none⟩)) := cell_of_blk W1.hx rfl
    go_wp2_with fail
    refine (open_c W1.m).mono ?_; rintro e w2 ⟨rfl, M2, d2⟩
    have W2 := W1.memP M2 d2
    clear W1 P1 Q1 q0 q1 x0 M2 d2
    have x1 : w2.cell? ⟨x, 1, none⟩ = some (.pointer (some ⟨c, 0, none⟩)) := cell_of_blk W2.hx rfl
    go_wp2_with fail
    refine (open_r W2.r).mono ?_; rintro e w3 ⟨rfl, M3, d3⟩
    have W3 := Lib.hid (W2.memR M3 d3)
    clear W2 x1 M3 d3
    go_wp2
    go_ret
    exact ⟨rfl, lab, _, _, _, _, _, _, _, _, _, _, _, _, _, _, _, _, _, W3.out, c0, c1, c2, c3⟩

set_option maxRecDepth 100000 in
set_option maxHeartbeats 40000000 in
theorem step11_9 (h : W11 w0 w lab x a b c d r0 r1 d0 d1 u0 u1 e0 e1 s s R0 R1 D0 D1 U0 U1 E0 E1) (c0 : CplR R0 D0) (c1 : CplR R1 D1) (c2 : CplW U0 E0) (c3 : CplW U1 E1) (ii ce cl vv xx yy : Int) (la : Option Addr) (ln lc : Nat) :
    Calls Try.prog 88 #[.pointer (some ⟨x, 0, none⟩), .agg #[.int .i64 9, .int .i64 ii, .int .i64 ce, .int .i64 cl, .int .u64 vv, .int .u64 xx, .int .u64 yy, .slice la ln lc]] w (Kept11 w0 x a b c d) := by
  have Q1 : ((w.alloc (.cells #[.int .i64 9, .int .i64 ii, .int .i64 ce, .int .i64 cl, .int .u64 vv, .int .u64 xx, .int .u64 yy, .slice la ln lc] 138)).alloc (.cells #[.int .i64 0, .int .i64 0, .int .i64 0, .int .i64 0, .int .i64 ce, .int .i64 0] 35)).heap[w.heap.size]? = some (.cells #[.int .i64 9, .int .i64 ii, .int .i64 ce, .int .i64 cl, .int .u64 vv, .int .u64 xx, .int .u64 yy, .slice la ln lc] 138 (0, 0)) := blk_alloc_old _ (heap_alloc_new _ _)
  have P1 : ((w.alloc (.cells #[.int .i64 9, .int .i64 ii, .int .i64 ce, .int .i64 cl, .int .u64 vv, .int .u64 xx, .int .u64 yy, .slice la ln lc] 138)).alloc (.cells #[.int .i64 0, .int .i64 0, .int .i64 0, .int .i64 0, .int .i64 ce, .int .i64 0] 35)).heap[w.heap.size + 1]? = some (.cells #[.int .i64 0, .int .i64 0, .int .i64 0, .int .i64 0, .int .i64 ce, .int .i64 0] 35 (0, 0)) := blk2 w _ _
  have W1 := h.mod0 (((Mod.refl [] w).alloc (.cells #[.int .i64 9, .int .i64 ii, .int .i64 ce, .int .i64 cl, .int .u64 vv, .int .u64 xx, .int .u64 yy, .slice la ln lc] 138)).alloc (.cells #[.int .i64 0, .int .i64 0, .int .i64 0, .int .i64 0, .int .i64 ce, .int .i64 0] 35))
  have hgx := lt_of_block h.hx
  obtain ⟨bb, hbb⟩ : ∃ bb, bb = decide (ii = 0 ∨ ii = 1) := ⟨_, rfl⟩
  have HB := Lib.hid hbb
  clear h hbb
  go_enter Try.func88, Try.ntmps88
  go_upto_region 2 with fail
  generalize (w.alloc (.cells #[.int .i64 9, .int .i64 ii, .int .i64 ce, .int .i64 cl, .int .u64 vv, .int .u64 xx, .int .u64 yy, .slice la ln lc] 138)).alloc (.cells #[.int .i64 0, .int .i64 0, .int .i64 0, .int .i64 0, .int .i64 ce, .int .i64 0] 35) = w1 at *
  have hox : w.heap.size ≠ x := by omega
  have hpx : w.heap.size + 1 ≠ x := by omega
  clear hgx
  generalize w.heap.size + 1 = pb at *
  generalize w.heap.size = ob at *
  have q0 : w1.cell? ⟨ob, 0, none⟩ = some (.int .i64 9) := cell_of_blk Q1 rfl
  have q1 : w1.cell? ⟨ob, 1, none⟩ = some (.int .i64 ii) := cell_of_blk Q1 rfl
  go_cut [6] (fun A wx => A = .bool bb ∧ wx = w1)
  case first =>
    by_cases h0 : ii = 0
    · subst h0
      go_wp2_with fail
      go_meet
      exact ⟨by rw [HB.out]; rfl, rfl⟩
    · by_cases h1 : ii = 1
      · subst h1
        go_wp2_with fail
        go_meet
        exact ⟨by rw [HB.out]; rfl, rfl⟩
      · have g0 : (ii == 0) = false := by simp [h0]
        have g1 : (ii == 1) = false := by simp [h1]
        go_wp2_with fail
        go_meet
        exact ⟨by rw [HB.out, decide_eq_false (by omega)], rfl⟩
  case rest =>
    obtain ⟨rfl, hwc⟩ := hcut
    have hwc' := hwc.symm
    subst hwc'
    clear hwc
    have x0 : w1.cell? ⟨x, 0, none⟩ = some (.pointer (some ⟨a, 0, none⟩)) := cell_of_blk W1.hx rfl
    have q3 : w1.cell? ⟨ob, 3, none⟩ = some (.int .i64 cl) := cell_of_blk Q1 rfl
    have q4 : w1.cell? ⟨ob, 4, none⟩ = some (.int .u64 vv) := cell_of_blk Q1 rfl
    go_upto_region 30 with fail
    go_cut [163] (fun A wx => W11 w0 wx lab x a b c d r0 r1 d0 d1 u0 u1 e0 e1 (s.poke cl vv) s R0 R1 D0 D1 U0 U1 E0 E1 ∧ wx.heap[ob]? = some (.cells #[.int .i64 9, .int .i64 ii, .int .i64 ce, .int .i64 cl, .int .u64 vv, .int .u64 xx, .int .u64 yy, .slice la ln lc] 138 (0, 0)))
    case first =>
      go_region_held3 (fun wx => wx.cell? ⟨x, 0, none⟩ = some (.pointer (some ⟨a, 0, none⟩)) ∧ wx.cell? ⟨ob, 3, none⟩ = some (.int .i64 cl) ∧ wx.cell? ⟨ob, 4, none⟩ = some (.int .u64 vv)) (first | exact ⟨x0, q3, q4⟩ | exact ⟨cell_of_blk W2.hx rfl, cell_of_blk Q2 rfl, cell_of_blk Q2 rfl⟩)
        (first | (go_at_call 36; refine (poke_c W1.m.drew cl vv).mono ?_; rintro e w2 ⟨rfl, M2, d2⟩; have W2 := (W1.mod0 (Mod.refl _ _).drew).memP M2 d2; have Q2 := d2.at (k := ob) (o := .cells #[.int .i64 9, .int .i64 ii, .int .i64 ce, .int .i64 cl, .int .u64 vv, .int .u64 xx, .int .u64 yy, .slice la ln lc] 138 (0, 0)) Q1 (by simp [blk_ne Q1 W1.m.hd (by decide), blk_ne Q1 W1.m.ws (by decide)])))
      all_goals
        go_wp2_with fail
        go_meet
        exact ⟨W2, Q2⟩
    case rest =>
      obtain ⟨W3, Q3⟩ := hcut
      clear W1 P1 Q1 q0 q1 q3 q4 x0
      obtain ⟨w3, rfl⟩ : ∃ w3, w3 = wc := ⟨_, rfl⟩
      have x1 : w3.cell? ⟨x, 1, none⟩ = some (.pointer (some ⟨c, 0, none⟩)) := cell_of_blk W3.hx rfl
      have q3 : w3.cell? ⟨ob, 3, none⟩ = some (.int .i64 cl) := cell_of_blk Q3 rfl
      have q4 : w3.cell? ⟨ob, 4, none⟩ = some (.int .u64 vv) := cell_of_blk Q3 rfl
      go_upto_region 31 with fail
      go_region_held3 (fun wx => wx.cell? ⟨x, 1, none⟩ = some (.pointer (some ⟨c, 0, none⟩)) ∧ wx.cell? ⟨ob, 3, none⟩ = some (.int .i64 cl) ∧ wx.cell? ⟨ob, 4, none⟩ = some (.int .u64 vv)) (first | exact ⟨x1, q3, q4⟩ | exact ⟨cell_of_blk W4.hx rfl, cell_of_blk Q4 rfl, cell_of_blk Q4 rfl⟩)
          (first | (go_at_call 101; refine (poke_r W3.r.drew cl vv).mono ?_; rintro e w4 ⟨rfl, M4, d4⟩; have W4 := (W3.mod0 (Mod.refl _ _).drew).memR M4 d4; have Q4 := d4.at (k := ob) (o := .cells #[.int .i64 9, .int .i64 ii, .int .i64 ce, .int .i64 cl, .int .u64 vv, .int .u64 xx, .int .u64 yy, .slice la ln lc] 138 (0, 0)) Q3 (by simp [blk_ne Q3 W3.r.hd (by decide), blk_ne Q3 W3.r.ws (by decide)])))
      all_goals
        have W5 := Lib.hid W4
        clear W4 Q4 M4 d4 W3 Q3 q3 q4 x1
        go_wp2
        go_ret
        exact ⟨rfl, lab, _, _, _, _, _, _, _, _, _, _, _, _, _, _, _, _, _, W5.out, c0, c1, c2, c3⟩

set_option maxRecDepth 100000 in
set_option maxHeartbeats 40000000 in
theorem step11_10 (h : W11 w0 w lab x a b c d r0 r1 d0 d1 u0 u1 e0 e1 s s R0 R1 D0 D1 U0 U1 E0 E1) (c0 : CplR R0 D0) (c1 : CplR R1 D1) (c2 : CplW U0 E0) (c3 : CplW U1 E1) (ii ce cl vv xx yy : Int) (la : Option Addr) (ln lc : Nat) :
    Calls Try.prog 88 #[.pointer (some ⟨x, 0, none⟩), .agg #[.int .i64 10, .int .i64 ii, .int .i64 ce, .int .i64 cl, .int .u64 vv, .int .u64 xx, .int .u64 yy, .slice la ln lc]] w (Kept11 w0 x a b c d) := by
  have Q1 : ((w.alloc (.cells #[.int .i64 10, .int .i64 ii, .int .i64 ce, .int .i64 cl, .int .u64 vv, .int .u64 xx, .int .u64 yy, .slice la ln lc] 138)).alloc (.cells #[.int .i64 0, .int .i64 0, .int .i64 0, .int .i64 0, .int .i64 ce, .int .i64 0] 35)).heap[w.heap.size]? = some (.cells #[.int .i64 10, .int .i64 ii, .int .i64 ce, .int .i64 cl, .int .u64 vv, .int .u64 xx, .int .u64 yy, .slice la ln lc] 138 (0, 0)) := blk_alloc_old _ (heap_alloc_new _ _)
  have P1 : ((w.alloc (.cells #[.int .i64 10, .int .i64 ii, .int .i64 ce, .int .i64 cl, .int .u64 vv, .int .u64 xx, .int .u64 yy, .slice la ln lc] 138)).alloc (.cells #[.int .i64 0, .int .i64 0, .int .i64 0, .int .i64 0, .int .i64 ce, .int .i64 0] 35)).heap[w.heap.size + 1]? = some (.cells #[.int .i64 0, .int .i64 0, .int .i64 0, .int .i64 0, .int .i64 ce, .int .i64 0] 35 (0, 0)) := blk2 w _ _
  have W1 := h.mod0 (((Mod.refl [] w).alloc (.cells #[.int .i64 10, .int .i64 ii, .int .i64 ce, .int .i64 cl, .int .u64 vv, .int .u64 xx, .int .u64 yy, .slice la ln lc] 138)).alloc (.cells #[.int .i64 0, .int .i64 0, .int .i64 0, .int .i64 0, .int .i64 ce, .int .i64 0] 35))
  have hgx := lt_of_block h.hx
  obtain ⟨bb, hbb⟩ : ∃ bb, bb = decide (ii = 0 ∨ ii = 1) := ⟨_, rfl⟩
  have HB := Lib.hid hbb
  clear h hbb
  go_enter Try.func88, Try.ntmps88
  go_upto_region 2 with fail
  generalize (w.alloc (.cells #[.int .i64 10, .int .i64 ii, .int .i64 ce, .int .i64 cl, .int .u64 vv, .int .u64 xx, .int .u64 yy, .slice la ln lc] 138)).alloc (.cells #[.int .i64 0, .int .i64 0, .int .i64 0, .int .i64 0, .int .i64 ce, .int .i64 0] 35) = w1 at *
  have hox : w.heap.size ≠ x := by omega
  have hpx : w.heap.size + 1 ≠ x := by omega
  clear hgx
  generalize w.heap.size + 1 = pb at *
  generalize w.heap.size = ob at *
  have q0 : w1.cell? ⟨ob, 0, none⟩ = some (.int .i64 10) := cell_of_blk Q1 rfl
  have q1 : w1.cell? ⟨ob, 1, none⟩ = some (.int .i64 ii) := cell_of_blk Q1 rfl
  go_cut [6] (fun A wx => A = .bool bb ∧ wx = w1)
  case first =>
    by_cases h0 : ii = 0
    · subst h0
      go_wp2_with fail
      go_meet
      exact ⟨by rw [HB.out]; rfl, rfl⟩
    · by_cases h1 : ii = 1
      · subst h1
        go_wp2_with fail
        go_meet
        exact ⟨by rw [HB.out]; rfl, rfl⟩
      · have g0 : (ii == 0) = false := by simp [h0]
        have g1 : (ii == 1) = false := by simp [h1]
        go_wp2_with fail
        go_meet
        exact ⟨by rw [HB.out, decide_eq_false (by omega)], rfl⟩
  case rest =>
    obtain ⟨rfl, hwc⟩ := hcut
    have hwc' := hwc.symm
    subst hwc'
    clear hwc
    go_wp2_with fail
    refine (clones11 W1 c0.inv c1.inv c2.inv c3.inv).mono ?_; rintro e w2 ⟨rfl, lab2, r0', r1', d0', d1', u0', u1', e0', e1', W2⟩
    have W3 := Lib.hid W2
    clear W1 P1 Q1 q0 q1 W2
    go_wp2
    go_ret
    exact ⟨rfl, lab2, _, _, _, _, _, _, _, _, _, _, _, _, _, _, _, _, _, W3.out, c0, c1, c2, c3⟩

end Go.Proofs.Ytobmgnoceacoaaa

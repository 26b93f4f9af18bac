/- CellsPlays: a step of a script: Start, Peek, Now. -/
import Derived.Test.YtobmgnoceacoaaaYL
import Derived.Deep.QuietTactic
import Derived.BigQuiet
import Derived.Deep.DeepCutAuto
import Derived.Deep.CutBlock
import Derived.Deep.RegionHeld3
import Derived.StillTailTactics
import Derived.IntWalk
namespace Go.Proofs.Ytobmgnoceacoaaa
open Go.RowKit
attribute [local go_sem] run_store_float

variable {w0 w w1 w' : World} {lab lab' : Nat → Nat} {x a b c d k g n : Nat} {r0 r1 d0 d1 u0 u1 e0 e1 v : Value} {s t s' : MemS} {R0 R1 : Option RdS} {D0 D1 : Option (RdS × List Int)} {U0 U1 E0 E1 : Option WrS} {r r' : RdS} {q q' : WrS} {u : Value} {L L' : List Int} {kr : Nat}

set_option maxRecDepth 100000 in
set_option maxHeartbeats 40000000 in
theorem step11_2 (h : W11 w0 w lab x a b c d r0 r1 d0 d1 u0 u1 e0 e1 s s R0 R1 D0 D1 U0 U1 E0 E1) (c0 : CplR R0 D0) (c1 : CplR R1 D1) (c2 : CplW U0 E0) (c3 : CplW U1 E1) (ii ce cl vv xx yy : Int) (la : Option Addr) (ln lc : Nat) (zs : List Int) (hN : NumsN w0 .u64 la ln zs) (hln : ln ≤ 17592186044415) :
    Calls Try.prog 88 #[.pointer (some ⟨x, 0, none⟩), .agg #[.int .i64 2, .int .i64 ii, .int .i64 ce, .int .i64 cl, .int .u64 vv, .int .u64 xx, .int .u64 yy, .slice la ln lc]] w (Kept11 w0 x a b c d) := by
  have Q1 : ((w.alloc (.cells #[.int .i64 2, .int .i64 ii, .int .i64 ce, .int .i64 cl, .int .u64 vv, .int .u64 xx, .int .u64 yy, .slice la ln lc] 138)).alloc (.cells #[.int .i64 0, .int .i64 0, .int .i64 0, .int .i64 0, .int .i64 ce, .int .i64 0] 35)).heap[w.heap.size]? = some (.cells #[.int .i64 2, .int .i64 ii, .int .i64 ce, .int .i64 cl, .int .u64 vv, .int .u64 xx, .int .u64 yy, .slice la ln lc] 138 (0, 0)) := blk_alloc_old _ (heap_alloc_new _ _)
  have P1 : ((w.alloc (.cells #[.int .i64 2, .int .i64 ii, .int .i64 ce, .int .i64 cl, .int .u64 vv, .int .u64 xx, .int .u64 yy, .slice la ln lc] 138)).alloc (.cells #[.int .i64 0, .int .i64 0, .int .i64 0, .int .i64 0, .int .i64 ce, .int .i64 0] 35)).heap[w.heap.size + 1]? = some (.cells #[.int .i64 0, .int .i64 0, .int .i64 0, .int .i64 0, .int .i64 ce, .int .i64 0] 35 (0, 0)) := blk2 w _ _
  have W1 := h.mod0 (((Mod.refl [] w).alloc (.cells #[.int .i64 2, .int .i64 ii, .int .i64 ce, .int .i64 cl, .int .u64 vv, .int .u64 xx, .int .u64 yy, .slice la ln lc] 138)).alloc (.cells #[.int .i64 0, .int .i64 0, .int .i64 0, .int .i64 0, .int .i64 ce, .int .i64 0] 35))
  have hgx := lt_of_block h.hx
  obtain ⟨bb, hbb⟩ : ∃ bb, bb = decide (ii = 0 ∨ ii = 1) := ⟨_, rfl⟩
  have HB := Lib.hid hbb
  clear h hbb
  go_enter Try.func88, Try.ntmps88
  go_upto_region 2 with fail
  generalize (w.alloc (.cells #[.int .i64 2, .int .i64 ii, .int .i64 ce, .int .i64 cl, .int .u64 vv, .int .u64 xx, .int .u64 yy, .slice la ln lc] 138)).alloc (.cells #[.int .i64 0, .int .i64 0, .int .i64 0, .int .i64 0, .int .i64 ce, .int .i64 0] 35) = w1 at *
  have hox : w.heap.size ≠ x := by omega
  have hpx : w.heap.size + 1 ≠ x := by omega
  clear hgx
  generalize w.heap.size + 1 = pb at *
  generalize w.heap.size = ob at *
  have q0 : w1.cell? ⟨ob, 0, none⟩ = some (.int .i64 2) := cell_of_blk Q1 rfl
  have q1 : w1.cell? ⟨ob, 1, none⟩ = some (.int .i64 ii) := cell_of_blk Q1 rfl
  go_cut [6] (fun A wx => A = .bool bb ∧ wx = w1)
  case first =>
    by_cases h0 : ii = 0
    · subst h0
      go_wp2_with fail
      go_meet
      exact ⟨by rw [HB.out]; rfl, rfl⟩
    · by_cases h1 : ii = 1
      · subst h1
        go_wp2_with fail
        go_meet
        exact ⟨by rw [HB.out]; rfl, rfl⟩
      · have g0 : (ii == 0) = false := by simp [h0]
        have g1 : (ii == 1) = false := by simp [h1]
        go_wp2_with fail
        go_meet
        exact ⟨by rw [HB.out, decide_eq_false (by omega)], rfl⟩
  case rest =>
    obtain ⟨rfl, hwc⟩ := hcut
    have hwc' := hwc.symm
    subst hwc'
    clear hwc
    have x0 : w1.cell? ⟨x, 0, none⟩ = some (.pointer (some ⟨a, 0, none⟩)) := cell_of_blk W1.hx rfl
    have p0 : w1.cell? ⟨pb, 0, none⟩ = some (.int .i64 0) := cell_of_blk P1 rfl
    have p1 : w1.cell? ⟨pb, 1, none⟩ = some (.int .i64 0) := cell_of_blk P1 rfl
    have p2 : w1.cell? ⟨pb, 2, none⟩ = some (.int .i64 0) := cell_of_blk P1 rfl
    have p3 : w1.cell? ⟨pb, 3, none⟩ = some (.int .i64 0) := cell_of_blk P1 rfl
    have p4 : w1.cell? ⟨pb, 4, none⟩ = some (.int .i64 ce) := cell_of_blk P1 rfl
    have p5 : w1.cell? ⟨pb, 5, none⟩ = some (.int .i64 0) := cell_of_blk P1 rfl
    have q7 : w1.cell? ⟨ob, 7, none⟩ = some (.slice la ln lc) := cell_of_blk Q1 rfl
    have hxl : (zs.map Int.toNat).length ≤ 140737488351232 := by rw [List.length_map, hN.1]; omega
    have HXL := Lib.hid hxl
    clear hxl
    go_upto_region 8 with fail
    go_cut [7] (fun A wx => A = .int .i64 (startE s ce (zs.map Int.toNat)) ∧ W11 w0 wx lab x a b c d r0 r1 d0 d1 u0 u1 e0 e1 (startM s ce (zs.map Int.toNat)) s R0 R1 D0 D1 U0 U1 E0 E1 ∧ wx.heap[ob]? = some (.cells #[.int .i64 2, .int .i64 ii, .int .i64 ce, .int .i64 cl, .int .u64 vv, .int .u64 xx, .int .u64 yy, .slice la ln lc] 138 (0, 0)) ∧ wx.heap[pb]? = some (.cells #[.int .i64 0, .int .i64 0, .int .i64 0, .int .i64 0, .int .i64 ce, .int .i64 0] 35 (0, 0)))
    case first =>
      go_region_held3 (fun wx => wx.cell? ⟨x, 0, none⟩ = some (.pointer (some ⟨a, 0, none⟩)) ∧ wx.cell? ⟨pb, 0, none⟩ = some (.int .i64 0) ∧ wx.cell? ⟨pb, 1, none⟩ = some (.int .i64 0) ∧ wx.cell? ⟨pb, 2, none⟩ = some (.int .i64 0) ∧ wx.cell? ⟨pb, 3, none⟩ = some (.int .i64 0) ∧ wx.cell? ⟨pb, 4, none⟩ = some (.int .i64 ce) ∧ wx.cell? ⟨pb, 5, none⟩ = some (.int .i64 0) ∧ wx.cell? ⟨ob, 7, none⟩ = some (.slice la ln lc)) (first | exact ⟨x0, p0, p1, p2, p3, p4, p5, q7⟩ | exact ⟨cell_of_blk W2.hx rfl, cell_of_blk P2 rfl, cell_of_blk P2 rfl, cell_of_blk P2 rfl, cell_of_blk P2 rfl, cell_of_blk P2 rfl, cell_of_blk P2 rfl, cell_of_blk Q2 rfl⟩ | exact ⟨cell_of_blk W3.hx rfl, cell_of_blk P3 rfl, cell_of_blk P3 rfl, cell_of_blk P3 rfl, cell_of_blk P3 rfl, cell_of_blk P3 rfl, cell_of_blk P3 rfl, cell_of_blk Q3 rfl⟩)
        (first
          | (go_at_call 133; refine (floats_c la ln lc zs hN hln (by first | exact W1.fr.drew | exact W1.fr)).mono ?_; rintro e w2 ⟨v2, rfl, F2, d2⟩; have W2 := (W1.mod0 (Mod.refl _ _).drew).mod0 d2; have P2 := d2.at (k := pb) (o := .cells #[.int .i64 0, .int .i64 0, .int .i64 0, .int .i64 0, .int .i64 ce, .int .i64 0] 35 (0, 0)) P1 (by simp); have Q2 := d2.at (k := ob) (o := .cells #[.int .i64 2, .int .i64 ii, .int .i64 ce, .int .i64 cl, .int .u64 vv, .int .u64 xx, .int .u64 yy, .slice la ln lc] 138 (0, 0)) Q1 (by simp))
          | (go_at_call 74; refine (start_c W2.m 0 0 0 0 ce 0 v2 F2 HXL.out).mono ?_; rintro e w3 ⟨rfl, M3, d3⟩; have W3 := W2.memP M3 d3; have P3 := d3.at (k := pb) (o := .cells #[.int .i64 0, .int .i64 0, .int .i64 0, .int .i64 0, .int .i64 ce, .int .i64 0] 35 (0, 0)) P2 (by simp [blk_ne P2 W2.m.hd (by decide), blk_ne P2 W2.m.ws (by decide)]); have Q3 := d3.at (k := ob) (o := .cells #[.int .i64 2, .int .i64 ii, .int .i64 ce, .int .i64 cl, .int .u64 vv, .int .u64 xx, .int .u64 yy, .slice la ln lc] 138 (0, 0)) Q2 (by simp [blk_ne Q2 W2.m.hd (by decide), blk_ne Q2 W2.m.ws (by decide)])))
      all_goals
        go_wp2_with fail
        go_meet
        exact ⟨rfl, W3, Q3, P3⟩
    case rest =>
      obtain ⟨rfl, W4, Q4, P4⟩ := hcut
      clear W1 P1 Q1 q0 q1 q7 x0 p0 p1 p2 p3 p4 p5
      obtain ⟨w4, rfl⟩ : ∃ w4, w4 = wc := ⟨_, rfl⟩
      have x1 : w4.cell? ⟨x, 1, none⟩ = some (.pointer (some ⟨c, 0, none⟩)) := cell_of_blk W4.hx rfl
      have p0 : w4.cell? ⟨pb, 0, none⟩ = some (.int .i64 0) := cell_of_blk P4 rfl
      have p1 : w4.cell? ⟨pb, 1, none⟩ = some (.int .i64 0) := cell_of_blk P4 rfl
      have p2 : w4.cell? ⟨pb, 2, none⟩ = some (.int .i64 0) := cell_of_blk P4 rfl
      have p3 : w4.cell? ⟨pb, 3, none⟩ = some (.int .i64 0) := cell_of_blk P4 rfl
      have p4 : w4.cell? ⟨pb, 4, none⟩ = some (.int .i64 ce) := cell_of_blk P4 rfl
      have p5 : w4.cell? ⟨pb, 5, none⟩ = some (.int .i64 0) := cell_of_blk P4 rfl
      have q7 : w4.cell? ⟨ob, 7, none⟩ = some (.slice la ln lc) := cell_of_blk Q4 rfl
      go_upto_region 9 with fail
      go_cut [8] (fun A wx => A = .int .i64 (startE s ce (zs.map Int.toNat)) ∧ W11 w0 wx lab x a b c d r0 r1 d0 d1 u0 u1 e0 e1 (startM s ce (zs.map Int.toNat)) (startM s ce (zs.map Int.toNat)) R0 R1 D0 D1 U0 U1 E0 E1)
      case first =>
        go_region_held3 (fun wx => wx.cell? ⟨x, 1, none⟩ = some (.pointer (some ⟨c, 0, none⟩)) ∧ wx.cell? ⟨pb, 0, none⟩ = some (.int .i64 0) ∧ wx.cell? ⟨pb, 1, none⟩ = some (.int .i64 0) ∧ wx.cell? ⟨pb, 2, none⟩ = some (.int .i64 0) ∧ wx.cell? ⟨pb, 3, none⟩ = some (.int .i64 0) ∧ wx.cell? ⟨pb, 4, none⟩ = some (.int .i64 ce) ∧ wx.cell? ⟨pb, 5, none⟩ = some (.int .i64 0) ∧ wx.cell? ⟨ob, 7, none⟩ = some (.slice la ln lc)) (first | exact ⟨x1, p0, p1, p2, p3, p4, p5, q7⟩ | exact ⟨cell_of_blk W5.hx rfl, cell_of_blk P5 rfl, cell_of_blk P5 rfl, cell_of_blk P5 rfl, cell_of_blk P5 rfl, cell_of_blk P5 rfl, cell_of_blk P5 rfl, cell_of_blk Q5 rfl⟩ | exact ⟨cell_of_blk W6.hx rfl, cell_of_blk P6 rfl, cell_of_blk P6 rfl, cell_of_blk P6 rfl, cell_of_blk P6 rfl, cell_of_blk P6 rfl, cell_of_blk P6 rfl, cell_of_blk Q6 rfl⟩)
          (first
            | (go_at_call 133; refine (floats_c la ln lc zs hN hln (by first | exact W4.fr.drew | exact W4.fr)).mono ?_; rintro e w5 ⟨v5, rfl, F5, d5⟩; have W5 := (W4.mod0 (Mod.refl _ _).drew).mod0 d5; have P5 := d5.at (k := pb) (o := .cells #[.int .i64 0, .int .i64 0, .int .i64 0, .int .i64 0, .int .i64 ce, .int .i64 0] 35 (0, 0)) P4 (by simp); have Q5 := d5.at (k := ob) (o := .cells #[.int .i64 2, .int .i64 ii, .int .i64 ce, .int .i64 cl, .int .u64 vv, .int .u64 xx, .int .u64 yy, .slice la ln lc] 138 (0, 0)) Q4 (by simp))
            | (go_at_call 134; refine (startr_c W5.r 0 0 0 0 ce 0 v5 F5 HXL.out).mono ?_; rintro e w6 ⟨rfl, M6, d6⟩; have W6 := W5.memR M6 d6; have P6 := d6.at (k := pb) (o := .cells #[.int .i64 0, .int .i64 0, .int .i64 0, .int .i64 0, .int .i64 ce, .int .i64 0] 35 (0, 0)) P5 (by simp [blk_ne P5 W5.r.hd (by decide), blk_ne P5 W5.r.ws (by decide)]); have Q6 := d6.at (k := ob) (o := .cells #[.int .i64 2, .int .i64 ii, .int .i64 ce, .int .i64 cl, .int .u64 vv, .int .u64 xx, .int .u64 yy, .slice la ln lc] 138 (0, 0)) Q5 (by simp [blk_ne Q5 W5.r.hd (by decide), blk_ne Q5 W5.r.ws (by decide)])))
        all_goals
          go_wp2_with fail
          go_meet
          exact ⟨rfl, W6⟩
      case rest =>
        obtain ⟨rfl, W7⟩ := hcut
        have W8 := Lib.hid W7
        clear W4 P4 Q4 q7 x1 p0 p1 p2 p3 p4 p5 W7
        generalize startE s ce (zs.map Int.toNat) = er at *
        go_wp2
        go_ret
        exact ⟨by simp, lab, _, _, _, _, _, _, _, _, _, _, _, _, _, _, _, _, _, W8.out, c0, c1, c2, c3⟩

set_option maxRecDepth 100000 in
set_option maxHeartbeats 40000000 in
theorem step11_4 (h : W11 w0 w lab x a b c d r0 r1 d0 d1 u0 u1 e0 e1 s s R0 R1 D0 D1 U0 U1 E0 E1) (c0 : CplR R0 D0) (c1 : CplR R1 D1) (c2 : CplW U0 E0) (c3 : CplW U1 E1) (ii ce cl vv xx yy : Int) (la : Option Addr) (ln lc : Nat) :
    Calls Try.prog 88 #[.pointer (some ⟨x, 0, none⟩), .agg #[.int .i64 4, .int .i64 ii, .int .i64 ce, .int .i64 cl, .int .u64 vv, .int .u64 xx, .int .u64 yy, .slice la ln lc]] w (Kept11 w0 x a b c d) := by
  have Q1 : ((w.alloc (.cells #[.int .i64 4, .int .i64 ii, .int .i64 ce, .int .i64 cl, .int .u64 vv, .int .u64 xx, .int .u64 yy, .slice la ln lc] 138)).alloc (.cells #[.int .i64 0, .int .i64 0, .int .i64 0, .int .i64 0, .int .i64 ce, .int .i64 0] 35)).heap[w.heap.size]? = some (.cells #[.int .i64 4, .int .i64 ii, .int .i64 ce, .int .i64 cl, .int .u64 vv, .int .u64 xx, .int .u64 yy, .slice la ln lc] 138 (0, 0)) := blk_alloc_old _ (heap_alloc_new _ _)
  have P1 : ((w.alloc (.cells #[.int .i64 4, .int .i64 ii, .int .i64 ce, .int .i64 cl, .int .u64 vv, .int .u64 xx, .int .u64 yy, .slice la ln lc] 138)).alloc (.cells #[.int .i64 0, .int .i64 0, .int .i64 0, .int .i64 0, .int .i64 ce, .int .i64 0] 35)).heap[w.heap.size + 1]? = some (.cells #[.int .i64 0, .int .i64 0, .int .i64 0, .int .i64 0, .int .i64 ce, .int .i64 0] 35 (0, 0)) := blk2 w _ _
  have W1 := h.mod0 (((Mod.refl [] w).alloc (.cells #[.int .i64 4, .int .i64 ii, .int .i64 ce, .int .i64 cl, .int .u64 vv, .int .u64 xx, .int .u64 yy, .slice la ln lc] 138)).alloc (.cells #[.int .i64 0, .int .i64 0, .int .i64 0, .int .i64 0, .int .i64 ce, .int .i64 0] 35))
  have hgx := lt_of_block h.hx
  obtain ⟨bb, hbb⟩ : ∃ bb, bb = decide (ii = 0 ∨ ii = 1) := ⟨_, rfl⟩
  have HB := Lib.hid hbb
  clear h hbb
  go_enter Try.func88, Try.ntmps88
  go_upto_region 2 with fail
  generalize (w.alloc (.cells #[.int .i64 4, .int .i64 ii, .int .i64 ce, .int .i64 cl, .int .u64 vv, .int .u64 xx, .int .u64 yy, .slice la ln lc] 138)).alloc (.cells #[.int .i64 0, .int .i64 0, .int .i64 0, .int .i64 0, .int .i64 ce, .int .i64 0] 35) = w1 at *
  have hox : w.heap.size ≠ x := by omega
  have hpx : w.heap.size + 1 ≠ x := by omega
  clear hgx
  generalize w.heap.size + 1 = pb at *
  generalize w.heap.size = ob at *
  have q0 : w1.cell? ⟨ob, 0, none⟩ = some (.int .i64 4) := cell_of_blk Q1 rfl
  have q1 : w1.cell? ⟨ob, 1, none⟩ = some (.int .i64 ii) := cell_of_blk Q1 rfl
  go_cut [6] (fun A wx => A = .bool bb ∧ wx = w1)
  case first =>
    by_cases h0 : ii = 0
    · subst h0
      go_wp2_with fail
      go_meet
      exact ⟨by rw [HB.out]; rfl, rfl⟩
    · by_cases h1 : ii = 1
      · subst h1
        go_wp2_with fail
        go_meet
        exact ⟨by rw [HB.out]; rfl, rfl⟩
      · have g0 : (ii == 0) = false := by simp [h0]
        have g1 : (ii == 1) = false := by simp [h1]
        go_wp2_with fail
        go_meet
        exact ⟨by rw [HB.out, decide_eq_false (by omega)], rfl⟩
  case rest =>
    obtain ⟨rfl, hwc⟩ := hcut
    have hwc' := hwc.symm
    subst hwc'
    clear hwc
    have x0 : w1.cell? ⟨x, 0, none⟩ = some (.pointer (some ⟨a, 0, none⟩)) := cell_of_blk W1.hx rfl
    have p0 : w1.cell? ⟨pb, 0, none⟩ = some (.int .i64 0) := cell_of_blk P1 rfl
    have p1 : w1.cell? ⟨pb, 1, none⟩ = some (.int .i64 0) := cell_of_blk P1 rfl
    have p2 : w1.cell? ⟨pb, 2, none⟩ = some (.int .i64 0) := cell_of_blk P1 rfl
    have p3 : w1.cell? ⟨pb, 3, none⟩ = some (.int .i64 0) := cell_of_blk P1 rfl
    have p4 : w1.cell? ⟨pb, 4, none⟩ = some (.int .i64 ce) := cell_of_blk P1 rfl
    have p5 : w1.cell? ⟨pb, 5, none⟩ = some (.int .i64 0) := cell_of_blk P1 rfl
    have q3 : w1.cell? ⟨ob, 3, none⟩ = some (.int .i64 cl) := cell_of_blk Q1 rfl
    go_upto_region 16 with fail
    go_cut [13, 14] (fun A B wx => A = .float .f64 (s.nowV ce cl) ∧ B = .int .i64 (s.cellE ce cl 1) ∧ W11 w0 wx lab x a b c d r0 r1 d0 d1 u0 u1 e0 e1 (s.cellM ce cl 1) s R0 R1 D0 D1 U0 U1 E0 E1 ∧ wx.heap[ob]? = some (.cells #[.int .i64 4, .int .i64 ii, .int .i64 ce, .int .i64 cl, .int .u64 vv, .int .u64 xx, .int .u64 yy, .slice la ln lc] 138 (0, 0)) ∧ wx.heap[pb]? = some (.cells #[.int .i64 0, .int .i64 0, .int .i64 0, .int .i64 0, .int .i64 ce, .int .i64 0] 35 (0, 0)))
    case first =>
      go_region_held3 (fun wx => wx.cell? ⟨x, 0, none⟩ = some (.pointer (some ⟨a, 0, none⟩)) ∧ wx.cell? ⟨pb, 0, none⟩ = some (.int .i64 0) ∧ wx.cell? ⟨pb, 1, none⟩ = some (.int .i64 0) ∧ wx.cell? ⟨pb, 2, none⟩ = some (.int .i64 0) ∧ wx.cell? ⟨pb, 3, none⟩ = some (.int .i64 0) ∧ wx.cell? ⟨pb, 4, none⟩ = some (.int .i64 ce) ∧ wx.cell? ⟨pb, 5, none⟩ = some (.int .i64 0) ∧ wx.cell? ⟨ob, 3, none⟩ = some (.int .i64 cl)) (first | exact ⟨x0, p0, p1, p2, p3, p4, p5, q3⟩ | exact ⟨cell_of_blk W2.hx rfl, cell_of_blk P2 rfl, cell_of_blk P2 rfl, cell_of_blk P2 rfl, cell_of_blk P2 rfl, cell_of_blk P2 rfl, cell_of_blk P2 rfl, cell_of_blk Q2 rfl⟩)
        (first | (go_at_call 125; refine (now11 W1.m.drew 0 0 0 0 ce 0 cl).mono ?_; rintro e w2 ⟨rfl, M2, d2⟩; have W2 := (W1.mod0 (Mod.refl _ _).drew).memP M2 d2; have P2 := d2.at (k := pb) (o := .cells #[.int .i64 0, .int .i64 0, .int .i64 0, .int .i64 0, .int .i64 ce, .int .i64 0] 35 (0, 0)) P1 (by simp [blk_ne P1 W1.m.hd (by decide), blk_ne P1 W1.m.ws (by decide)]); have Q2 := d2.at (k := ob) (o := .cells #[.int .i64 4, .int .i64 ii, .int .i64 ce, .int .i64 cl, .int .u64 vv, .int .u64 xx, .int .u64 yy, .slice la ln lc] 138 (0, 0)) Q1 (by simp [blk_ne Q1 W1.m.hd (by decide), blk_ne Q1 W1.m.ws (by decide)])))
      all_goals
        go_wp2_with fail
        go_meet
        exact ⟨rfl, rfl, W2, Q2, P2⟩
    case rest =>
      obtain ⟨rfl, rfl, W3, Q3, P3⟩ := hcut
      clear W1 P1 Q1 q0 q1 q3 x0 p0 p1 p2 p3 p4 p5
      obtain ⟨w3, rfl⟩ : ∃ w3, w3 = wc := ⟨_, rfl⟩
      have x1 : w3.cell? ⟨x, 1, none⟩ = some (.pointer (some ⟨c, 0, none⟩)) := cell_of_blk W3.hx rfl
      have p0 : w3.cell? ⟨pb, 0, none⟩ = some (.int .i64 0) := cell_of_blk P3 rfl
      have p1 : w3.cell? ⟨pb, 1, none⟩ = some (.int .i64 0) := cell_of_blk P3 rfl
      have p2 : w3.cell? ⟨pb, 2, none⟩ = some (.int .i64 0) := cell_of_blk P3 rfl
      have p3 : w3.cell? ⟨pb, 3, none⟩ = some (.int .i64 0) := cell_of_blk P3 rfl
      have p4 : w3.cell? ⟨pb, 4, none⟩ = some (.int .i64 ce) := cell_of_blk P3 rfl
      have p5 : w3.cell? ⟨pb, 5, none⟩ = some (.int .i64 0) := cell_of_blk P3 rfl
      have q3 : w3.cell? ⟨ob, 3, none⟩ = some (.int .i64 cl) := cell_of_blk Q3 rfl
      go_upto_region 17 with fail
      go_cut [15, 16] (fun A B wx => A = .float .f64 (s.nowV ce cl) ∧ B = .int .i64 (s.cellE ce cl 1) ∧ W11 w0 wx lab x a b c d r0 r1 d0 d1 u0 u1 e0 e1 (s.cellM ce cl 1) (s.cellM ce cl 1) R0 R1 D0 D1 U0 U1 E0 E1 ∧ wx.heap[ob]? = some (.cells #[.int .i64 4, .int .i64 ii, .int .i64 ce, .int .i64 cl, .int .u64 vv, .int .u64 xx, .int .u64 yy, .slice la ln lc] 138 (0, 0)) ∧ wx.heap[pb]? = some (.cells #[.int .i64 0, .int .i64 0, .int .i64 0, .int .i64 0, .int .i64 ce, .int .i64 0] 35 (0, 0)))
      case first =>
        go_region_held3 (fun wx => wx.cell? ⟨x, 1, none⟩ = some (.pointer (some ⟨c, 0, none⟩)) ∧ wx.cell? ⟨pb, 0, none⟩ = some (.int .i64 0) ∧ wx.cell? ⟨pb, 1, none⟩ = some (.int .i64 0) ∧ wx.cell? ⟨pb, 2, none⟩ = some (.int .i64 0) ∧ wx.cell? ⟨pb, 3, none⟩ = some (.int .i64 0) ∧ wx.cell? ⟨pb, 4, none⟩ = some (.int .i64 ce) ∧ wx.cell? ⟨pb, 5, none⟩ = some (.int .i64 0) ∧ wx.cell? ⟨ob, 3, none⟩ = some (.int .i64 cl)) (first | exact ⟨x1, p0, p1, p2, p3, p4, p5, q3⟩ | exact ⟨cell_of_blk W4.hx rfl, cell_of_blk P4 rfl, cell_of_blk P4 rfl, cell_of_blk P4 rfl, cell_of_blk P4 rfl, cell_of_blk P4 rfl, cell_of_blk P4 rfl, cell_of_blk Q4 rfl⟩)
          (first | (go_at_call 136; refine (nowr11 W3.r.drew 0 0 0 0 ce 0 cl).mono ?_; rintro e w4 ⟨rfl, M4, d4⟩; have W4 := (W3.mod0 (Mod.refl _ _).drew).memR M4 d4; have P4 := d4.at (k := pb) (o := .cells #[.int .i64 0, .int .i64 0, .int .i64 0, .int .i64 0, .int .i64 ce, .int .i64 0] 35 (0, 0)) P3 (by simp [blk_ne P3 W3.r.hd (by decide), blk_ne P3 W3.r.ws (by decide)]); have Q4 := d4.at (k := ob) (o := .cells #[.int .i64 4, .int .i64 ii, .int .i64 ce, .int .i64 cl, .int .u64 vv, .int .u64 xx, .int .u64 yy, .slice la ln lc] 138 (0, 0)) Q3 (by simp [blk_ne Q3 W3.r.hd (by decide), blk_ne Q3 W3.r.ws (by decide)])))
        all_goals
          go_wp2_with fail
          go_meet
          exact ⟨rfl, rfl, W4, Q4, P4⟩
      case rest =>
        obtain ⟨rfl, rfl, W5, Q5, P5⟩ := hcut
        clear W3 P3 Q3 q3 x1 p0 p1 p2 p3 p4 p5 Q5 P5
        have W8 := Lib.hid W5
        clear W5
        generalize s.nowV ce cl = vf at *
        generalize s.cellE ce cl 1 = er at *
        go_wp2_with fail
        refine (exact_c vf _).mono ?_; rintro e w6 ⟨rfl, hw6⟩
        have hw6' := hw6.symm
        subst hw6'
        clear hw6
        go_wp2
        go_ret
        exact ⟨by simp, lab, _, _, _, _, _, _, _, _, _, _, _, _, _, _, _, _, _, W8.out, c0, c1, c2, c3⟩

set_option maxRecDepth 100000 in
set_option maxHeartbeats 40000000 in
theorem step11_3 (h : W11 w0 w lab x a b c d r0 r1 d0 d1 u0 u1 e0 e1 s s R0 R1 D0 D1 U0 U1 E0 E1) (c0 : CplR R0 D0) (c1 : CplR R1 D1) (c2 : CplW U0 E0) (c3 : CplW U1 E1) (ii ce cl vv xx yy : Int) (la : Option Addr) (ln lc : Nat) :
    Calls Try.prog 88 #[.pointer (some ⟨x, 0, none⟩), .agg #[.int .i64 3, .int .i64 ii, .int .i64 ce, .int .i64 cl, .int .u64 vv, .int .u64 xx, .int .u64 yy, .slice la ln lc]] w (Kept11 w0 x a b c d) := by
  have Q1 : ((w.alloc (.cells #[.int .i64 3, .int .i64 ii, .int .i64 ce, .int .i64 cl, .int .u64 vv, .int .u64 xx, .int .u64 yy, .slice la ln lc] 138)).alloc (.cells #[.int .i64 0, .int .i64 0, .int .i64 0, .int .i64 0, .int .i64 ce, .int .i64 0] 35)).heap[w.heap.size]? = some (.cells #[.int .i64 3, .int .i64 ii, .int .i64 ce, .int .i64 cl, .int .u64 vv, .int .u64 xx, .int .u64 yy, .slice la ln lc] 138 (0, 0)) := blk_alloc_old _ (heap_alloc_new _ _)
  have P1 : ((w.alloc (.cells #[.int .i64 3, .int .i64 ii, .int .i64 ce, .int .i64 cl, .int .u64 vv, .int .u64 xx, .int .u64 yy, .slice la ln lc] 138)).alloc (.cells #[.int .i64 0, .int .i64 0, .int .i64 0, .int .i64 0, .int .i64 ce, .int .i64 0] 35)).heap[w.heap.size + 1]? = some (.cells #[.int .i64 0, .int .i64 0, .int .i64 0, .int .i64 0, .int .i64 ce, .int .i64 0] 35 (0, 0)) := blk2 w _ _
  have W1 := h.mod0 (((Mod.refl [] w).alloc (.cells #[.int .i64 3, .int .i64 ii, .int .i64 ce, .int .i64 cl, .int .u64 vv, .int .u64 xx, .int .u64 yy, .slice la ln lc] 138)).alloc (.cells #[.int .i64 0, .int .i64 0, .int .i64 0, .int .i64 0, .int .i64 ce, .int .i64 0] 35))
  have hgx := lt_of_block h.hx
  obtain ⟨bb, hbb⟩ : ∃ bb, bb = decide (ii = 0 ∨ ii = 1) := ⟨_, rfl⟩
  have HB := Lib.hid hbb
  clear h hbb
  go_enter Try.func88, Try.ntmps88
  go_upto_region 2 with fail
  generalize (w.alloc (.cells #[.int .i64 3, .int .i64 ii, .int .i64 ce, .int .i64 cl, .int .u64 vv, .int .u64 xx, .int .u64 yy, .slice la ln lc] 138)).alloc (.cells #[.int .i64 0, .int .i64 0, .int .i64 0, .int .i64 0, .int .i64 ce, .int .i64 0] 35) = w1 at *
  have hox : w.heap.size ≠ x := by omega
  have hpx : w.heap.size + 1 ≠ x := by omega
  clear hgx
  generalize w.heap.size + 1 = pb at *
  generalize w.heap.size = ob at *
  have q0 : w1.cell? ⟨ob, 0, none⟩ = some (.int .i64 3) := cell_of_blk Q1 rfl
  have q1 : w1.cell? ⟨ob, 1, none⟩ = some (.int .i64 ii) := cell_of_blk Q1 rfl
  go_cut [6] (fun A wx => A = .bool bb ∧ wx = w1)
  case first =>
    by_cases h0 : ii = 0
    · subst h0
      go_wp2_with fail
      go_meet
      exact ⟨by rw [HB.out]; rfl, rfl⟩
    · by_cases h1 : ii = 1
      · subst h1
        go_wp2_with fail
        go_meet
        exact ⟨by rw [HB.out]; rfl, rfl⟩
      · have g0 : (ii == 0) = false := by simp [h0]
        have g1 : (ii == 1) = false := by simp [h1]
        go_wp2_with fail
        go_meet
        exact ⟨by rw [HB.out, decide_eq_false (by omega)], rfl⟩
  case rest =>
    obtain ⟨rfl, hwc⟩ := hcut
    have hwc' := hwc.symm
    subst hwc'
    clear hwc
    have x0 : w1.cell? ⟨x, 0, none⟩ = some (.pointer (some ⟨a, 0, none⟩)) := cell_of_blk W1.hx rfl
    have p0 : w1.cell? ⟨pb, 0, none⟩ = some (.int .i64 0) := cell_of_blk P1 rfl
    have p1 : w1.cell? ⟨pb, 1, none⟩ = some (.int .i64 0) := cell_of_blk P1 rfl
    have p2 : w1.cell? ⟨pb, 2, none⟩ = some (.int .i64 0) := cell_of_blk P1 rfl
    have p3 : w1.cell? ⟨pb, 3, none⟩ = some (.int .i64 0) := cell_of_blk P1 rfl
    have p4 : w1.cell? ⟨pb, 4, none⟩ = some (.int .i64 ce) := cell_of_blk P1 rfl
    have p5 : w1.cell? ⟨pb, 5, none⟩ = some (.int .i64 0) := cell_of_blk P1 rfl
    have q3 : w1.cell? ⟨ob, 3, none⟩ = some (.int .i64 cl) := cell_of_blk Q1 rfl
    have HK2 := Lib.hid (fun (wx : World) (D : Mod [] w1 wx) => (show (wx.cell? ⟨x, 0, none⟩ = some (.pointer (some ⟨a, 0, none⟩)) ∧ wx.cell? ⟨pb, 0, none⟩ = some (.int .i64 0) ∧ wx.cell? ⟨pb, 1, none⟩ = some (.int .i64 0) ∧ wx.cell? ⟨pb, 2, none⟩ = some (.int .i64 0) ∧ wx.cell? ⟨pb, 3, none⟩ = some (.int .i64 0) ∧ wx.cell? ⟨pb, 4, none⟩ = some (.int .i64 ce) ∧ wx.cell? ⟨pb, 5, none⟩ = some (.int .i64 0) ∧ wx.cell? ⟨ob, 3, none⟩ = some (.int .i64 cl)) from ⟨cell_of_blk (D.at W1.hx (by simp)) rfl, cell_of_blk (D.at P1 (by simp)) rfl, cell_of_blk (D.at P1 (by simp)) rfl, cell_of_blk (D.at P1 (by simp)) rfl, cell_of_blk (D.at P1 (by simp)) rfl, cell_of_blk (D.at P1 (by simp)) rfl, cell_of_blk (D.at P1 (by simp)) rfl, cell_of_blk (D.at Q1 (by simp)) rfl⟩))
    go_upto_region 12 with fail
    go_cut [9, 10] (fun A B wx => ∃ g, A = (.pointer (some ⟨g, 0, none⟩)) ∧ B = .int .i64 (s.tripE ce cl) ∧ wx.heap[g]? = some (.cells #[.int .u64 (s.tripV ce cl 0), .int .u64 (s.tripV ce cl 1), .int .u64 (s.tripV ce cl 2)] 30 (0, 0)) ∧ W11 w0 wx lab x a b c d r0 r1 d0 d1 u0 u1 e0 e1 s s R0 R1 D0 D1 U0 U1 E0 E1 ∧ wx.heap[ob]? = some (.cells #[.int .i64 3, .int .i64 ii, .int .i64 ce, .int .i64 cl, .int .u64 vv, .int .u64 xx, .int .u64 yy, .slice la ln lc] 138 (0, 0)) ∧ wx.heap[pb]? = some (.cells #[.int .i64 0, .int .i64 0, .int .i64 0, .int .i64 0, .int .i64 ce, .int .i64 0] 35 (0, 0)))
    case first =>
      go_region_held3 (fun wx => wx.cell? ⟨x, 0, none⟩ = some (.pointer (some ⟨a, 0, none⟩)) ∧ wx.cell? ⟨pb, 0, none⟩ = some (.int .i64 0) ∧ wx.cell? ⟨pb, 1, none⟩ = some (.int .i64 0) ∧ wx.cell? ⟨pb, 2, none⟩ = some (.int .i64 0) ∧ wx.cell? ⟨pb, 3, none⟩ = some (.int .i64 0) ∧ wx.cell? ⟨pb, 4, none⟩ = some (.int .i64 ce) ∧ wx.cell? ⟨pb, 5, none⟩ = some (.int .i64 0) ∧ wx.cell? ⟨ob, 3, none⟩ = some (.int .i64 cl)) (first | exact ⟨x0, p0, p1, p2, p3, p4, p5, q3⟩ | exact HK2.out _ (by repeat (first | exact D2 | with_reducible exact Mod.refl _ _ | with_reducible refine Mod.drew ?_ | with_reducible refine Mod.alloc ?_ _ | with_reducible refine Mod.setCell ?_ _ _ (.inr (Nat.le_refl _)))))
        (first
          | (go_at_call 25; refine (peek11_all W1.m.drew 0 0 0 0 ce 0 cl).mono ?_; rintro e w2 ⟨rfl, M2, d2⟩; have D2 : Mod [] w1 w2 := (Mod.refl [] _).drew.trans d2; clear d2)
          | (go_at_call 25; refine (peek11_all (W1.m.alloc (.cells #[.int .u64 0, .int .u64 0, .int .u64 0] 30)).drew 0 0 0 0 ce 0 cl).mono ?_; rintro e w2 ⟨rfl, M2, d2⟩; have D2 : Mod [] w1 w2 := ((Mod.refl [] _).alloc (.cells #[.int .u64 0, .int .u64 0, .int .u64 0] 30)).drew.trans d2; have G2 := d2.at (k := w1.heap.size) (o := .cells #[.int .u64 0, .int .u64 0, .int .u64 0] 30 (0, 0)) (heap_alloc_new w1 (.cells #[.int .u64 0, .int .u64 0, .int .u64 0] 30)) (by simp); have g0 : w2.cell? ⟨w1.heap.size, 0, none⟩ = some (.int .u64 0) := cell_of_blk G2 rfl; have g1 : w2.cell? ⟨w1.heap.size, 1, none⟩ = some (.int .u64 0) := cell_of_blk G2 rfl; have g2 : w2.cell? ⟨w1.heap.size, 2, none⟩ = some (.int .u64 0) := cell_of_blk G2 rfl; have f0 := free_of_blk (i := 0) G2; have f1 := free_of_blk (i := 1) G2; have f2 := free_of_blk (i := 2) G2; clear d2))
      all_goals
        go_wp2_with fail
        go_meet
        first
          | exact ⟨w2.heap.size, rfl, rfl, heap_alloc_new _ _, W1.mod0 (by repeat (first | exact D2 | with_reducible exact Mod.refl _ _ | with_reducible refine Mod.drew ?_ | with_reducible refine Mod.alloc ?_ _ | with_reducible refine Mod.setCell ?_ _ _ (.inr (Nat.le_refl _)))), Mod.at (S := []) (w := w1) (by repeat (first | exact D2 | with_reducible exact Mod.refl _ _ | with_reducible refine Mod.drew ?_ | with_reducible refine Mod.alloc ?_ _ | with_reducible refine Mod.setCell ?_ _ _ (.inr (Nat.le_refl _)))) Q1 (by simp), Mod.at (S := []) (w := w1) (by repeat (first | exact D2 | with_reducible exact Mod.refl _ _ | with_reducible refine Mod.drew ?_ | with_reducible refine Mod.alloc ?_ _ | with_reducible refine Mod.setCell ?_ _ _ (.inr (Nat.le_refl _)))) P1 (by simp)⟩
          | exact ⟨w1.heap.size, rfl, rfl, blk_setCell_same _ (blk_setCell_same _ (blk_setCell_same _ G2)), W1.mod0 (by repeat (first | exact D2 | with_reducible exact Mod.refl _ _ | with_reducible refine Mod.drew ?_ | with_reducible refine Mod.alloc ?_ _ | with_reducible refine Mod.setCell ?_ _ _ (.inr (Nat.le_refl _)))), Mod.at (S := []) (w := w1) (by repeat (first | exact D2 | with_reducible exact Mod.refl _ _ | with_reducible refine Mod.drew ?_ | with_reducible refine Mod.alloc ?_ _ | with_reducible refine Mod.setCell ?_ _ _ (.inr (Nat.le_refl _)))) Q1 (by simp), Mod.at (S := []) (w := w1) (by repeat (first | exact D2 | with_reducible exact Mod.refl _ _ | with_reducible refine Mod.drew ?_ | with_reducible refine Mod.alloc ?_ _ | with_reducible refine Mod.setCell ?_ _ _ (.inr (Nat.le_refl _)))) P1 (by simp)⟩
    case rest =>
      obtain ⟨g3, rfl, rfl, G3, W3, Q3, P3⟩ := hcut
      clear W1 P1 Q1 q0 q1 q3 x0 p0 p1 p2 p3 p4 p5
      obtain ⟨w3, rfl⟩ : ∃ w3, w3 = wc := ⟨_, rfl⟩
      have x1 : w3.cell? ⟨x, 1, none⟩ = some (.pointer (some ⟨c, 0, none⟩)) := cell_of_blk W3.hx rfl
      have p0 : w3.cell? ⟨pb, 0, none⟩ = some (.int .i64 0) := cell_of_blk P3 rfl
      have p1 : w3.cell? ⟨pb, 1, none⟩ = some (.int .i64 0) := cell_of_blk P3 rfl
      have p2 : w3.cell? ⟨pb, 2, none⟩ = some (.int .i64 0) := cell_of_blk P3 rfl
      have p3 : w3.cell? ⟨pb, 3, none⟩ = some (.int .i64 0) := cell_of_blk P3 rfl
      have p4 : w3.cell? ⟨pb, 4, none⟩ = some (.int .i64 ce) := cell_of_blk P3 rfl
      have p5 : w3.cell? ⟨pb, 5, none⟩ = some (.int .i64 0) := cell_of_blk P3 rfl
      have q3 : w3.cell? ⟨ob, 3, none⟩ = some (.int .i64 cl) := cell_of_blk Q3 rfl
      have HK4 := Lib.hid (fun (wx : World) (D : Mod [] w3 wx) => (show (wx.cell? ⟨x, 1, none⟩ = some (.pointer (some ⟨c, 0, none⟩)) ∧ wx.cell? ⟨pb, 0, none⟩ = some (.int .i64 0) ∧ wx.cell? ⟨pb, 1, none⟩ = some (.int .i64 0) ∧ wx.cell? ⟨pb, 2, none⟩ = some (.int .i64 0) ∧ wx.cell? ⟨pb, 3, none⟩ = some (.int .i64 0) ∧ wx.cell? ⟨pb, 4, none⟩ = some (.int .i64 ce) ∧ wx.cell? ⟨pb, 5, none⟩ = some (.int .i64 0) ∧ wx.cell? ⟨ob, 3, none⟩ = some (.int .i64 cl)) from ⟨cell_of_blk (D.at W3.hx (by simp)) rfl, cell_of_blk (D.at P3 (by simp)) rfl, cell_of_blk (D.at P3 (by simp)) rfl, cell_of_blk (D.at P3 (by simp)) rfl, cell_of_blk (D.at P3 (by simp)) rfl, cell_of_blk (D.at P3 (by simp)) rfl, cell_of_blk (D.at P3 (by simp)) rfl, cell_of_blk (D.at Q3 (by simp)) rfl⟩))
      go_upto_region 13 with fail
      go_cut [11, 12] (fun A B wx => ∃ g, A = (.pointer (some ⟨g, 0, none⟩)) ∧ B = .int .i64 (s.tripE ce cl) ∧ wx.heap[g]? = some (.cells #[.int .u64 (s.tripV ce cl 0), .int .u64 (s.tripV ce cl 1), .int .u64 (s.tripV ce cl 2)] 30 (0, 0)) ∧ W11 w0 wx lab x a b c d r0 r1 d0 d1 u0 u1 e0 e1 s s R0 R1 D0 D1 U0 U1 E0 E1 ∧ wx.heap[ob]? = some (.cells #[.int .i64 3, .int .i64 ii, .int .i64 ce, .int .i64 cl, .int .u64 vv, .int .u64 xx, .int .u64 yy, .slice la ln lc] 138 (0, 0)) ∧ wx.heap[pb]? = some (.cells #[.int .i64 0, .int .i64 0, .int .i64 0, .int .i64 0, .int .i64 ce, .int .i64 0] 35 (0, 0)) ∧ wx.heap[g3]? = some (.cells #[.int .u64 (s.tripV ce cl 0), .int .u64 (s.tripV ce cl 1), .int .u64 (s.tripV ce cl 2)] 30 (0, 0)))
      case first =>
        go_region_held3 (fun wx => wx.cell? ⟨x, 1, none⟩ = some (.pointer (some ⟨c, 0, none⟩)) ∧ wx.cell? ⟨pb, 0, none⟩ = some (.int .i64 0) ∧ wx.cell? ⟨pb, 1, none⟩ = some (.int .i64 0) ∧ wx.cell? ⟨pb, 2, none⟩ = some (.int .i64 0) ∧ wx.cell? ⟨pb, 3, none⟩ = some (.int .i64 0) ∧ wx.cell? ⟨pb, 4, none⟩ = some (.int .i64 ce) ∧ wx.cell? ⟨pb, 5, none⟩ = some (.int .i64 0) ∧ wx.cell? ⟨ob, 3, none⟩ = some (.int .i64 cl)) (first | exact ⟨x1, p0, p1, p2, p3, p4, p5, q3⟩ | exact HK4.out _ (by repeat (first | exact D4 | with_reducible exact Mod.refl _ _ | with_reducible refine Mod.drew ?_ | with_reducible refine Mod.alloc ?_ _ | with_reducible refine Mod.setCell ?_ _ _ (.inr (Nat.le_refl _)))))
          (first
            | (go_at_call 135; refine (peekr_all W3.r.drew 0 0 0 0 ce 0 cl).mono ?_; rintro e w4 ⟨rfl, M4, d4⟩; have D4 : Mod [] w3 w4 := (Mod.refl [] _).drew.trans d4; clear d4)
            | (go_at_call 135; refine (peekr_all (W3.r.alloc (.cells #[.int .u64 0, .int .u64 0, .int .u64 0] 30)).drew 0 0 0 0 ce 0 cl).mono ?_; rintro e w4 ⟨rfl, M4, d4⟩; have D4 : Mod [] w3 w4 := ((Mod.refl [] _).alloc (.cells #[.int .u64 0, .int .u64 0, .int .u64 0] 30)).drew.trans d4; have G4 := d4.at (k := w3.heap.size) (o := .cells #[.int .u64 0, .int .u64 0, .int .u64 0] 30 (0, 0)) (heap_alloc_new w3 (.cells #[.int .u64 0, .int .u64 0, .int .u64 0] 30)) (by simp); have g0 : w4.cell? ⟨w3.heap.size, 0, none⟩ = some (.int .u64 0) := cell_of_blk G4 rfl; have g1 : w4.cell? ⟨w3.heap.size, 1, none⟩ = some (.int .u64 0) := cell_of_blk G4 rfl; have g2 : w4.cell? ⟨w3.heap.size, 2, none⟩ = some (.int .u64 0) := cell_of_blk G4 rfl; have f0 := free_of_blk (i := 0) G4; have f1 := free_of_blk (i := 1) G4; have f2 := free_of_blk (i := 2) G4; clear d4))
        all_goals
          go_wp2_with fail
          go_meet
          first
            | exact ⟨w4.heap.size, rfl, rfl, heap_alloc_new _ _, W3.mod0 (by repeat (first | exact D4 | with_reducible exact Mod.refl _ _ | with_reducible refine Mod.drew ?_ | with_reducible refine Mod.alloc ?_ _ | with_reducible refine Mod.setCell ?_ _ _ (.inr (Nat.le_refl _)))), Mod.at (S := []) (w := w3) (by repeat (first | exact D4 | with_reducible exact Mod.refl _ _ | with_reducible refine Mod.drew ?_ | with_reducible refine Mod.alloc ?_ _ | with_reducible refine Mod.setCell ?_ _ _ (.inr (Nat.le_refl _)))) Q3 (by simp), Mod.at (S := []) (w := w3) (by repeat (first | exact D4 | with_reducible exact Mod.refl _ _ | with_reducible refine Mod.drew ?_ | with_reducible refine Mod.alloc ?_ _ | with_reducible refine Mod.setCell ?_ _ _ (.inr (Nat.le_refl _)))) P3 (by simp), Mod.at (S := []) (w := w3) (by repeat (first | exact D4 | with_reducible exact Mod.refl _ _ | with_reducible refine Mod.drew ?_ | with_reducible refine Mod.alloc ?_ _ | with_reducible refine Mod.setCell ?_ _ _ (.inr (Nat.le_refl _)))) G3 (by simp)⟩
            | exact ⟨w3.heap.size, rfl, rfl, blk_setCell_same _ (blk_setCell_same _ (blk_setCell_same _ G4)), W3.mod0 (by repeat (first | exact D4 | with_reducible exact Mod.refl _ _ | with_reducible refine Mod.drew ?_ | with_reducible refine Mod.alloc ?_ _ | with_reducible refine Mod.setCell ?_ _ _ (.inr (Nat.le_refl _)))), Mod.at (S := []) (w := w3) (by repeat (first | exact D4 | with_reducible exact Mod.refl _ _ | with_reducible refine Mod.drew ?_ | with_reducible refine Mod.alloc ?_ _ | with_reducible refine Mod.setCell ?_ _ _ (.inr (Nat.le_refl _)))) Q3 (by simp), Mod.at (S := []) (w := w3) (by repeat (first | exact D4 | with_reducible exact Mod.refl _ _ | with_reducible refine Mod.drew ?_ | with_reducible refine Mod.alloc ?_ _ | with_reducible refine Mod.setCell ?_ _ _ (.inr (Nat.le_refl _)))) P3 (by simp), Mod.at (S := []) (w := w3) (by repeat (first | exact D4 | with_reducible exact Mod.refl _ _ | with_reducible refine Mod.drew ?_ | with_reducible refine Mod.alloc ?_ _ | with_reducible refine Mod.setCell ?_ _ _ (.inr (Nat.le_refl _)))) G3 (by simp)⟩
      case rest =>
        obtain ⟨g5, rfl, rfl, G5, W5, Q5, P5, G3'⟩ := hcut
        clear W3 P3 Q3 G3 q3 x1 p0 p1 p2 p3 p4 p5 Q5 P5
        have W8 := Lib.hid W5
        clear W5
        obtain ⟨w5, rfl⟩ : ∃ w5, w5 = wc := ⟨_, rfl⟩
        generalize s.tripE ce cl = er at *
        generalize s.tripV ce cl 0 = t0 at *
        generalize s.tripV ce cl 1 = t1 at *
        generalize s.tripV ce cl 2 = t2 at *
        have m0 : w5.cell? ⟨g3, 0, none⟩ = some (.int .u64 t0) := cell_of_blk G3' rfl
        have m1 : w5.cell? ⟨g3, 1, none⟩ = some (.int .u64 t1) := cell_of_blk G3' rfl
        have m2 : w5.cell? ⟨g3, 2, none⟩ = some (.int .u64 t2) := cell_of_blk G3' rfl
        have n0 : w5.cell? ⟨g5, 0, none⟩ = some (.int .u64 t0) := cell_of_blk G5 rfl
        have n1 : w5.cell? ⟨g5, 1, none⟩ = some (.int .u64 t1) := cell_of_blk G5 rfl
        have n2 : w5.cell? ⟨g5, 2, none⟩ = some (.int .u64 t2) := cell_of_blk G5 rfl
        go_wp2
        go_ret
        exact ⟨by simp, lab, _, _, _, _, _, _, _, _, _, _, _, _, _, _, _, _, _, W8.out, c0, c1, c2, c3⟩

end Go.Proofs.Ytobmgnoceacoaaa

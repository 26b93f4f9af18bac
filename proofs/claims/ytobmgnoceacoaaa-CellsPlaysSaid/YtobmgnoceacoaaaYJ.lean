/- CellsPlays: a reading, a writing begins on both sides. -/
import Derived.Test.YtobmgnoceacoaaaYI
import Derived.Deep.QuietTactic
import Derived.BigQuiet
import Derived.Deep.DeepCutAuto
import Derived.Deep.CutBlock
import Derived.Deep.RegionHeld3
import Derived.StillTailTactics
import Derived.IntWalk
namespace Go.Proofs.Ytobmgnoceacoaaa
open Go.RowKit
attribute [local go_sem] run_store_float

variable {w0 w w1 w' : World} {lab lab' : Nat → Nat} {x a b c d k g n : Nat} {r0 r1 d0 d1 u0 u1 e0 e1 v : Value} {s t s' : MemS} {R0 R1 : Option RdS} {D0 D1 : Option (RdS × List Int)} {U0 U1 E0 E1 : Option WrS} {r r' : RdS} {q q' : WrS} {u : Value} {L L' : List Int} {kr : Nat}

set_option maxRecDepth 100000 in
set_option maxHeartbeats 40000000 in
theorem begins_50 (h : W11 w0 w lab x a b c d r0 r1 d0 d1 u0 u1 e0 e1 s s R0 R1 D0 D1 U0 U1 E0 E1) (ii ce cl vv xx yy : Int) (la : Option Addr) (ln lc : Nat) :
    Calls Try.prog 137 #[.pointer (some ⟨x, 0, none⟩), .agg #[.int .i64 5, .int .i64 ii, .int .i64 ce, .int .i64 cl, .int .u64 vv, .int .u64 xx, .int .u64 yy, .slice la ln lc], .agg #[.int .i64 0, .int .i64 0, .int .i64 0, .int .i64 0, .int .i64 ce, .int .i64 0], .int .i64 0] w fun e w' => e = .returned (.bool true) ∧ ∃ lab' k kr, W11 w0 w' lab' x a b c d (.pointer (some ⟨k, 0, none⟩)) r1 (.pointer (some ⟨kr, 0, none⟩)) d1 u0 u1 e0 e1 s s (some (RdS.mk 0 0 0 0 ce 0 cl vv 0 0 0 0 false)) R1 (some ((RdS.mk 0 0 0 0 ce 0 cl vv 0 0 0 0 false), [])) D1 U0 U1 E0 E1 := by
  have Q1 : ((w.alloc (.cells #[.int .i64 5, .int .i64 ii, .int .i64 ce, .int .i64 cl, .int .u64 vv, .int .u64 xx, .int .u64 yy, .slice la ln lc] 138)).alloc (.cells #[.int .i64 0, .int .i64 0, .int .i64 0, .int .i64 0, .int .i64 ce, .int .i64 0] 35)).heap[w.heap.size]? = some (.cells #[.int .i64 5, .int .i64 ii, .int .i64 ce, .int .i64 cl, .int .u64 vv, .int .u64 xx, .int .u64 yy, .slice la ln lc] 138 (0, 0)) := blk_alloc_old _ (heap_alloc_new _ _)
  have P1 : ((w.alloc (.cells #[.int .i64 5, .int .i64 ii, .int .i64 ce, .int .i64 cl, .int .u64 vv, .int .u64 xx, .int .u64 yy, .slice la ln lc] 138)).alloc (.cells #[.int .i64 0, .int .i64 0, .int .i64 0, .int .i64 0, .int .i64 ce, .int .i64 0] 35)).heap[w.heap.size + 1]? = some (.cells #[.int .i64 0, .int .i64 0, .int .i64 0, .int .i64 0, .int .i64 ce, .int .i64 0] 35 (0, 0)) := blk2 w _ _
  have H1 := h.mod0 (((Mod.refl [] w).alloc (.cells #[.int .i64 5, .int .i64 ii, .int .i64 ce, .int .i64 cl, .int .u64 vv, .int .u64 xx, .int .u64 yy, .slice la ln lc] 138)).alloc (.cells #[.int .i64 0, .int .i64 0, .int .i64 0, .int .i64 0, .int .i64 ce, .int .i64 0] 35))
  have hgx := lt_of_block h.hx
  clear h
  go_enter Try.func137, Try.ntmps137
  go_upto_region 2 with fail
  generalize (w.alloc (.cells #[.int .i64 5, .int .i64 ii, .int .i64 ce, .int .i64 cl, .int .u64 vv, .int .u64 xx, .int .u64 yy, .slice la ln lc] 138)).alloc (.cells #[.int .i64 0, .int .i64 0, .int .i64 0, .int .i64 0, .int .i64 ce, .int .i64 0] 35) = w1 at *
  have hox : w.heap.size ≠ x := by omega
  have hpx : w.heap.size + 1 ≠ x := by omega
  clear hgx
  generalize w.heap.size + 1 = pb at *
  generalize w.heap.size = ob at *
  have fz := free_of_blk (i := 2) H1.hx
  have cx : w1.cell? ⟨x, 2, none⟩ = some (r0) := cell_of_blk H1.hx rfl
  have q3 : w1.cell? ⟨ob, 3, none⟩ = some (.int .i64 cl) := cell_of_blk Q1 rfl
  have q4 : w1.cell? ⟨ob, 4, none⟩ = some (.int .u64 vv) := cell_of_blk Q1 rfl
  have p0 : w1.cell? ⟨pb, 0, none⟩ = some (.int .i64 0) := cell_of_blk P1 rfl
  have p1 : w1.cell? ⟨pb, 1, none⟩ = some (.int .i64 0) := cell_of_blk P1 rfl
  have p2 : w1.cell? ⟨pb, 2, none⟩ = some (.int .i64 0) := cell_of_blk P1 rfl
  have p3 : w1.cell? ⟨pb, 3, none⟩ = some (.int .i64 0) := cell_of_blk P1 rfl
  have p4 : w1.cell? ⟨pb, 4, none⟩ = some (.int .i64 ce) := cell_of_blk P1 rfl
  have p5 : w1.cell? ⟨pb, 5, none⟩ = some (.int .i64 0) := cell_of_blk P1 rfl
  go_cut [19] (fun A wx => ∃ lab' k, A = (.pointer (some ⟨k, 0, none⟩)) ∧ W11 w0 wx lab' x a b c d (.pointer (some ⟨k, 0, none⟩)) r1 d0 d1 u0 u1 e0 e1 s s (some (RdS.mk 0 0 0 0 ce 0 cl vv 0 0 0 0 false)) R1 D0 D1 U0 U1 E0 E1 ∧ wx.heap[ob]? = some (.cells #[.int .i64 5, .int .i64 ii, .int .i64 ce, .int .i64 cl, .int .u64 vv, .int .u64 xx, .int .u64 yy, .slice la ln lc] 138 (0, 0)) ∧ wx.heap[pb]? = some (.cells #[.int .i64 0, .int .i64 0, .int .i64 0, .int .i64 0, .int .i64 ce, .int .i64 0] 35 (0, 0)))
  case first =>
    go_region_held3 (fun wx => wx.cell? ⟨pb, 0, none⟩ = some (.int .i64 0) ∧ wx.cell? ⟨pb, 1, none⟩ = some (.int .i64 0) ∧ wx.cell? ⟨pb, 2, none⟩ = some (.int .i64 0) ∧ wx.cell? ⟨pb, 3, none⟩ = some (.int .i64 0) ∧ wx.cell? ⟨pb, 4, none⟩ = some (.int .i64 ce) ∧ wx.cell? ⟨pb, 5, none⟩ = some (.int .i64 0) ∧ wx.cell? ⟨ob, 3, none⟩ = some (.int .i64 cl) ∧ wx.cell? ⟨ob, 4, none⟩ = some (.int .u64 vv)) (first | exact ⟨p0, p1, p2, p3, p4, p5, q3, q4⟩ | exact ⟨cell_of_blk P2 rfl, cell_of_blk P2 rfl, cell_of_blk P2 rfl, cell_of_blk P2 rfl, cell_of_blk P2 rfl, cell_of_blk P2 rfl, cell_of_blk Q2 rfl, cell_of_blk Q2 rfl⟩ | exact ⟨cell_of_blk P3 rfl, cell_of_blk P3 rfl, cell_of_blk P3 rfl, cell_of_blk P3 rfl, cell_of_blk P3 rfl, cell_of_blk P3 rfl, cell_of_blk Q3 rfl, cell_of_blk Q3 rfl⟩ | exact ⟨cell_drew (cell_of_blk P3 rfl), cell_drew (cell_of_blk P3 rfl), cell_drew (cell_of_blk P3 rfl), cell_drew (cell_of_blk P3 rfl), cell_drew (cell_of_blk P3 rfl), cell_drew (cell_of_blk P3 rfl), cell_drew (cell_of_blk Q3 rfl), cell_drew (cell_of_blk Q3 rfl)⟩)
      (first
        | (go_at_call 76; refine (read11 0 0 0 0 ce 0 cl vv _).mono ?_; rintro e w2 ⟨k, rfl, K2, gk, d2⟩; have H2 := (H1.mod0 (Mod.refl _ _).drew).fresh d2 3; have P2 := d2.at (k := pb) (o := .cells #[.int .i64 0, .int .i64 0, .int .i64 0, .int .i64 0, .int .i64 ce, .int .i64 0] 35 (0, 0)) P1 (by simp); have Q2 := d2.at (k := ob) (o := .cells #[.int .i64 5, .int .i64 ii, .int .i64 ce, .int .i64 cl, .int .u64 vv, .int .u64 xx, .int .u64 yy, .slice la ln lc] 138 (0, 0)) Q1 (by simp); have H3 := H2.put_r0 (v := (.pointer (some ⟨k, 0, none⟩))) (Z := (some (RdS.mk 0 0 0 0 ce 0 cl vv 0 0 0 0 false))) ⟨k, rfl, K2, relab_new gk⟩; have P3 := blk_setCell_other (.pointer (some ⟨k, 0, none⟩)) (b := x) (i := 2) P2 hpx; have Q3 := blk_setCell_other (.pointer (some ⟨k, 0, none⟩)) (b := x) (i := 2) Q2 hox; have fz := free_of_blk (i := 2) H2.hx; have cx : w2.cell? ⟨x, 2, none⟩ = some (r0) := cell_of_blk H2.hx rfl))
    all_goals
      go_wp2_with fail
      go_meet
      exact ⟨_, k, rfl, by first | exact H3 | exact H3.mod0 (Mod.refl _ _).drew, by first | exact Q3 | exact Q2, by first | exact P3 | exact P2⟩
  case rest =>
    obtain ⟨lab2, k, rfl, H4, Q4, P4⟩ := hcut
    clear p0 p1 p2 p3 p4 p5 q3 q4 fz cx H1 P1 Q1
    obtain ⟨w4, rfl⟩ : ∃ w4, w4 = wc := ⟨_, rfl⟩
    have fz := free_of_blk (i := 4) H4.hx
    have cx : w4.cell? ⟨x, 4, none⟩ = some (d0) := cell_of_blk H4.hx rfl
    have q3 : w4.cell? ⟨ob, 3, none⟩ = some (.int .i64 cl) := cell_of_blk Q4 rfl
    have q4 : w4.cell? ⟨ob, 4, none⟩ = some (.int .u64 vv) := cell_of_blk Q4 rfl
    have p0 : w4.cell? ⟨pb, 0, none⟩ = some (.int .i64 0) := cell_of_blk P4 rfl
    have p1 : w4.cell? ⟨pb, 1, none⟩ = some (.int .i64 0) := cell_of_blk P4 rfl
    have p2 : w4.cell? ⟨pb, 2, none⟩ = some (.int .i64 0) := cell_of_blk P4 rfl
    have p3 : w4.cell? ⟨pb, 3, none⟩ = some (.int .i64 0) := cell_of_blk P4 rfl
    have p4 : w4.cell? ⟨pb, 4, none⟩ = some (.int .i64 ce) := cell_of_blk P4 rfl
    have p5 : w4.cell? ⟨pb, 5, none⟩ = some (.int .i64 0) := cell_of_blk P4 rfl
    go_upto_region 3 with fail
    go_cut [30] (fun A wx => ∃ lab' kr, A = (.pointer (some ⟨kr, 0, none⟩)) ∧ W11 w0 wx lab' x a b c d (.pointer (some ⟨k, 0, none⟩)) r1 (.pointer (some ⟨kr, 0, none⟩)) d1 u0 u1 e0 e1 s s (some (RdS.mk 0 0 0 0 ce 0 cl vv 0 0 0 0 false)) R1 (some ((RdS.mk 0 0 0 0 ce 0 cl vv 0 0 0 0 false), [])) D1 U0 U1 E0 E1 ∧ wx.heap[ob]? = some (.cells #[.int .i64 5, .int .i64 ii, .int .i64 ce, .int .i64 cl, .int .u64 vv, .int .u64 xx, .int .u64 yy, .slice la ln lc] 138 (0, 0)) ∧ wx.heap[pb]? = some (.cells #[.int .i64 0, .int .i64 0, .int .i64 0, .int .i64 0, .int .i64 ce, .int .i64 0] 35 (0, 0)))
    case first =>
      go_region_held3 (fun wx => wx.cell? ⟨pb, 0, none⟩ = some (.int .i64 0) ∧ wx.cell? ⟨pb, 1, none⟩ = some (.int .i64 0) ∧ wx.cell? ⟨pb, 2, none⟩ = some (.int .i64 0) ∧ wx.cell? ⟨pb, 3, none⟩ = some (.int .i64 0) ∧ wx.cell? ⟨pb, 4, none⟩ = some (.int .i64 ce) ∧ wx.cell? ⟨pb, 5, none⟩ = some (.int .i64 0) ∧ wx.cell? ⟨ob, 3, none⟩ = some (.int .i64 cl) ∧ wx.cell? ⟨ob, 4, none⟩ = some (.int .u64 vv)) (first | exact ⟨p0, p1, p2, p3, p4, p5, q3, q4⟩ | exact ⟨cell_of_blk P2 rfl, cell_of_blk P2 rfl, cell_of_blk P2 rfl, cell_of_blk P2 rfl, cell_of_blk P2 rfl, cell_of_blk P2 rfl, cell_of_blk Q2 rfl, cell_of_blk Q2 rfl⟩ | exact ⟨cell_of_blk P3 rfl, cell_of_blk P3 rfl, cell_of_blk P3 rfl, cell_of_blk P3 rfl, cell_of_blk P3 rfl, cell_of_blk P3 rfl, cell_of_blk Q3 rfl, cell_of_blk Q3 rfl⟩ | exact ⟨cell_drew (cell_of_blk P3 rfl), cell_drew (cell_of_blk P3 rfl), cell_drew (cell_of_blk P3 rfl), cell_drew (cell_of_blk P3 rfl), cell_drew (cell_of_blk P3 rfl), cell_drew (cell_of_blk P3 rfl), cell_drew (cell_of_blk Q3 rfl), cell_drew (cell_of_blk Q3 rfl)⟩)
        (first
        | (go_at_call 158; refine (read_r 0 0 0 0 ce 0 cl vv _).mono ?_; rintro e w2 ⟨kr, rfl, K2, gk, d2⟩; have H2 := (H4.mod0 (Mod.refl _ _).drew).fresh d2 5; have P2 := d2.at (k := pb) (o := .cells #[.int .i64 0, .int .i64 0, .int .i64 0, .int .i64 0, .int .i64 ce, .int .i64 0] 35 (0, 0)) P4 (by simp); have Q2 := d2.at (k := ob) (o := .cells #[.int .i64 5, .int .i64 ii, .int .i64 ce, .int .i64 cl, .int .u64 vv, .int .u64 xx, .int .u64 yy, .slice la ln lc] 138 (0, 0)) Q4 (by simp); have H3 := H2.put_d0 (v := (.pointer (some ⟨kr, 0, none⟩))) (Z := (some ((RdS.mk 0 0 0 0 ce 0 cl vv 0 0 0 0 false), []))) ⟨kr, _, rfl, K2, relab_new gk, fun g hg => by simp [Value.ownBlock] at hg⟩; have P3 := blk_setCell_other (.pointer (some ⟨kr, 0, none⟩)) (b := x) (i := 4) P2 hpx; have Q3 := blk_setCell_other (.pointer (some ⟨kr, 0, none⟩)) (b := x) (i := 4) Q2 hox; have fz := free_of_blk (i := 4) H2.hx; have cx : w2.cell? ⟨x, 4, none⟩ = some (d0) := cell_of_blk H2.hx rfl))
      all_goals
        go_wp2_with fail
        go_meet
        exact ⟨_, kr, rfl, by first | exact H3 | exact H3.mod0 (Mod.refl _ _).drew, by first | exact Q3 | exact Q2, by first | exact P3 | exact P2⟩
    case rest =>
      obtain ⟨lab5, kr, rfl, H5, Q5, P5⟩ := hcut
      clear p0 p1 p2 p3 p4 p5 q3 q4 fz cx H4 P4 Q4
      obtain ⟨w5, rfl⟩ : ∃ w5, w5 = wc := ⟨_, rfl⟩
      have x2 : w5.cell? ⟨x, 2, none⟩ = some (.pointer (some ⟨k, 0, none⟩)) := cell_of_blk H5.hx rfl
      obtain ⟨k', hk, K, lk⟩ := H5.c_r0
      obtain rfl : k = k' := by simpa using hk
      clear hk lk
      go_wp2_with fail
      refine (rvalue_c _ K).mono ?_; rintro e w6 ⟨rfl, hw6⟩
      have hw6' := hw6.symm
      subst hw6'
      clear hw6
      rw [show RdS.value (RdS.mk 0 0 0 0 ce 0 cl vv 0 0 0 0 false) = 0 from rfl]
      go_wp2_with fail
      refine (exact_c 0 _).mono ?_; rintro e w6 ⟨rfl, hw6⟩
      have hw6' := hw6.symm
      subst hw6'
      clear hw6
      go_wp2_with fail
      refine (rsteps_c _ K).mono ?_; rintro e w6 ⟨rfl, hw6⟩
      have hw6' := hw6.symm
      subst hw6'
      clear hw6
      rw [show RdS.sp (RdS.mk 0 0 0 0 ce 0 cl vv 0 0 0 0 false) = 0 from rfl]
      go_wp2_with fail
      refine (rtorn_c _ K).mono ?_; rintro e w6 ⟨rfl, hw6⟩
      have hw6' := hw6.symm
      subst hw6'
      clear hw6
      rw [show RdS.tn (RdS.mk 0 0 0 0 ce 0 cl vv 0 0 0 0 false) = false from rfl]
      go_wp2
      go_ret
      exact ⟨rfl, _, _, _, H5⟩

set_option maxRecDepth 100000 in
set_option maxHeartbeats 40000000 in
theorem begins_70 (h : W11 w0 w lab x a b c d r0 r1 d0 d1 u0 u1 e0 e1 s s R0 R1 D0 D1 U0 U1 E0 E1) (ii ce cl vv xx yy : Int) (la : Option Addr) (ln lc : Nat) :
    Calls Try.prog 137 #[.pointer (some ⟨x, 0, none⟩), .agg #[.int .i64 7, .int .i64 ii, .int .i64 ce, .int .i64 cl, .int .u64 vv, .int .u64 xx, .int .u64 yy, .slice la ln lc], .agg #[.int .i64 0, .int .i64 0, .int .i64 0, .int .i64 0, .int .i64 ce, .int .i64 0], .int .i64 0] w fun e w' => e = .returned (.bool true) ∧ ∃ lab' k kr, W11 w0 w' lab' x a b c d r0 r1 d0 d1 (.pointer (some ⟨k, 0, none⟩)) u1 (.pointer (some ⟨kr, 0, none⟩)) e1 s s R0 R1 D0 D1 (some (WrS.mk 0 0 0 0 ce 0 cl (fixB xx.toNat : Int) vv (fixB yy.toNat : Int) 0)) U1 (some (WrS.mk 0 0 0 0 ce 0 cl (fixB xx.toNat : Int) vv (fixB yy.toNat : Int) 0)) E1 := by
  have Q1 : ((w.alloc (.cells #[.int .i64 7, .int .i64 ii, .int .i64 ce, .int .i64 cl, .int .u64 vv, .int .u64 xx, .int .u64 yy, .slice la ln lc] 138)).alloc (.cells #[.int .i64 0, .int .i64 0, .int .i64 0, .int .i64 0, .int .i64 ce, .int .i64 0] 35)).heap[w.heap.size]? = some (.cells #[.int .i64 7, .int .i64 ii, .int .i64 ce, .int .i64 cl, .int .u64 vv, .int .u64 xx, .int .u64 yy, .slice la ln lc] 138 (0, 0)) := blk_alloc_old _ (heap_alloc_new _ _)
  have P1 : ((w.alloc (.cells #[.int .i64 7, .int .i64 ii, .int .i64 ce, .int .i64 cl, .int .u64 vv, .int .u64 xx, .int .u64 yy, .slice la ln lc] 138)).alloc (.cells #[.int .i64 0, .int .i64 0, .int .i64 0, .int .i64 0, .int .i64 ce, .int .i64 0] 35)).heap[w.heap.size + 1]? = some (.cells #[.int .i64 0, .int .i64 0, .int .i64 0, .int .i64 0, .int .i64 ce, .int .i64 0] 35 (0, 0)) := blk2 w _ _
  have H1 := h.mod0 (((Mod.refl [] w).alloc (.cells #[.int .i64 7, .int .i64 ii, .int .i64 ce, .int .i64 cl, .int .u64 vv, .int .u64 xx, .int .u64 yy, .slice la ln lc] 138)).alloc (.cells #[.int .i64 0, .int .i64 0, .int .i64 0, .int .i64 0, .int .i64 ce, .int .i64 0] 35))
  have hgx := lt_of_block h.hx
  clear h
  go_enter Try.func137, Try.ntmps137
  go_upto_region 5 with fail
  generalize (w.alloc (.cells #[.int .i64 7, .int .i64 ii, .int .i64 ce, .int .i64 cl, .int .u64 vv, .int .u64 xx, .int .u64 yy, .slice la ln lc] 138)).alloc (.cells #[.int .i64 0, .int .i64 0, .int .i64 0, .int .i64 0, .int .i64 ce, .int .i64 0] 35) = w1 at *
  have hox : w.heap.size ≠ x := by omega
  have hpx : w.heap.size + 1 ≠ x := by omega
  clear hgx
  generalize w.heap.size + 1 = pb at *
  generalize w.heap.size = ob at *
  have fz := free_of_blk (i := 6) H1.hx
  have cx : w1.cell? ⟨x, 6, none⟩ = some (u0) := cell_of_blk H1.hx rfl
  have q3 : w1.cell? ⟨ob, 3, none⟩ = some (.int .i64 cl) := cell_of_blk Q1 rfl
  have q4 : w1.cell? ⟨ob, 4, none⟩ = some (.int .u64 vv) := cell_of_blk Q1 rfl
  have q5 : w1.cell? ⟨ob, 5, none⟩ = some (.int .u64 xx) := cell_of_blk Q1 rfl
  have q6 : w1.cell? ⟨ob, 6, none⟩ = some (.int .u64 yy) := cell_of_blk Q1 rfl
  have p0 : w1.cell? ⟨pb, 0, none⟩ = some (.int .i64 0) := cell_of_blk P1 rfl
  have p1 : w1.cell? ⟨pb, 1, none⟩ = some (.int .i64 0) := cell_of_blk P1 rfl
  have p2 : w1.cell? ⟨pb, 2, none⟩ = some (.int .i64 0) := cell_of_blk P1 rfl
  have p3 : w1.cell? ⟨pb, 3, none⟩ = some (.int .i64 0) := cell_of_blk P1 rfl
  have p4 : w1.cell? ⟨pb, 4, none⟩ = some (.int .i64 ce) := cell_of_blk P1 rfl
  have p5 : w1.cell? ⟨pb, 5, none⟩ = some (.int .i64 0) := cell_of_blk P1 rfl
  go_cut [84] (fun A wx => ∃ lab' k, A = (.pointer (some ⟨k, 0, none⟩)) ∧ W11 w0 wx lab' x a b c d r0 r1 d0 d1 (.pointer (some ⟨k, 0, none⟩)) u1 e0 e1 s s R0 R1 D0 D1 (some (WrS.mk 0 0 0 0 ce 0 cl (fixB xx.toNat : Int) vv (fixB yy.toNat : Int) 0)) U1 E0 E1 ∧ wx.heap[ob]? = some (.cells #[.int .i64 7, .int .i64 ii, .int .i64 ce, .int .i64 cl, .int .u64 vv, .int .u64 xx, .int .u64 yy, .slice la ln lc] 138 (0, 0)) ∧ wx.heap[pb]? = some (.cells #[.int .i64 0, .int .i64 0, .int .i64 0, .int .i64 0, .int .i64 ce, .int .i64 0] 35 (0, 0)))
  case first =>
    go_region_held3 (fun wx => wx.cell? ⟨pb, 0, none⟩ = some (.int .i64 0) ∧ wx.cell? ⟨pb, 1, none⟩ = some (.int .i64 0) ∧ wx.cell? ⟨pb, 2, none⟩ = some (.int .i64 0) ∧ wx.cell? ⟨pb, 3, none⟩ = some (.int .i64 0) ∧ wx.cell? ⟨pb, 4, none⟩ = some (.int .i64 ce) ∧ wx.cell? ⟨pb, 5, none⟩ = some (.int .i64 0) ∧ wx.cell? ⟨ob, 3, none⟩ = some (.int .i64 cl) ∧ wx.cell? ⟨ob, 4, none⟩ = some (.int .u64 vv) ∧ wx.cell? ⟨ob, 5, none⟩ = some (.int .u64 xx) ∧ wx.cell? ⟨ob, 6, none⟩ = some (.int .u64 yy)) (first | exact ⟨p0, p1, p2, p3, p4, p5, q3, q4, q5, q6⟩ | exact ⟨cell_of_blk P2 rfl, cell_of_blk P2 rfl, cell_of_blk P2 rfl, cell_of_blk P2 rfl, cell_of_blk P2 rfl, cell_of_blk P2 rfl, cell_of_blk Q2 rfl, cell_of_blk Q2 rfl, cell_of_blk Q2 rfl, cell_of_blk Q2 rfl⟩ | exact ⟨cell_of_blk P3 rfl, cell_of_blk P3 rfl, cell_of_blk P3 rfl, cell_of_blk P3 rfl, cell_of_blk P3 rfl, cell_of_blk P3 rfl, cell_of_blk Q3 rfl, cell_of_blk Q3 rfl, cell_of_blk Q3 rfl, cell_of_blk Q3 rfl⟩ | exact ⟨cell_drew (cell_of_blk P3 rfl), cell_drew (cell_of_blk P3 rfl), cell_drew (cell_of_blk P3 rfl), cell_drew (cell_of_blk P3 rfl), cell_drew (cell_of_blk P3 rfl), cell_drew (cell_of_blk P3 rfl), cell_drew (cell_of_blk Q3 rfl), cell_drew (cell_of_blk Q3 rfl), cell_drew (cell_of_blk Q3 rfl), cell_drew (cell_of_blk Q3 rfl)⟩)
      (first
        | (go_at_call 75; first | (refine (raw_c xx _).mono ?_; rintro e w9 ⟨rfl, rfl⟩) | (refine (raw_c yy _).mono ?_; rintro e w9 ⟨rfl, rfl⟩))
        | (go_at_call 77; refine (write11 0 0 0 0 ce 0 cl vv xx.toNat yy.toNat _).mono ?_; rintro e w2 ⟨k, rfl, K2, gk, d2⟩; have H2 := (H1.mod0 (Mod.refl _ _).drew).fresh d2 7; have P2 := d2.at (k := pb) (o := .cells #[.int .i64 0, .int .i64 0, .int .i64 0, .int .i64 0, .int .i64 ce, .int .i64 0] 35 (0, 0)) P1 (by simp); have Q2 := d2.at (k := ob) (o := .cells #[.int .i64 7, .int .i64 ii, .int .i64 ce, .int .i64 cl, .int .u64 vv, .int .u64 xx, .int .u64 yy, .slice la ln lc] 138 (0, 0)) Q1 (by simp); have H3 := H2.put_u0 (v := (.pointer (some ⟨k, 0, none⟩))) (Z := (some (WrS.mk 0 0 0 0 ce 0 cl (fixB xx.toNat : Int) vv (fixB yy.toNat : Int) 0))) ⟨k, rfl, K2, relab_new gk⟩; have P3 := blk_setCell_other (.pointer (some ⟨k, 0, none⟩)) (b := x) (i := 6) P2 hpx; have Q3 := blk_setCell_other (.pointer (some ⟨k, 0, none⟩)) (b := x) (i := 6) Q2 hox; have fz := free_of_blk (i := 6) H2.hx; have cx : w2.cell? ⟨x, 6, none⟩ = some (u0) := cell_of_blk H2.hx rfl))
    all_goals
      go_wp2_with fail
      go_meet
      exact ⟨_, k, rfl, by first | exact H3 | exact H3.mod0 (Mod.refl _ _).drew, by first | exact Q3 | exact Q2, by first | exact P3 | exact P2⟩
  case rest =>
    obtain ⟨lab2, k, rfl, H4, Q4, P4⟩ := hcut
    clear p0 p1 p2 p3 p4 p5 q3 q4 q5 q6 fz cx H1 P1 Q1
    obtain ⟨w4, rfl⟩ : ∃ w4, w4 = wc := ⟨_, rfl⟩
    have fz := free_of_blk (i := 8) H4.hx
    have cx : w4.cell? ⟨x, 8, none⟩ = some (e0) := cell_of_blk H4.hx rfl
    have q3 : w4.cell? ⟨ob, 3, none⟩ = some (.int .i64 cl) := cell_of_blk Q4 rfl
    have q4 : w4.cell? ⟨ob, 4, none⟩ = some (.int .u64 vv) := cell_of_blk Q4 rfl
    have q5 : w4.cell? ⟨ob, 5, none⟩ = some (.int .u64 xx) := cell_of_blk Q4 rfl
    have q6 : w4.cell? ⟨ob, 6, none⟩ = some (.int .u64 yy) := cell_of_blk Q4 rfl
    have p0 : w4.cell? ⟨pb, 0, none⟩ = some (.int .i64 0) := cell_of_blk P4 rfl
    have p1 : w4.cell? ⟨pb, 1, none⟩ = some (.int .i64 0) := cell_of_blk P4 rfl
    have p2 : w4.cell? ⟨pb, 2, none⟩ = some (.int .i64 0) := cell_of_blk P4 rfl
    have p3 : w4.cell? ⟨pb, 3, none⟩ = some (.int .i64 0) := cell_of_blk P4 rfl
    have p4 : w4.cell? ⟨pb, 4, none⟩ = some (.int .i64 ce) := cell_of_blk P4 rfl
    have p5 : w4.cell? ⟨pb, 5, none⟩ = some (.int .i64 0) := cell_of_blk P4 rfl
    go_upto_region 6 with fail
    go_cut [101] (fun A wx => ∃ lab' kr, A = (.pointer (some ⟨kr, 0, none⟩)) ∧ W11 w0 wx lab' x a b c d r0 r1 d0 d1 (.pointer (some ⟨k, 0, none⟩)) u1 (.pointer (some ⟨kr, 0, none⟩)) e1 s s R0 R1 D0 D1 (some (WrS.mk 0 0 0 0 ce 0 cl (fixB xx.toNat : Int) vv (fixB yy.toNat : Int) 0)) U1 (some (WrS.mk 0 0 0 0 ce 0 cl (fixB xx.toNat : Int) vv (fixB yy.toNat : Int) 0)) E1 ∧ wx.heap[ob]? = some (.cells #[.int .i64 7, .int .i64 ii, .int .i64 ce, .int .i64 cl, .int .u64 vv, .int .u64 xx, .int .u64 yy, .slice la ln lc] 138 (0, 0)) ∧ wx.heap[pb]? = some (.cells #[.int .i64 0, .int .i64 0, .int .i64 0, .int .i64 0, .int .i64 ce, .int .i64 0] 35 (0, 0)))
    case first =>
      go_region_held3 (fun wx => wx.cell? ⟨pb, 0, none⟩ = some (.int .i64 0) ∧ wx.cell? ⟨pb, 1, none⟩ = some (.int .i64 0) ∧ wx.cell? ⟨pb, 2, none⟩ = some (.int .i64 0) ∧ wx.cell? ⟨pb, 3, none⟩ = some (.int .i64 0) ∧ wx.cell? ⟨pb, 4, none⟩ = some (.int .i64 ce) ∧ wx.cell? ⟨pb, 5, none⟩ = some (.int .i64 0) ∧ wx.cell? ⟨ob, 3, none⟩ = some (.int .i64 cl) ∧ wx.cell? ⟨ob, 4, none⟩ = some (.int .u64 vv) ∧ wx.cell? ⟨ob, 5, none⟩ = some (.int .u64 xx) ∧ wx.cell? ⟨ob, 6, none⟩ = some (.int .u64 yy)) (first | exact ⟨p0, p1, p2, p3, p4, p5, q3, q4, q5, q6⟩ | exact ⟨cell_of_blk P2 rfl, cell_of_blk P2 rfl, cell_of_blk P2 rfl, cell_of_blk P2 rfl, cell_of_blk P2 rfl, cell_of_blk P2 rfl, cell_of_blk Q2 rfl, cell_of_blk Q2 rfl, cell_of_blk Q2 rfl, cell_of_blk Q2 rfl⟩ | exact ⟨cell_of_blk P3 rfl, cell_of_blk P3 rfl, cell_of_blk P3 rfl, cell_of_blk P3 rfl, cell_of_blk P3 rfl, cell_of_blk P3 rfl, cell_of_blk Q3 rfl, cell_of_blk Q3 rfl, cell_of_blk Q3 rfl, cell_of_blk Q3 rfl⟩ | exact ⟨cell_drew (cell_of_blk P3 rfl), cell_drew (cell_of_blk P3 rfl), cell_drew (cell_of_blk P3 rfl), cell_drew (cell_of_blk P3 rfl), cell_drew (cell_of_blk P3 rfl), cell_drew (cell_of_blk P3 rfl), cell_drew (cell_of_blk Q3 rfl), cell_drew (cell_of_blk Q3 rfl), cell_drew (cell_of_blk Q3 rfl), cell_drew (cell_of_blk Q3 rfl)⟩)
        (first
        | (go_at_call 75; first | (refine (raw_c xx _).mono ?_; rintro e w9 ⟨rfl, rfl⟩) | (refine (raw_c yy _).mono ?_; rintro e w9 ⟨rfl, rfl⟩))
        | (go_at_call 159; refine (write_r 0 0 0 0 ce 0 cl vv xx.toNat yy.toNat _).mono ?_; rintro e w2 ⟨kr, g, rfl, K2, gk, gg, d2⟩; have H2 := (H4.mod0 (Mod.refl _ _).drew).fresh d2 9; have P2 := d2.at (k := pb) (o := .cells #[.int .i64 0, .int .i64 0, .int .i64 0, .int .i64 0, .int .i64 ce, .int .i64 0] 35 (0, 0)) P4 (by simp); have Q2 := d2.at (k := ob) (o := .cells #[.int .i64 7, .int .i64 ii, .int .i64 ce, .int .i64 cl, .int .u64 vv, .int .u64 xx, .int .u64 yy, .slice la ln lc] 138 (0, 0)) Q4 (by simp); have H3 := H2.put_e0 (v := (.pointer (some ⟨kr, 0, none⟩))) (Z := (some (WrS.mk 0 0 0 0 ce 0 cl (fixB xx.toNat : Int) vv (fixB yy.toNat : Int) 0))) ⟨kr, g, rfl, K2, relab_new gk, relab_new gg⟩; have P3 := blk_setCell_other (.pointer (some ⟨kr, 0, none⟩)) (b := x) (i := 8) P2 hpx; have Q3 := blk_setCell_other (.pointer (some ⟨kr, 0, none⟩)) (b := x) (i := 8) Q2 hox; have fz := free_of_blk (i := 8) H2.hx; have cx : w2.cell? ⟨x, 8, none⟩ = some (e0) := cell_of_blk H2.hx rfl))
      all_goals
        go_wp2_with fail
        go_meet
        exact ⟨_, kr, rfl, by first | exact H3 | exact H3.mod0 (Mod.refl _ _).drew, by first | exact Q3 | exact Q2, by first | exact P3 | exact P2⟩
    case rest =>
      obtain ⟨lab5, kr, rfl, H5, Q5, P5⟩ := hcut
      clear p0 p1 p2 p3 p4 p5 q3 q4 q5 q6 fz cx H4 P4 Q4
      obtain ⟨w5, rfl⟩ : ∃ w5, w5 = wc := ⟨_, rfl⟩
      have x2 : w5.cell? ⟨x, 6, none⟩ = some (.pointer (some ⟨k, 0, none⟩)) := cell_of_blk H5.hx rfl
      go_wp2
      go_ret
      exact ⟨rfl, _, _, _, H5⟩

set_option maxRecDepth 100000 in
set_option maxHeartbeats 40000000 in
theorem begins_51 (h : W11 w0 w lab x a b c d r0 r1 d0 d1 u0 u1 e0 e1 s s R0 R1 D0 D1 U0 U1 E0 E1) (ii ce cl vv xx yy : Int) (la : Option Addr) (ln lc : Nat) :
    Calls Try.prog 137 #[.pointer (some ⟨x, 0, none⟩), .agg #[.int .i64 5, .int .i64 ii, .int .i64 ce, .int .i64 cl, .int .u64 vv, .int .u64 xx, .int .u64 yy, .slice la ln lc], .agg #[.int .i64 0, .int .i64 0, .int .i64 0, .int .i64 0, .int .i64 ce, .int .i64 0], .int .i64 1] w fun e w' => e = .returned (.bool true) ∧ ∃ lab' k kr, W11 w0 w' lab' x a b c d r0 (.pointer (some ⟨k, 0, none⟩)) d0 (.pointer (some ⟨kr, 0, none⟩)) u0 u1 e0 e1 s s R0 (some (RdS.mk 0 0 0 0 ce 0 cl vv 0 0 0 0 false)) D0 (some ((RdS.mk 0 0 0 0 ce 0 cl vv 0 0 0 0 false), [])) U0 U1 E0 E1 := by
  have Q1 : ((w.alloc (.cells #[.int .i64 5, .int .i64 ii, .int .i64 ce, .int .i64 cl, .int .u64 vv, .int .u64 xx, .int .u64 yy, .slice la ln lc] 138)).alloc (.cells #[.int .i64 0, .int .i64 0, .int .i64 0, .int .i64 0, .int .i64 ce, .int .i64 0] 35)).heap[w.heap.size]? = some (.cells #[.int .i64 5, .int .i64 ii, .int .i64 ce, .int .i64 cl, .int .u64 vv, .int .u64 xx, .int .u64 yy, .slice la ln lc] 138 (0, 0)) := blk_alloc_old _ (heap_alloc_new _ _)
  have P1 : ((w.alloc (.cells #[.int .i64 5, .int .i64 ii, .int .i64 ce, .int .i64 cl, .int .u64 vv, .int .u64 xx, .int .u64 yy, .slice la ln lc] 138)).alloc (.cells #[.int .i64 0, .int .i64 0, .int .i64 0, .int .i64 0, .int .i64 ce, .int .i64 0] 35)).heap[w.heap.size + 1]? = some (.cells #[.int .i64 0, .int .i64 0, .int .i64 0, .int .i64 0, .int .i64 ce, .int .i64 0] 35 (0, 0)) := blk2 w _ _
  have H1 := h.mod0 (((Mod.refl [] w).alloc (.cells #[.int .i64 5, .int .i64 ii, .int .i64 ce, .int .i64 cl, .int .u64 vv, .int .u64 xx, .int .u64 yy, .slice la ln lc] 138)).alloc (.cells #[.int .i64 0, .int .i64 0, .int .i64 0, .int .i64 0, .int .i64 ce, .int .i64 0] 35))
  have hgx := lt_of_block h.hx
  clear h
  go_enter Try.func137, Try.ntmps137
  go_upto_region 2 with fail
  generalize (w.alloc (.cells #[.int .i64 5, .int .i64 ii, .int .i64 ce, .int .i64 cl, .int .u64 vv, .int .u64 xx, .int .u64 yy, .slice la ln lc] 138)).alloc (.cells #[.int .i64 0, .int .i64 0, .int .i64 0, .int .i64 0, .int .i64 ce, .int .i64 0] 35) = w1 at *
  have hox : w.heap.size ≠ x := by omega
  have hpx : w.heap.size + 1 ≠ x := by omega
  clear hgx
  generalize w.heap.size + 1 = pb at *
  generalize w.heap.size = ob at *
  have fz := free_of_blk (i := 3) H1.hx
  have cx : w1.cell? ⟨x, 3, none⟩ = some (r1) := cell_of_blk H1.hx rfl
  have q3 : w1.cell? ⟨ob, 3, none⟩ = some (.int .i64 cl) := cell_of_blk Q1 rfl
  have q4 : w1.cell? ⟨ob, 4, none⟩ = some (.int .u64 vv) := cell_of_blk Q1 rfl
  have p0 : w1.cell? ⟨pb, 0, none⟩ = some (.int .i64 0) := cell_of_blk P1 rfl
  have p1 : w1.cell? ⟨pb, 1, none⟩ = some (.int .i64 0) := cell_of_blk P1 rfl
  have p2 : w1.cell? ⟨pb, 2, none⟩ = some (.int .i64 0) := cell_of_blk P1 rfl
  have p3 : w1.cell? ⟨pb, 3, none⟩ = some (.int .i64 0) := cell_of_blk P1 rfl
  have p4 : w1.cell? ⟨pb, 4, none⟩ = some (.int .i64 ce) := cell_of_blk P1 rfl
  have p5 : w1.cell? ⟨pb, 5, none⟩ = some (.int .i64 0) := cell_of_blk P1 rfl
  go_cut [19] (fun A wx => ∃ lab' k, A = (.pointer (some ⟨k, 0, none⟩)) ∧ W11 w0 wx lab' x a b c d r0 (.pointer (some ⟨k, 0, none⟩)) d0 d1 u0 u1 e0 e1 s s R0 (some (RdS.mk 0 0 0 0 ce 0 cl vv 0 0 0 0 false)) D0 D1 U0 U1 E0 E1 ∧ wx.heap[ob]? = some (.cells #[.int .i64 5, .int .i64 ii, .int .i64 ce, .int .i64 cl, .int .u64 vv, .int .u64 xx, .int .u64 yy, .slice la ln lc] 138 (0, 0)) ∧ wx.heap[pb]? = some (.cells #[.int .i64 0, .int .i64 0, .int .i64 0, .int .i64 0, .int .i64 ce, .int .i64 0] 35 (0, 0)))
  case first =>
    go_region_held3 (fun wx => wx.cell? ⟨pb, 0, none⟩ = some (.int .i64 0) ∧ wx.cell? ⟨pb, 1, none⟩ = some (.int .i64 0) ∧ wx.cell? ⟨pb, 2, none⟩ = some (.int .i64 0) ∧ wx.cell? ⟨pb, 3, none⟩ = some (.int .i64 0) ∧ wx.cell? ⟨pb, 4, none⟩ = some (.int .i64 ce) ∧ wx.cell? ⟨pb, 5, none⟩ = some (.int .i64 0) ∧ wx.cell? ⟨ob, 3, none⟩ = some (.int .i64 cl) ∧ wx.cell? ⟨ob, 4, none⟩ = some (.int .u64 vv)) (first | exact ⟨p0, p1, p2, p3, p4, p5, q3, q4⟩ | exact ⟨cell_of_blk P2 rfl, cell_of_blk P2 rfl, cell_of_blk P2 rfl, cell_of_blk P2 rfl, cell_of_blk P2 rfl, cell_of_blk P2 rfl, cell_of_blk Q2 rfl, cell_of_blk Q2 rfl⟩ | exact ⟨cell_of_blk P3 rfl, cell_of_blk P3 rfl, cell_of_blk P3 rfl, cell_of_blk P3 rfl, cell_of_blk P3 rfl, cell_of_blk P3 rfl, cell_of_blk Q3 rfl, cell_of_blk Q3 rfl⟩ | exact ⟨cell_drew (cell_of_blk P3 rfl), cell_drew (cell_of_blk P3 rfl), cell_drew (cell_of_blk P3 rfl), cell_drew (cell_of_blk P3 rfl), cell_drew (cell_of_blk P3 rfl), cell_drew (cell_of_blk P3 rfl), cell_drew (cell_of_blk Q3 rfl), cell_drew (cell_of_blk Q3 rfl)⟩)
      (first
        | (go_at_call 76; refine (read11 0 0 0 0 ce 0 cl vv _).mono ?_; rintro e w2 ⟨k, rfl, K2, gk, d2⟩; have H2 := (H1.mod0 (Mod.refl _ _).drew).fresh d2 4; have P2 := d2.at (k := pb) (o := .cells #[.int .i64 0, .int .i64 0, .int .i64 0, .int .i64 0, .int .i64 ce, .int .i64 0] 35 (0, 0)) P1 (by simp); have Q2 := d2.at (k := ob) (o := .cells #[.int .i64 5, .int .i64 ii, .int .i64 ce, .int .i64 cl, .int .u64 vv, .int .u64 xx, .int .u64 yy, .slice la ln lc] 138 (0, 0)) Q1 (by simp); have H3 := H2.put_r1 (v := (.pointer (some ⟨k, 0, none⟩))) (Z := (some (RdS.mk 0 0 0 0 ce 0 cl vv 0 0 0 0 false))) ⟨k, rfl, K2, relab_new gk⟩; have P3 := blk_setCell_other (.pointer (some ⟨k, 0, none⟩)) (b := x) (i := 3) P2 hpx; have Q3 := blk_setCell_other (.pointer (some ⟨k, 0, none⟩)) (b := x) (i := 3) Q2 hox; have fz := free_of_blk (i := 3) H2.hx; have cx : w2.cell? ⟨x, 3, none⟩ = some (r1) := cell_of_blk H2.hx rfl))
    all_goals
      go_wp2_with fail
      go_meet
      exact ⟨_, k, rfl, by first | exact H3 | exact H3.mod0 (Mod.refl _ _).drew, by first | exact Q3 | exact Q2, by first | exact P3 | exact P2⟩
  case rest =>
    obtain ⟨lab2, k, rfl, H4, Q4, P4⟩ := hcut
    clear p0 p1 p2 p3 p4 p5 q3 q4 fz cx H1 P1 Q1
    obtain ⟨w4, rfl⟩ : ∃ w4, w4 = wc := ⟨_, rfl⟩
    have fz := free_of_blk (i := 5) H4.hx
    have cx : w4.cell? ⟨x, 5, none⟩ = some (d1) := cell_of_blk H4.hx rfl
    have q3 : w4.cell? ⟨ob, 3, none⟩ = some (.int .i64 cl) := cell_of_blk Q4 rfl
    have q4 : w4.cell? ⟨ob, 4, none⟩ = some (.int .u64 vv) := cell_of_blk Q4 rfl
    have p0 : w4.cell? ⟨pb, 0, none⟩ = some (.int .i64 0) := cell_of_blk P4 rfl
    have p1 : w4.cell? ⟨pb, 1, none⟩ = some (.int .i64 0) := cell_of_blk P4 rfl
    have p2 : w4.cell? ⟨pb, 2, none⟩ = some (.int .i64 0) := cell_of_blk P4 rfl
    have p3 : w4.cell? ⟨pb, 3, none⟩ = some (.int .i64 0) := cell_of_blk P4 rfl
    have p4 : w4.cell? ⟨pb, 4, none⟩ = some (.int .i64 ce) := cell_of_blk P4 rfl
    have p5 : w4.cell? ⟨pb, 5, none⟩ = some (.int .i64 0) := cell_of_blk P4 rfl
    go_upto_region 3 with fail
    go_cut [30] (fun A wx => ∃ lab' kr, A = (.pointer (some ⟨kr, 0, none⟩)) ∧ W11 w0 wx lab' x a b c d r0 (.pointer (some ⟨k, 0, none⟩)) d0 (.pointer (some ⟨kr, 0, none⟩)) u0 u1 e0 e1 s s R0 (some (RdS.mk 0 0 0 0 ce 0 cl vv 0 0 0 0 false)) D0 (some ((RdS.mk 0 0 0 0 ce 0 cl vv 0 0 0 0 false), [])) U0 U1 E0 E1 ∧ wx.heap[ob]? = some (.cells #[.int .i64 5, .int .i64 ii, .int .i64 ce, .int .i64 cl, .int .u64 vv, .int .u64 xx, .int .u64 yy, .slice la ln lc] 138 (0, 0)) ∧ wx.heap[pb]? = some (.cells #[.int .i64 0, .int .i64 0, .int .i64 0, .int .i64 0, .int .i64 ce, .int .i64 0] 35 (0, 0)))
    case first =>
      go_region_held3 (fun wx => wx.cell? ⟨pb, 0, none⟩ = some (.int .i64 0) ∧ wx.cell? ⟨pb, 1, none⟩ = some (.int .i64 0) ∧ wx.cell? ⟨pb, 2, none⟩ = some (.int .i64 0) ∧ wx.cell? ⟨pb, 3, none⟩ = some (.int .i64 0) ∧ wx.cell? ⟨pb, 4, none⟩ = some (.int .i64 ce) ∧ wx.cell? ⟨pb, 5, none⟩ = some (.int .i64 0) ∧ wx.cell? ⟨ob, 3, none⟩ = some (.int .i64 cl) ∧ wx.cell? ⟨ob, 4, none⟩ = some (.int .u64 vv)) (first | exact ⟨p0, p1, p2, p3, p4, p5, q3, q4⟩ | exact ⟨cell_of_blk P2 rfl, cell_of_blk P2 rfl, cell_of_blk P2 rfl, cell_of_blk P2 rfl, cell_of_blk P2 rfl, cell_of_blk P2 rfl, cell_of_blk Q2 rfl, cell_of_blk Q2 rfl⟩ | exact ⟨cell_of_blk P3 rfl, cell_of_blk P3 rfl, cell_of_blk P3 rfl, cell_of_blk P3 rfl, cell_of_blk P3 rfl, cell_of_blk P3 rfl, cell_of_blk Q3 rfl, cell_of_blk Q3 rfl⟩ | exact ⟨cell_drew (cell_of_blk P3 rfl), cell_drew (cell_of_blk P3 rfl), cell_drew (cell_of_blk P3 rfl), cell_drew (cell_of_blk P3 rfl), cell_drew (cell_of_blk P3 rfl), cell_drew (cell_of_blk P3 rfl), cell_drew (cell_of_blk Q3 rfl), cell_drew (cell_of_blk Q3 rfl)⟩)
        (first
        | (go_at_call 158; refine (read_r 0 0 0 0 ce 0 cl vv _).mono ?_; rintro e w2 ⟨kr, rfl, K2, gk, d2⟩; have H2 := (H4.mod0 (Mod.refl _ _).drew).fresh d2 6; have P2 := d2.at (k := pb) (o := .cells #[.int .i64 0, .int .i64 0, .int .i64 0, .int .i64 0, .int .i64 ce, .int .i64 0] 35 (0, 0)) P4 (by simp); have Q2 := d2.at (k := ob) (o := .cells #[.int .i64 5, .int .i64 ii, .int .i64 ce, .int .i64 cl, .int .u64 vv, .int .u64 xx, .int .u64 yy, .slice la ln lc] 138 (0, 0)) Q4 (by simp); have H3 := H2.put_d1 (v := (.pointer (some ⟨kr, 0, none⟩))) (Z := (some ((RdS.mk 0 0 0 0 ce 0 cl vv 0 0 0 0 false), []))) ⟨kr, _, rfl, K2, relab_new gk, fun g hg => by simp [Value.ownBlock] at hg⟩; have P3 := blk_setCell_other (.pointer (some ⟨kr, 0, none⟩)) (b := x) (i := 5) P2 hpx; have Q3 := blk_setCell_other (.pointer (some ⟨kr, 0, none⟩)) (b := x) (i := 5) Q2 hox; have fz := free_of_blk (i := 5) H2.hx; have cx : w2.cell? ⟨x, 5, none⟩ = some (d1) := cell_of_blk H2.hx rfl))
      all_goals
        go_wp2_with fail
        go_meet
        exact ⟨_, kr, rfl, by first | exact H3 | exact H3.mod0 (Mod.refl _ _).drew, by first | exact Q3 | exact Q2, by first | exact P3 | exact P2⟩
    case rest =>
      obtain ⟨lab5, kr, rfl, H5, Q5, P5⟩ := hcut
      clear p0 p1 p2 p3 p4 p5 q3 q4 fz cx H4 P4 Q4
      obtain ⟨w5, rfl⟩ : ∃ w5, w5 = wc := ⟨_, rfl⟩
      have x2 : w5.cell? ⟨x, 3, none⟩ = some (.pointer (some ⟨k, 0, none⟩)) := cell_of_blk H5.hx rfl
      obtain ⟨k', hk, K, lk⟩ := H5.c_r1
      obtain rfl : k = k' := by simpa using hk
      clear hk lk
      go_wp2_with fail
      refine (rvalue_c _ K).mono ?_; rintro e w6 ⟨rfl, hw6⟩
      have hw6' := hw6.symm
      subst hw6'
      clear hw6
      rw [show RdS.value (RdS.mk 0 0 0 0 ce 0 cl vv 0 0 0 0 false) = 0 from rfl]
      go_wp2_with fail
      refine (exact_c 0 _).mono ?_; rintro e w6 ⟨rfl, hw6⟩
      have hw6' := hw6.symm
      subst hw6'
      clear hw6
      go_wp2_with fail
      refine (rsteps_c _ K).mono ?_; rintro e w6 ⟨rfl, hw6⟩
      have hw6' := hw6.symm
      subst hw6'
      clear hw6
      rw [show RdS.sp (RdS.mk 0 0 0 0 ce 0 cl vv 0 0 0 0 false) = 0 from rfl]
      go_wp2_with fail
      refine (rtorn_c _ K).mono ?_; rintro e w6 ⟨rfl, hw6⟩
      have hw6' := hw6.symm
      subst hw6'
      clear hw6
      rw [show RdS.tn (RdS.mk 0 0 0 0 ce 0 cl vv 0 0 0 0 false) = false from rfl]
      go_wp2
      go_ret
      exact ⟨rfl, _, _, _, H5⟩

set_option maxRecDepth 100000 in
set_option maxHeartbeats 40000000 in
theorem begins_71 (h : W11 w0 w lab x a b c d r0 r1 d0 d1 u0 u1 e0 e1 s s R0 R1 D0 D1 U0 U1 E0 E1) (ii ce cl vv xx yy : Int) (la : Option Addr) (ln lc : Nat) :
    Calls Try.prog 137 #[.pointer (some ⟨x, 0, none⟩), .agg #[.int .i64 7, .int .i64 ii, .int .i64 ce, .int .i64 cl, .int .u64 vv, .int .u64 xx, .int .u64 yy, .slice la ln lc], .agg #[.int .i64 0, .int .i64 0, .int .i64 0, .int .i64 0, .int .i64 ce, .int .i64 0], .int .i64 1] w fun e w' => e = .returned (.bool true) ∧ ∃ lab' k kr, W11 w0 w' lab' x a b c d r0 r1 d0 d1 u0 (.pointer (some ⟨k, 0, none⟩)) e0 (.pointer (some ⟨kr, 0, none⟩)) s s R0 R1 D0 D1 U0 (some (WrS.mk 0 0 0 0 ce 0 cl (fixB xx.toNat : Int) vv (fixB yy.toNat : Int) 0)) E0 (some (WrS.mk 0 0 0 0 ce 0 cl (fixB xx.toNat : Int) vv (fixB yy.toNat : Int) 0)) := by
  have Q1 : ((w.alloc (.cells #[.int .i64 7, .int .i64 ii, .int .i64 ce, .int .i64 cl, .int .u64 vv, .int .u64 xx, .int .u64 yy, .slice la ln lc] 138)).alloc (.cells #[.int .i64 0, .int .i64 0, .int .i64 0, .int .i64 0, .int .i64 ce, .int .i64 0] 35)).heap[w.heap.size]? = some (.cells #[.int .i64 7, .int .i64 ii, .int .i64 ce, .int .i64 cl, .int .u64 vv, .int .u64 xx, .int .u64 yy, .slice la ln lc] 138 (0, 0)) := blk_alloc_old _ (heap_alloc_new _ _)
  have P1 : ((w.alloc (.cells #[.int .i64 7, .int .i64 ii, .int .i64 ce, .int .i64 cl, .int .u64 vv, .int .u64 xx, .int .u64 yy, .slice la ln lc] 138)).alloc (.cells #[.int .i64 0, .int .i64 0, .int .i64 0, .int .i64 0, .int .i64 ce, .int .i64 0] 35)).heap[w.heap.size + 1]? = some (.cells #[.int .i64 0, .int .i64 0, .int .i64 0, .int .i64 0, .int .i64 ce, .int .i64 0] 35 (0, 0)) := blk2 w _ _
  have H1 := h.mod0 (((Mod.refl [] w).alloc (.cells #[.int .i64 7, .int .i64 ii, .int .i64 ce, .int .i64 cl, .int .u64 vv, .int .u64 xx, .int .u64 yy, .slice la ln lc] 138)).alloc (.cells #[.int .i64 0, .int .i64 0, .int .i64 0, .int .i64 0, .int .i64 ce, .int .i64 0] 35))
  have hgx := lt_of_block h.hx
  clear h
  go_enter Try.func137, Try.ntmps137
  go_upto_region 5 with fail
  generalize (w.alloc (.cells #[.int .i64 7, .int .i64 ii, .int .i64 ce, .int .i64 cl, .int .u64 vv, .int .u64 xx, .int .u64 yy, .slice la ln lc] 138)).alloc (.cells #[.int .i64 0, .int .i64 0, .int .i64 0, .int .i64 0, .int .i64 ce, .int .i64 0] 35) = w1 at *
  have hox : w.heap.size ≠ x := by omega
  have hpx : w.heap.size + 1 ≠ x := by omega
  clear hgx
  generalize w.heap.size + 1 = pb at *
  generalize w.heap.size = ob at *
  have fz := free_of_blk (i := 7) H1.hx
  have cx : w1.cell? ⟨x, 7, none⟩ = some (u1) := cell_of_blk H1.hx rfl
  have q3 : w1.cell? ⟨ob, 3, none⟩ = some (.int .i64 cl) := cell_of_blk Q1 rfl
  have q4 : w1.cell? ⟨ob, 4, none⟩ = some (.int .u64 vv) := cell_of_blk Q1 rfl
  have q5 : w1.cell? ⟨ob, 5, none⟩ = some (.int .u64 xx) := cell_of_blk Q1 rfl
  have q6 : w1.cell? ⟨ob, 6, none⟩ = some (.int .u64 yy) := cell_of_blk Q1 rfl
  have p0 : w1.cell? ⟨pb, 0, none⟩ = some (.int .i64 0) := cell_of_blk P1 rfl
  have p1 : w1.cell? ⟨pb, 1, none⟩ = some (.int .i64 0) := cell_of_blk P1 rfl
  have p2 : w1.cell? ⟨pb, 2, none⟩ = some (.int .i64 0) := cell_of_blk P1 rfl
  have p3 : w1.cell? ⟨pb, 3, none⟩ = some (.int .i64 0) := cell_of_blk P1 rfl
  have p4 : w1.cell? ⟨pb, 4, none⟩ = some (.int .i64 ce) := cell_of_blk P1 rfl
  have p5 : w1.cell? ⟨pb, 5, none⟩ = some (.int .i64 0) := cell_of_blk P1 rfl
  go_cut [84] (fun A wx => ∃ lab' k, A = (.pointer (some ⟨k, 0, none⟩)) ∧ W11 w0 wx lab' x a b c d r0 r1 d0 d1 u0 (.pointer (some ⟨k, 0, none⟩)) e0 e1 s s R0 R1 D0 D1 U0 (some (WrS.mk 0 0 0 0 ce 0 cl (fixB xx.toNat : Int) vv (fixB yy.toNat : Int) 0)) E0 E1 ∧ wx.heap[ob]? = some (.cells #[.int .i64 7, .int .i64 ii, .int .i64 ce, .int .i64 cl, .int .u64 vv, .int .u64 xx, .int .u64 yy, .slice la ln lc] 138 (0, 0)) ∧ wx.heap[pb]? = some (.cells #[.int .i64 0, .int .i64 0, .int .i64 0, .int .i64 0, .int .i64 ce, .int .i64 0] 35 (0, 0)))
  case first =>
    go_region_held3 (fun wx => wx.cell? ⟨pb, 0, none⟩ = some (.int .i64 0) ∧ wx.cell? ⟨pb, 1, none⟩ = some (.int .i64 0) ∧ wx.cell? ⟨pb, 2, none⟩ = some (.int .i64 0) ∧ wx.cell? ⟨pb, 3, none⟩ = some (.int .i64 0) ∧ wx.cell? ⟨pb, 4, none⟩ = some (.int .i64 ce) ∧ wx.cell? ⟨pb, 5, none⟩ = some (.int .i64 0) ∧ wx.cell? ⟨ob, 3, none⟩ = some (.int .i64 cl) ∧ wx.cell? ⟨ob, 4, none⟩ = some (.int .u64 vv) ∧ wx.cell? ⟨ob, 5, none⟩ = some (.int .u64 xx) ∧ wx.cell? ⟨ob, 6, none⟩ = some (.int .u64 yy)) (first | exact ⟨p0, p1, p2, p3, p4, p5, q3, q4, q5, q6⟩ | exact ⟨cell_of_blk P2 rfl, cell_of_blk P2 rfl, cell_of_blk P2 rfl, cell_of_blk P2 rfl, cell_of_blk P2 rfl, cell_of_blk P2 rfl, cell_of_blk Q2 rfl, cell_of_blk Q2 rfl, cell_of_blk Q2 rfl, cell_of_blk Q2 rfl⟩ | exact ⟨cell_of_blk P3 rfl, cell_of_blk P3 rfl, cell_of_blk P3 rfl, cell_of_blk P3 rfl, cell_of_blk P3 rfl, cell_of_blk P3 rfl, cell_of_blk Q3 rfl, cell_of_blk Q3 rfl, cell_of_blk Q3 rfl, cell_of_blk Q3 rfl⟩ | exact ⟨cell_drew (cell_of_blk P3 rfl), cell_drew (cell_of_blk P3 rfl), cell_drew (cell_of_blk P3 rfl), cell_drew (cell_of_blk P3 rfl), cell_drew (cell_of_blk P3 rfl), cell_drew (cell_of_blk P3 rfl), cell_drew (cell_of_blk Q3 rfl), cell_drew (cell_of_blk Q3 rfl), cell_drew (cell_of_blk Q3 rfl), cell_drew (cell_of_blk Q3 rfl)⟩)
      (first
        | (go_at_call 75; first | (refine (raw_c xx _).mono ?_; rintro e w9 ⟨rfl, rfl⟩) | (refine (raw_c yy _).mono ?_; rintro e w9 ⟨rfl, rfl⟩))
        | (go_at_call 77; refine (write11 0 0 0 0 ce 0 cl vv xx.toNat yy.toNat _).mono ?_; rintro e w2 ⟨k, rfl, K2, gk, d2⟩; have H2 := (H1.mod0 (Mod.refl _ _).drew).fresh d2 8; have P2 := d2.at (k := pb) (o := .cells #[.int .i64 0, .int .i64 0, .int .i64 0, .int .i64 0, .int .i64 ce, .int .i64 0] 35 (0, 0)) P1 (by simp); have Q2 := d2.at (k := ob) (o := .cells #[.int .i64 7, .int .i64 ii, .int .i64 ce, .int .i64 cl, .int .u64 vv, .int .u64 xx, .int .u64 yy, .slice la ln lc] 138 (0, 0)) Q1 (by simp); have H3 := H2.put_u1 (v := (.pointer (some ⟨k, 0, none⟩))) (Z := (some (WrS.mk 0 0 0 0 ce 0 cl (fixB xx.toNat : Int) vv (fixB yy.toNat : Int) 0))) ⟨k, rfl, K2, relab_new gk⟩; have P3 := blk_setCell_other (.pointer (some ⟨k, 0, none⟩)) (b := x) (i := 7) P2 hpx; have Q3 := blk_setCell_other (.pointer (some ⟨k, 0, none⟩)) (b := x) (i := 7) Q2 hox; have fz := free_of_blk (i := 7) H2.hx; have cx : w2.cell? ⟨x, 7, none⟩ = some (u1) := cell_of_blk H2.hx rfl))
    all_goals
      go_wp2_with fail
      go_meet
      exact ⟨_, k, rfl, by first | exact H3 | exact H3.mod0 (Mod.refl _ _).drew, by first | exact Q3 | exact Q2, by first | exact P3 | exact P2⟩
  case rest =>
    obtain ⟨lab2, k, rfl, H4, Q4, P4⟩ := hcut
    clear p0 p1 p2 p3 p4 p5 q3 q4 q5 q6 fz cx H1 P1 Q1
    obtain ⟨w4, rfl⟩ : ∃ w4, w4 = wc := ⟨_, rfl⟩
    have fz := free_of_blk (i := 9) H4.hx
    have cx : w4.cell? ⟨x, 9, none⟩ = some (e1) := cell_of_blk H4.hx rfl
    have q3 : w4.cell? ⟨ob, 3, none⟩ = some (.int .i64 cl) := cell_of_blk Q4 rfl
    have q4 : w4.cell? ⟨ob, 4, none⟩ = some (.int .u64 vv) := cell_of_blk Q4 rfl
    have q5 : w4.cell? ⟨ob, 5, none⟩ = some (.int .u64 xx) := cell_of_blk Q4 rfl
    have q6 : w4.cell? ⟨ob, 6, none⟩ = some (.int .u64 yy) := cell_of_blk Q4 rfl
    have p0 : w4.cell? ⟨pb, 0, none⟩ = some (.int .i64 0) := cell_of_blk P4 rfl
    have p1 : w4.cell? ⟨pb, 1, none⟩ = some (.int .i64 0) := cell_of_blk P4 rfl
    have p2 : w4.cell? ⟨pb, 2, none⟩ = some (.int .i64 0) := cell_of_blk P4 rfl
    have p3 : w4.cell? ⟨pb, 3, none⟩ = some (.int .i64 0) := cell_of_blk P4 rfl
    have p4 : w4.cell? ⟨pb, 4, none⟩ = some (.int .i64 ce) := cell_of_blk P4 rfl
    have p5 : w4.cell? ⟨pb, 5, none⟩ = some (.int .i64 0) := cell_of_blk P4 rfl
    go_upto_region 6 with fail
    go_cut [101] (fun A wx => ∃ lab' kr, A = (.pointer (some ⟨kr, 0, none⟩)) ∧ W11 w0 wx lab' x a b c d r0 r1 d0 d1 u0 (.pointer (some ⟨k, 0, none⟩)) e0 (.pointer (some ⟨kr, 0, none⟩)) s s R0 R1 D0 D1 U0 (some (WrS.mk 0 0 0 0 ce 0 cl (fixB xx.toNat : Int) vv (fixB yy.toNat : Int) 0)) E0 (some (WrS.mk 0 0 0 0 ce 0 cl (fixB xx.toNat : Int) vv (fixB yy.toNat : Int) 0)) ∧ wx.heap[ob]? = some (.cells #[.int .i64 7, .int .i64 ii, .int .i64 ce, .int .i64 cl, .int .u64 vv, .int .u64 xx, .int .u64 yy, .slice la ln lc] 138 (0, 0)) ∧ wx.heap[pb]? = some (.cells #[.int .i64 0, .int .i64 0, .int .i64 0, .int .i64 0, .int .i64 ce, .int .i64 0] 35 (0, 0)))
    case first =>
      go_region_held3 (fun wx => wx.cell? ⟨pb, 0, none⟩ = some (.int .i64 0) ∧ wx.cell? ⟨pb, 1, none⟩ = some (.int .i64 0) ∧ wx.cell? ⟨pb, 2, none⟩ = some (.int .i64 0) ∧ wx.cell? ⟨pb, 3, none⟩ = some (.int .i64 0) ∧ wx.cell? ⟨pb, 4, none⟩ = some (.int .i64 ce) ∧ wx.cell? ⟨pb, 5, none⟩ = some (.int .i64 0) ∧ wx.cell? ⟨ob, 3, none⟩ = some (.int .i64 cl) ∧ wx.cell? ⟨ob, 4, none⟩ = some (.int .u64 vv) ∧ wx.cell? ⟨ob, 5, none⟩ = some (.int .u64 xx) ∧ wx.cell? ⟨ob, 6, none⟩ = some (.int .u64 yy)) (first | exact ⟨p0, p1, p2, p3, p4, p5, q3, q4, q5, q6⟩ | exact ⟨cell_of_blk P2 rfl, cell_of_blk P2 rfl, cell_of_blk P2 rfl, cell_of_blk P2 rfl, cell_of_blk P2 rfl, cell_of_blk P2 rfl, cell_of_blk Q2 rfl, cell_of_blk Q2 rfl, cell_of_blk Q2 rfl, cell_of_blk Q2 rfl⟩ | exact ⟨cell_of_blk P3 rfl, cell_of_blk P3 rfl, cell_of_blk P3 rfl, cell_of_blk P3 rfl, cell_of_blk P3 rfl, cell_of_blk P3 rfl, cell_of_blk Q3 rfl, cell_of_blk Q3 rfl, cell_of_blk Q3 rfl, cell_of_blk Q3 rfl⟩ | exact ⟨cell_drew (cell_of_blk P3 rfl), cell_drew (cell_of_blk P3 rfl), cell_drew (cell_of_blk P3 rfl), cell_drew (cell_of_blk P3 rfl), cell_drew (cell_of_blk P3 rfl), cell_drew (cell_of_blk P3 rfl), cell_drew (cell_of_blk Q3 rfl), cell_drew (cell_of_blk Q3 rfl), cell_drew (cell_of_blk Q3 rfl), cell_drew (cell_of_blk Q3 rfl)⟩)
        (first
        | (go_at_call 75; first | (refine (raw_c xx _).mono ?_; rintro e w9 ⟨rfl, rfl⟩) | (refine (raw_c yy _).mono ?_; rintro e w9 ⟨rfl, rfl⟩))
        | (go_at_call 159; refine (write_r 0 0 0 0 ce 0 cl vv xx.toNat yy.toNat _).mono ?_; rintro e w2 ⟨kr, g, rfl, K2, gk, gg, d2⟩; have H2 := (H4.mod0 (Mod.refl _ _).drew).fresh d2 10; have P2 := d2.at (k := pb) (o := .cells #[.int .i64 0, .int .i64 0, .int .i64 0, .int .i64 0, .int .i64 ce, .int .i64 0] 35 (0, 0)) P4 (by simp); have Q2 := d2.at (k := ob) (o := .cells #[.int .i64 7, .int .i64 ii, .int .i64 ce, .int .i64 cl, .int .u64 vv, .int .u64 xx, .int .u64 yy, .slice la ln lc] 138 (0, 0)) Q4 (by simp); have H3 := H2.put_e1 (v := (.pointer (some ⟨kr, 0, none⟩))) (Z := (some (WrS.mk 0 0 0 0 ce 0 cl (fixB xx.toNat : Int) vv (fixB yy.toNat : Int) 0))) ⟨kr, g, rfl, K2, relab_new gk, relab_new gg⟩; have P3 := blk_setCell_other (.pointer (some ⟨kr, 0, none⟩)) (b := x) (i := 9) P2 hpx; have Q3 := blk_setCell_other (.pointer (some ⟨kr, 0, none⟩)) (b := x) (i := 9) Q2 hox; have fz := free_of_blk (i := 9) H2.hx; have cx : w2.cell? ⟨x, 9, none⟩ = some (e1) := cell_of_blk H2.hx rfl))
      all_goals
        go_wp2_with fail
        go_meet
        exact ⟨_, kr, rfl, by first | exact H3 | exact H3.mod0 (Mod.refl _ _).drew, by first | exact Q3 | exact Q2, by first | exact P3 | exact P2⟩
    case rest =>
      obtain ⟨lab5, kr, rfl, H5, Q5, P5⟩ := hcut
      clear p0 p1 p2 p3 p4 p5 q3 q4 q5 q6 fz cx H4 P4 Q4
      obtain ⟨w5, rfl⟩ : ∃ w5, w5 = wc := ⟨_, rfl⟩
      have x2 : w5.cell? ⟨x, 7, none⟩ = some (.pointer (some ⟨k, 0, none⟩)) := cell_of_blk H5.hx rfl
      go_wp2
      go_ret
      exact ⟨rfl, _, _, _, H5⟩

end Go.Proofs.Ytobmgnoceacoaaa

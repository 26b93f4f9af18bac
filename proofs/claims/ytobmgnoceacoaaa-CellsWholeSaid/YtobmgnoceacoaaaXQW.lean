/- CellsQuiet: the walk. -/
import Derived.Test.YtobmgnoceacoaaaXQP
import Derived.Deep.QuietTactic
import Derived.BigQuiet
import Derived.Deep.DeepCutAuto
import Derived.Deep.CutBlock
import Derived.Deep.RegionHeld3
import Derived.StillTailTactics
import Derived.IntWalk
namespace Go.Proofs.Ytobmgnoceacoaaa
open Go.RowKit
attribute [local go_sem] run_store_float

variable {V N U st : Int} {w0 w w' : World} {a b l tb : Nat} {s s' : MemS} {r r' : RdS}
theorem ws3_bad (h : s.ws = [V, N, U]) {i : Int} (h0 : 0 ≤ i) (h3 : i < 3) : s.bad i = 0 := by
  unfold MemS.bad
  rw [if_neg (by simp only [h]; simp; omega)]
theorem ws3_peek (h : s.ws = [V, N, U]) : s.peek 0 = V ∧ s.peek 1 = N ∧ s.peek 2 = U := by
  refine ⟨?_, ?_, ?_⟩
  · unfold MemS.peek; rw [if_pos (ws3_bad h (by omega) (by omega))]; unfold MemS.at; simp only [h]; rfl
  · unfold MemS.peek; rw [if_pos (ws3_bad h (by omega) (by omega))]; unfold MemS.at; simp only [h]; rfl
  · unfold MemS.peek; rw [if_pos (ws3_bad h (by omega) (by omega))]; unfold MemS.at; simp only [h]; rfl
/-- The world of CellsQuiet: the triple, the memory, the reading. -/
structure QW (w0 w : World) (tb a b l : Nat) (V N U : Int) (s : MemS) (r : RdS) : Prop where
  ht : w.heap[tb]? = some (.cells #[.int .u64 V, .int .u64 N, .int .u64 U] 30 (0, 0))
  m : MemAt 142 w a b s
  hl : w.heap[l]? = some (.cells r.arr 177 (0, 0))
  ge : w0.heap.size ≤ a ∧ w0.heap.size ≤ b ∧ w0.heap.size ≤ l
  fr : Mod [] w0 w
theorem QW.mem (h : QW w0 w tb a b l V N U s r) (m : MemAt 142 w' a b s') (d : Mod [a, b] w w') : QW w0 w' tb a b l V N U s' r := by
  have hg := h.ge
  exact ⟨d.at h.ht (by simp [blk_ne h.ht h.m.hd (by decide), blk_ne h.ht h.m.ws (by decide)]), m, d.at h.hl (by simp [blk_ne h.hl h.m.hd (by decide), blk_ne h.hl h.m.ws (by decide)]), hg, h.fr.then d (by simp; omega)⟩
theorem QW.read (h : QW w0 w tb a b l V N U s r) (m : MemAt 142 w' a b s') (hl : w'.heap[l]? = some (.cells r'.arr 177 (0, 0))) (d : Mod [a, b, l] w w') : QW w0 w' tb a b l V N U s' r' := by
  have hg := h.ge
  exact ⟨d.at h.ht (by simp [blk_ne h.ht h.m.hd (by decide), blk_ne h.ht h.m.ws (by decide), blk_ne h.ht h.hl (by decide)]), m, hl, hg, h.fr.then d (by simp; omega)⟩

/-- Whether the reading is over. -/
def QOv (i n : Nat) (ov : Bool) : Prop := ov = decide (i = n)
theorem rvalue4_c {k : Nat} (r : RdS) (h4 : r.pa = 4) (hk : w.heap[k]? = some (.cells r.arr 177 (0, 0))) : Calls Try.prog 82 #[.pointer (some ⟨k, 0, none⟩)] w fun e w' => e = .returned (.float .f64 r.va) ∧ w' = w :=
  (rvalue_c r hk).mono fun _ _ ⟨he, hw⟩ => ⟨by rw [he]; unfold RdS.value; rw [if_pos h4], hw⟩

set_option maxRecDepth 100000 in
set_option maxHeartbeats 40000000 in
theorem cellsQuiet_walk (V N U st : Int) (w : World) : Calls Try.prog 21 #[.agg #[.int .u64 V, .int .u64 N, .int .u64 U], .int .u64 st] w fun e w' => e = .returned (.bool true) ∧ Mod [] w w' := by
  go_enter Try.func21, Try.ntmps21
  go_wp2_with fail
  refine (live11 _).mono ?_; rintro e w1 ⟨rfl, d1⟩
  have B1 : w1.heap[w.heap.size]? = some (.cells #[.int .u64 V, .int .u64 N, .int .u64 U] 30 (0, 0)) := d1.at (heap_alloc_new _ _) (by simp)
  have D1 : Mod [] w w1 := ((Mod.refl _ _).alloc _).trans d1
  clear d1
  generalize w.heap.size = tb at *
  go_wp2_with fail
  refine (fresh11 3 (by omega) (by omega) _).mono ?_; rintro e w2 ⟨a, b, rfl, M2, ha, hb, d2⟩
  have ga : w.heap.size ≤ a ∧ w.heap.size ≤ b := by have := D1.size; omega
  have B2 := d2.at B1 (by simp)
  have D2 := D1.trans d2
  have hta : tb ≠ a := blk_ne B2 M2.hd (by decide)
  have htb : tb ≠ b := blk_ne B2 M2.ws (by decide)
  clear B1 D1 d2 ha hb
  have t0 : w2.cell? ⟨tb, 0, none⟩ = some (.int .u64 V) := cell_of_blk B2 rfl
  have t1 : w2.cell? ⟨tb, 1, none⟩ = some (.int .u64 N) := cell_of_blk B2 rfl
  have t2 : w2.cell? ⟨tb, 2, none⟩ = some (.int .u64 U) := cell_of_blk B2 rfl
  go_wp2_with fail
  refine (poke_c M2 0 V).mono ?_; rintro e w3 ⟨rfl, M3, d3⟩
  have B3 := d3.at B2 (by simp [hta, htb])
  clear t0 t1 t2 B2
  have t0 : w3.cell? ⟨tb, 0, none⟩ = some (.int .u64 V) := cell_of_blk B3 rfl
  have t1 : w3.cell? ⟨tb, 1, none⟩ = some (.int .u64 N) := cell_of_blk B3 rfl
  have t2 : w3.cell? ⟨tb, 2, none⟩ = some (.int .u64 U) := cell_of_blk B3 rfl
  go_wp2_with fail
  refine (poke_c M3 1 N).mono ?_; rintro e w4 ⟨rfl, M4, d4⟩
  have B4 := d4.at B3 (by simp [hta, htb])
  clear t0 t1 t2 B3
  have t0 : w4.cell? ⟨tb, 0, none⟩ = some (.int .u64 V) := cell_of_blk B4 rfl
  have t1 : w4.cell? ⟨tb, 1, none⟩ = some (.int .u64 N) := cell_of_blk B4 rfl
  have t2 : w4.cell? ⟨tb, 2, none⟩ = some (.int .u64 U) := cell_of_blk B4 rfl
  go_wp2_with fail
  refine (poke_c M4 2 U).mono ?_; rintro e w5 ⟨rfl, M5, d5⟩
  have B5 := d5.at B4 (by simp [hta, htb])
  have D5 : Mod [] w w5 := ((D2.then d3 (by simp; omega)).then d4 (by simp; omega)).then d5 (by simp; omega)
  have hws : ((((MemS.fresh (Int.toNat 3)).poke 0 V).poke 1 N).poke 2 U).ws = [V, N, U] := by simp [MemS.poke, MemS.bad, MemS.put, MemS.fresh]
  clear t0 t1 t2 B4 M2 M3 M4 D2 d3 d4 d5
  generalize (((MemS.fresh (Int.toNat 3)).poke 0 V).poke 1 N).poke 2 U = s0 at M5 hws
  obtain ⟨k0, k1, k2⟩ := ws3_peek hws
  have HK0 := Lib.hid k0
  have HK1 := Lib.hid k1
  have HK2 := Lib.hid k2
  have HW := Lib.hid hws
  clear k0 k1 k2 hws hta htb
  go_wp2_with fail
  refine (peek11_ok M5 0 0 0 0 0 0 0 (by decide +kernel) (ws3_bad HW.out (by omega) (by omega))).mono ?_; rintro e w6 ⟨rfl, M6, d6⟩
  rw [show (0 : Int) + 3 * 0 = 0 from rfl, show (0 : Int) + 1 = 1 from rfl, show (0 : Int) + 2 = 2 from rfl, HK0.out, HK1.out, HK2.out]
  have B6 := d6.at B5 (by simp)
  have D6 := D5.trans d6
  have F6 : (w6.alloc (.cells #[.int .u64 V, .int .u64 N, .int .u64 U] 30)).heap[w6.heap.size]? = some (.cells #[.int .u64 V, .int .u64 N, .int .u64 U] 30 (0, 0)) := heap_alloc_new _ _
  clear M5 B5 D5 d6 HK0 HK1 HK2
  go_wp2_with fail
  refine (read11 0 0 0 0 0 0 0 st _).mono ?_; rintro e w7 ⟨l, rfl, L7, gl, d7⟩
  have F7 := d7.at F6 (by simp)
  have gl' : w.heap.size ≤ l := by have := D6.size; simp at gl; omega
  have W7 : QW w w7 tb a b l V N U s0 (qR V N U st 0) := ⟨d7.at (blk_alloc_old _ B6) (by simp), (M6.alloc _).mod d7 (by simp) (by simp), L7, by omega, (D6.alloc _).trans d7⟩
  clear M6 B6 D6 d7 F6 L7 gl gl' ga
  generalize w6.heap.size = ub at *
  have t0 : w7.cell? ⟨tb, 0, none⟩ = some (.int .u64 V) := cell_of_blk W7.ht rfl
  have t1 : w7.cell? ⟨tb, 1, none⟩ = some (.int .u64 N) := cell_of_blk W7.ht rfl
  have t2 : w7.cell? ⟨tb, 2, none⟩ = some (.int .u64 U) := cell_of_blk W7.ht rfl
  have u0 : w7.cell? ⟨ub, 0, none⟩ = some (.int .u64 V) := cell_of_blk F7 rfl
  have u1 : w7.cell? ⟨ub, 1, none⟩ = some (.int .u64 N) := cell_of_blk F7 rfl
  have u2 : w7.cell? ⟨ub, 2, none⟩ = some (.int .u64 U) := cell_of_blk F7 rfl
  go_wp2_with fail
  clear u0 u1 u2 F7 t0 t1 t2
  go_loopw [10, 11] (fun o v wr => ∃ (i : Nat) (ov : Bool) (s : MemS), i ≤ qN V st ∧ QOv i (qN V st) ov ∧ o = .bool ov ∧ v = .int .i64 i ∧ QW w wr tb a b l V N U s (qR V N U st i) ∧ s.ws = [V, N, U]) (fun _ v _ => 4 - (intOf v).toNat)
  case atStart => exact ⟨0, false, s0, by omega, by unfold QOv qN; split <;> rfl, rfl, rfl, W7, HW.out⟩
  case round =>
    clear W7 HW
    obtain ⟨i, ov, s, hi, hov, rfl, rfl, W, hws⟩ := hrel
    have h3 : qN V st ≤ 3 := by unfold qN; split <;> omega
    by_cases hlt : i < qN V st
    · have hf : ov = false := hov.trans (decide_eq_false (by omega))
      subst hf
      have hi4 : i < 4 := by omega
      obtain ⟨e1, e2, e3, e4⟩ := qR_step hws i hlt
      have H1 := Lib.hid e1
      have H2 := Lib.hid e2
      have H3 := Lib.hid e3
      have H4 := Lib.hid e4
      have HWS := Lib.hid hws
      clear e1 e2 e3 e4 hws hov
      go_wp2_with fail
      refine (open_c W.m).mono ?_; rintro e w8 ⟨rfl, M8, d8⟩
      have W8 := W.mem M8 d8
      clear W M8 d8
      go_wp2_with fail
      refine (rstep_c W8.m _ (qR_inv V N U st i) W8.hl).mono ?_; rintro e w9 ⟨rfl, M9, L9, d9⟩
      rw [H1.out]
      have W9 := W8.read M9 L9 d9
      rw [H3.out] at W9
      have h5 := H2.out
      obtain ⟨ov', hov'⟩ : ∃ o, o = (qR V N U st i).over s.opened := ⟨_, rfl⟩
      rw [← hov'] at h5 ⊢
      have HO := Lib.hid h5
      clear W8 M9 L9 d9 h5 hov' H1 H2 H3
      go_wp2
      go_roundw
      case rel => exact ⟨i + 1, ov', _, by omega, HO.out, rfl, by go_num, W9, H4.out⟩
      case measure => simp [intOf]; omega
    · obtain rfl : i = qN V st := by omega
      have hf : ov = true := hov.trans (decide_eq_true rfl)
      subst hf
      rw [qR_end] at W
      have hi4 : qN V st < 4 := by omega
      clear hov hi hlt hws
      have HTT := Lib.hid W.ht
      have HD := Lib.hid W.fr
      obtain ⟨wz, rfl⟩ : ∃ wz, wz = wr := ⟨_, rfl⟩
      have t0 : wz.cell? ⟨tb, 0, none⟩ = some (.int .u64 V) := cell_of_blk HTT.out rfl
      have t1 : wz.cell? ⟨tb, 1, none⟩ = some (.int .u64 N) := cell_of_blk HTT.out rfl
      have t2 : wz.cell? ⟨tb, 2, none⟩ = some (.int .u64 U) := cell_of_blk HTT.out rfl
      by_cases hg : st < V
      · have hL := W.hl
        have hat : atB V N U st = fixB U.toNat := if_pos hg
        rw [hat, if_pos hg] at hL
        have HL := Lib.hid hL
        have HAT := Lib.hid hat
        clear hL hat W
        go_wp2_with fail
        refine (raw_c N _).mono ?_; rintro e w8 ⟨rfl, hw8⟩
        have hw8' := hw8.symm
        subst hw8'
        go_wp2_with fail
        refine (raw_c U _).mono ?_; rintro e w8 ⟨rfl, hw8⟩
        have hw8' := hw8.symm
        subst hw8'
        go_upto_region 21 with fail
        go_region_held3 (fun wx => wx.cell? ⟨tb, 0, none⟩ = some (.int .u64 V) ∧ wx.cell? ⟨tb, 1, none⟩ = some (.int .u64 N) ∧ wx.cell? ⟨tb, 2, none⟩ = some (.int .u64 U)) (first | exact ⟨t0, t1, t2⟩ | exact ⟨cell_of_blk T9 rfl, cell_of_blk T9 rfl, cell_of_blk T9 rfl⟩)
          (first
            | (go_at_call 84; refine (rtorn_c _ (by first | exact HL.out | exact L9)).mono ?_; rintro e w8 ⟨rfl, rfl⟩)
            | (go_at_call 80; refine (rsteps_c _ (by first | exact HL.out | exact L9)).mono ?_; rintro e w8 ⟨rfl, rfl⟩)
            | (go_at_call 82; refine (rvalue4_c _ rfl (by first | exact HL.out | exact L9)).mono ?_; rintro e w8 ⟨rfl, rfl⟩)
            | (go_at_call 87; refine (at11_c V N U st _).mono ?_; rintro e w9 ⟨rfl, hw9⟩; rw [HAT.out]; have A9 : Mod [] wz.drew w9 := hw9 ▸ (Mod.refl _ _).alloc _; clear hw9; have T9 := A9.at (k := tb) HTT.out (by simp); have L9 := A9.at (k := l) HL.out (by simp))
            | (go_at_call 83; refine (fix_r _ _).mono ?_; rintro e w8 ⟨rfl, rfl⟩)
            | (go_at_call 81; refine (exact_c _ _).mono ?_; rintro e w8 ⟨rfl, rfl⟩))
        all_goals
          go_wp2
          go_ret
          exact ⟨rfl, HD.out.drew.trans A9⟩

      · have hL := W.hl
        have hat : atB V N U st = fixB N.toNat := if_neg hg
        rw [hat, if_neg hg] at hL
        have HL := Lib.hid hL
        have HAT := Lib.hid hat
        have hg' : V ≤ st := Int.not_lt.1 hg
        have hd : decide (st < V) = false := decide_eq_false hg
        clear hL hat W hg
        go_wp2_with fail
        refine (raw_c N _).mono ?_; rintro e w8 ⟨rfl, hw8⟩
        have hw8' := hw8.symm
        subst hw8'
        go_upto_region 21 with fail
        go_region_held3 (fun wx => wx.cell? ⟨tb, 0, none⟩ = some (.int .u64 V) ∧ wx.cell? ⟨tb, 1, none⟩ = some (.int .u64 N) ∧ wx.cell? ⟨tb, 2, none⟩ = some (.int .u64 U)) (first | exact ⟨t0, t1, t2⟩ | exact ⟨cell_of_blk T9 rfl, cell_of_blk T9 rfl, cell_of_blk T9 rfl⟩)
          (first
            | (go_at_call 84; refine (rtorn_c _ (by first | exact HL.out | exact L9)).mono ?_; rintro e w8 ⟨rfl, rfl⟩)
            | (go_at_call 80; refine (rsteps_c _ (by first | exact HL.out | exact L9)).mono ?_; rintro e w8 ⟨rfl, rfl⟩)
            | (go_at_call 82; refine (rvalue4_c _ rfl (by first | exact HL.out | exact L9)).mono ?_; rintro e w8 ⟨rfl, rfl⟩)
            | (go_at_call 87; refine (at11_c V N U st _).mono ?_; rintro e w9 ⟨rfl, hw9⟩; rw [HAT.out]; have A9 : Mod [] wz.drew w9 := hw9 ▸ (Mod.refl _ _).alloc _; clear hw9; have T9 := A9.at (k := tb) HTT.out (by simp); have L9 := A9.at (k := l) HL.out (by simp))
            | (go_at_call 83; refine (fix_r _ _).mono ?_; rintro e w8 ⟨rfl, rfl⟩)
            | (go_at_call 81; refine (exact_c _ _).mono ?_; rintro e w8 ⟨rfl, rfl⟩))
        all_goals
          go_wp2
          go_ret
          exact ⟨rfl, HD.out.drew.trans A9⟩

end Go.Proofs.Ytobmgnoceacoaaa

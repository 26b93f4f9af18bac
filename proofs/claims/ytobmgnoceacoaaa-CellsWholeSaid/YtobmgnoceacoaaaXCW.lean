/- CellsCost: the walk. -/
import Derived.Test.YtobmgnoceacoaaaXCP
import Derived.Test.YtobmgnoceacoaaaXN
import Derived.Deep.QuietTactic
import Derived.BigQuiet
import Derived.Deep.DeepCutAuto
import Derived.Deep.CutBlock
import Derived.Deep.RegionHeld3
import Derived.StillTailTactics
import Derived.IntWalk
import Derived.Outline
namespace Go.Proofs.Ytobmgnoceacoaaa
open Go.RowKit
attribute [local go_sem] run_store_float

theorem tmod3 (n : Int) : -2 ≤ n.tmod 3 ∧ n.tmod 3 ≤ 2 := by
  have h1 := Int.tmod_lt_of_pos n (show (0 : Int) < 3 by decide)
  have h2 := Int.lt_tmod_of_pos n (show (0 : Int) < 3 by decide)
  omega
/-- The world of CellsCost: besides, the plan. -/
structure CcW (w0 w : World) (a b k l pb : Nat) (s : MemS) (q : WrS) (r : RdS) : Prop where
  lv : LvW w0 w a b k l s q r
  hP : w.heap[pb]? = some (.cells #[.int .i64 0, .int .i64 0, .int .i64 0, .int .i64 0, .int .i64 0, .int .i64 0] 35 (0, 0))
variable {w0 w w' : World} {a b k l pb : Nat} {s s' : MemS} {q q' : WrS} {r r' : RdS}
theorem CcW.mem (h : CcW w0 w a b k l pb s q r) (m : MemAt 142 w' a b s') (d : Mod [a, b] w w') : CcW w0 w' a b k l pb s' q r :=
  ⟨h.lv.mem m d, d.at h.hP (by simp [blk_ne h.hP h.lv.m.hd (by decide), blk_ne h.hP h.lv.m.ws (by decide)])⟩
theorem CcW.write (h : CcW w0 w a b k l pb s q r) (m : MemAt 142 w' a b s') (hk : w'.heap[k]? = some (.cells q'.arr 180 (0, 0))) (d : Mod [a, b, k] w w') : CcW w0 w' a b k l pb s' q' r :=
  ⟨h.lv.write m hk d, d.at h.hP (by simp [blk_ne h.hP h.lv.m.hd (by decide), blk_ne h.hP h.lv.m.ws (by decide), blk_ne h.hP h.lv.hk (by decide)])⟩
theorem CcW.read (h : CcW w0 w a b k l pb s q r) (m : MemAt 142 w' a b s') (hl : w'.heap[l]? = some (.cells r'.arr 177 (0, 0))) (d : Mod [a, b, l] w w') : CcW w0 w' a b k l pb s' q r' :=
  ⟨h.lv.read m hl d, d.at h.hP (by simp [blk_ne h.hP h.lv.m.hd (by decide), blk_ne h.hP h.lv.m.ws (by decide), blk_ne h.hP h.lv.hl (by decide)])⟩

set_option maxRecDepth 100000 in
set_option maxHeartbeats 40000000 in
theorem cellsCost_walk (cl st ve x : Int) (a0 : Option Addr) (len cap : Nat) (zs : List Int) (w : World) (hS : NumsN w .u64 a0 len zs) :
    Calls Try.prog 19 #[.agg #[.int .i64 cl, .int .u64 st, .int .u64 ve, .int .u64 x, .slice a0 len cap]] w fun e w' => e = .returned (.bool true) ∧ Mod [] w w' := by
  have hlb := hS.2.1
  obtain ⟨r0, r1⟩ := tmod3 cl
  go_enter Try.func19, Try.ntmps19
  go_wp2_with fail
  refine (live11 _).mono ?_; rintro e w1 ⟨rfl, d1⟩
  have B1 : w1.heap[w.heap.size]? = some (.cells #[.int .i64 cl, .int .u64 st, .int .u64 ve, .int .u64 x, .slice a0 len cap] 122 (0, 0)) := d1.at (heap_alloc_new _ _) (by simp)
  have D1 : Mod [] w w1 := ((Mod.refl _ _).alloc _).trans d1
  clear d1
  generalize w.heap.size = ob at *
  have i0 : w1.cell? ⟨ob, 0, none⟩ = some (.int .i64 cl) := cell_of_blk B1 rfl
  have i1 : w1.cell? ⟨ob, 1, none⟩ = some (.int .u64 st) := cell_of_blk B1 rfl
  have i2 : w1.cell? ⟨ob, 2, none⟩ = some (.int .u64 ve) := cell_of_blk B1 rfl
  have i3 : w1.cell? ⟨ob, 3, none⟩ = some (.int .u64 x) := cell_of_blk B1 rfl
  have i4 : w1.cell? ⟨ob, 4, none⟩ = some (.slice a0 len cap) := cell_of_blk B1 rfl
  go_upto_region 2 with fail
  go_quiet (fail)
  have D2 : ∀ n, Mod [] w (w1.drewN n) := fun n => D1.drewN n
  clear i0 i1 i2 i3 i4 B1
  go_wp2_with fail
  refine (fresh11 9 (by omega) (by omega) _).mono ?_; rintro e w3 ⟨a, b, rfl, M3, ha, hb, d3⟩
  have D3 := (D2 _).trans d3
  have ga : w.heap.size ≤ a ∧ w.heap.size ≤ b := by have h1 := (D2 0).size; simp at ha hb h1; omega
  have hf : (MemS.fresh (Int.toNat 9)).ws.length = 9 ∧ (MemS.fresh (Int.toNat 9)).op = false := by decide +kernel
  generalize MemS.fresh (Int.toNat 9) = s0 at M3 hf
  have HF := Lib.hid hf
  clear hf D2 d3 ha hb D1
  have P4 : (w3.alloc (.cells #[.int .i64 0, .int .i64 0, .int .i64 0, .int .i64 0, .int .i64 0, .int .i64 0] 35)).heap[w3.heap.size]? = some (.cells #[.int .i64 0, .int .i64 0, .int .i64 0, .int .i64 0, .int .i64 0, .int .i64 0] 35 (0, 0)) := heap_alloc_new _ _
  have M4 := M3.alloc (.cells #[.int .i64 0, .int .i64 0, .int .i64 0, .int .i64 0, .int .i64 0, .int .i64 0] 35)
  have D4 := D3.alloc (.cells #[.int .i64 0, .int .i64 0, .int .i64 0, .int .i64 0, .int .i64 0, .int .i64 0] 35)
  clear M3 D3
  obtain ⟨t', ht⟩ : ∃ t : Int, t = if cl.tmod 3 < 0 then cl.tmod 3 + 3 else cl.tmod 3 := ⟨_, rfl⟩
  have t0 : 0 ≤ t' := by split at ht <;> omega
  have t3 : t' < 3 := by split at ht <;> omega
  have HT := Lib.hid ht
  clear ht
  go_upto_if 50 with fail
  generalize w3.alloc (.cells #[.int .i64 0, .int .i64 0, .int .i64 0, .int .i64 0, .int .i64 0, .int .i64 0] 35) = w4 at *
  generalize w3.heap.size = pb at *
  go_cut [11] (fun v wx => v = .int .i64 t' ∧ wx = w4)
  case first =>
    by_cases hneg : cl.tmod 3 < 0
    all_goals
      go_wp2
      go_meet
      refine ⟨?_, rfl⟩
      rw [HT.out]
      first
        | rw [if_pos hneg]
        | rw [if_neg (by omega)]
  case rest =>
    obtain ⟨rfl, hwc⟩ := hcut
    have hwc' := hwc.symm
    subst hwc'
    clear hwc r0 r1 HT
    have p0 : w4.cell? ⟨pb, 0, none⟩ = some (.int .i64 0) := cell_of_blk P4 rfl
    have p1 : w4.cell? ⟨pb, 1, none⟩ = some (.int .i64 0) := cell_of_blk P4 rfl
    have p2 : w4.cell? ⟨pb, 2, none⟩ = some (.int .i64 0) := cell_of_blk P4 rfl
    have p3 : w4.cell? ⟨pb, 3, none⟩ = some (.int .i64 0) := cell_of_blk P4 rfl
    have p4 : w4.cell? ⟨pb, 4, none⟩ = some (.int .i64 0) := cell_of_blk P4 rfl
    have p5 : w4.cell? ⟨pb, 5, none⟩ = some (.int .i64 0) := cell_of_blk P4 rfl
    go_wp2_with fail
    refine (read11 0 0 0 0 0 0 t' st _).mono ?_; rintro e w5 ⟨l, rfl, L5, gl, d5⟩
    have P5 := d5.at P4 (by simp)
    have M5 := M4.mod d5 (by simp) (by simp)
    have D5 := D4.trans d5
    have gl' : w.heap.size ≤ l := Nat.le_trans D4.size gl
    clear p0 p1 p2 p3 p4 p5 P4 M4 D4 d5 gl
    have p0 : w5.cell? ⟨pb, 0, none⟩ = some (.int .i64 0) := cell_of_blk P5 rfl
    have p1 : w5.cell? ⟨pb, 1, none⟩ = some (.int .i64 0) := cell_of_blk P5 rfl
    have p2 : w5.cell? ⟨pb, 2, none⟩ = some (.int .i64 0) := cell_of_blk P5 rfl
    have p3 : w5.cell? ⟨pb, 3, none⟩ = some (.int .i64 0) := cell_of_blk P5 rfl
    have p4 : w5.cell? ⟨pb, 4, none⟩ = some (.int .i64 0) := cell_of_blk P5 rfl
    have p5 : w5.cell? ⟨pb, 5, none⟩ = some (.int .i64 0) := cell_of_blk P5 rfl
    go_upto_region 11 with fail
    go_cut [13] (fun v wx => ∃ k, v = .pointer (some ⟨k, 0, none⟩) ∧ CcW w wx a b k l pb s0 (WrS.mk 0 0 0 0 0 0 t' (fixB x.toNat : Int) ve (fixB x.toNat : Int) 0) (RdS.mk 0 0 0 0 0 0 t' st 0 0 0 0 false))
    case first =>
      go_region_held3 (fun wx => wx.cell? ⟨pb, 0, none⟩ = some (.int .i64 0) ∧ wx.cell? ⟨pb, 1, none⟩ = some (.int .i64 0) ∧ wx.cell? ⟨pb, 2, none⟩ = some (.int .i64 0) ∧ wx.cell? ⟨pb, 3, none⟩ = some (.int .i64 0) ∧ wx.cell? ⟨pb, 4, none⟩ = some (.int .i64 0) ∧ wx.cell? ⟨pb, 5, none⟩ = some (.int .i64 0)) (first | exact ⟨p0, p1, p2, p3, p4, p5⟩ | exact ⟨cell_of_blk P6 rfl, cell_of_blk P6 rfl, cell_of_blk P6 rfl, cell_of_blk P6 rfl, cell_of_blk P6 rfl, cell_of_blk P6 rfl⟩)
        (first
          | (go_at_call 75; refine (raw_c x _).mono ?_; rintro e w6 ⟨rfl, rfl⟩)
          | (go_at_call 77; refine (write11 0 0 0 0 0 0 t' ve x.toNat x.toNat _).mono ?_; rintro e w6 ⟨k, rfl, K6, gk, d6⟩; have P6 := d6.at (k := pb) (o := .cells #[.int .i64 0, .int .i64 0, .int .i64 0, .int .i64 0, .int .i64 0, .int .i64 0] 35 (0, 0)) P5 (by simp)))
      all_goals
        go_wp2_with fail
        go_meet
        have D6 := D5.drew.trans d6
        exact ⟨_, rfl, ⟨M5.drew.mod d6 (by simp) (by simp), K6, d6.at (k := l) (o := .cells (RdS.mk 0 0 0 0 0 0 t' st 0 0 0 0 false).arr 177 (0, 0)) L5 (by simp), ⟨ga.1, ga.2, Nat.le_trans D5.drew.size gk, gl'⟩, D6⟩, P6⟩
    case rest =>
      obtain ⟨k, rfl, W6⟩ := hcut
      clear p0 p1 p2 p3 p4 p5 P5 M5 D5 gl' ga L5
      obtain ⟨w6, rfl⟩ : ∃ w6, w6 = wc := ⟨_, rfl⟩
      have C6 : CrI t' 0 (RdS.mk 0 0 0 0 0 0 t' st 0 0 0 0 false) s0 := ⟨rfl, rfl, rfl, .inl ⟨rfl, rfl⟩, HF.out.1, HF.out.2⟩
      generalize RdS.mk 0 0 0 0 0 0 t' st 0 0 0 0 false = rr0 at *
      have Q6 : Hid (∀ s : MemS, s.ws.length = 9 → CwI t' 0 ve (fixB x.toNat : Int) (WrS.mk 0 0 0 0 0 0 t' (fixB x.toNat : Int) ve (fixB x.toNat : Int) 0) s) := Lib.hid (fun s hs => ⟨rfl, by omega, hs, fun h => absurd h (by decide), fun h => absurd h (by decide), fun h => absurd h (by decide)⟩)
      generalize WrS.mk 0 0 0 0 0 0 t' (fixB x.toNat : Int) ve (fixB x.toNat : Int) 0 = qq0 at *
      clear HF
      go_wp2_with fail
      go_loopg [14] 4 (fun g i wr => ∃ (j : Nat) (s : MemS) (r : RdS), j ≤ 3 ∧ g = 4 - j ∧ i = .int .i64 j ∧ CcW w wr a b k l pb s qq0 r ∧ CrI t' j r s)
      case atStart => exact ⟨0, s0, rr0, by omega, rfl, rfl, W6, C6⟩
      case round =>
        clear W6 C6
        obtain ⟨j, s, r, hj, hgk, rfl, W, C⟩ := hrel
        obtain ⟨wo, hwo⟩ : ∃ wo : World, wo = wr := ⟨_, rfl⟩
        subst hwo
        have hj4 : decide ((j : Int) < 4) = true := decide_eq_true (by omega)
        go_upto_block 2 with fail
        go_cut [15] (fun v wx => (∃ n : Int, v = .int .i64 n) ∧ ∃ s', CcW w wx a b k l pb s' qq0 r ∧ CrI t' j r s')
        case first =>
          go_wp2_with fail
          go_loopg [15] 9 (fun g v wr => ∃ (n : Nat) (s : MemS), n ≤ 9 ∧ g = 9 - n ∧ v = .int .i64 n ∧ CcW w wr a b k l pb s qq0 r ∧ CrI t' j r s)
          case atStart => exact ⟨0, s, by omega, rfl, rfl, W, C⟩
          case round =>
            clear W C
            obtain ⟨n, s, hn, hg9, rfl, W, C⟩ := hrel
            by_cases hin : n < 9 ∧ 9 * j + n < len
            · obtain ⟨h9, hlt⟩ := hin
              obtain ⟨bz, off, z, rfl, -, z0, z1, hcell⟩ := hS.get hlt
              have cz := hcell wr W.lv.fr
              clear hcell
              have hd : decide (9 * (j : Int) + (n : Int) < (len : Int)) = true := decide_eq_true (by omega)
              go_wp2_with fail
              refine (poke_c W.lv.m (n : Int) z).mono ?_; rintro e w7 ⟨rfl, M7, d7⟩
              have W7 := W.mem M7 d7
              have C7 := C.poke (n : Int) z
              clear W M7 d7 cz C
              go_wp2
              go_roundg (9 - (n + 1))
              case measure => omega
              case rel => exact ⟨n + 1, _, by omega, rfl, by go_num, W7, C7⟩
            · by_cases h9 : n < 9
              · have hd : decide (9 * (j : Int) + (n : Int) < (len : Int)) = false := decide_eq_false (by omega)
                clear hin
                go_wp2_with fail
                go_meet
                exact ⟨⟨_, rfl⟩, _, W, C⟩
              · obtain rfl : n = 9 := by omega
                clear hin h9
                go_wp2_with fail
                go_meet
                exact ⟨⟨_, rfl⟩, _, W, C⟩
        case rest =>
          clear W C s
          obtain ⟨⟨n, rfl⟩, s, W, C⟩ := hcut
          obtain ⟨w7, hw7⟩ : ∃ w7, w7 = wc := ⟨_, rfl⟩
          subst hw7
          obtain ⟨e1, e2, e3, e4⟩ := C.shut t0 t3
          obtain ⟨f1, f2, f3, f4, f5⟩ := C.step t0 t3
          have hiv := C.inv
          have E1 := Lib.hid e1
          have E2 := Lib.hid e2
          have E3 := Lib.hid e3
          have E4 := Lib.hid e4
          have F1 := Lib.hid f1
          have F2 := Lib.hid f2
          have F3 := Lib.hid f3
          have F4 := Lib.hid f4
          have F5 := Lib.hid f5
          clear e1 e2 e3 e4 f1 f2 f3 f4 f5
          go_wp2_with fail
          refine (count_cq W.lv.m).mono ?_; rintro e w8 ⟨rfl, hw8⟩
          have hw8' := hw8.symm
          subst hw8'
          clear hw8
          go_wp2_with fail
          refine (rstep_c W.lv.m r hiv W.lv.hl).mono ?_; rintro e w8 ⟨rfl, M8, L8, d8⟩
          rw [E1.out, E2.out]
          rw [E3.out] at M8
          rw [E4.out] at L8
          have W8 := W.read M8 L8 d8
          clear W M8 L8 d8 E1 E2 E3 E4
          go_wp2_with fail
          refine (open_c W8.lv.m).mono ?_; rintro e w9 ⟨rfl, M9, d9⟩
          have W9 := W8.mem M9 d9
          clear W8 M9 d9
          go_wp2_with fail
          refine (rstep_c W9.lv.m r hiv W9.lv.hl).mono ?_; rintro e w10 ⟨rfl, M10, L10, d10⟩
          rw [F1.out]
          have W10 := W9.read M10 L10 d10
          clear W9 M10 L10 d10 hiv
          obtain ⟨s2, hs2⟩ : ∃ s2, s2 = r.mem s.opened := ⟨_, rfl⟩
          obtain ⟨r2, hr2⟩ : ∃ r2, r2 = r.next s.opened := ⟨_, rfl⟩
          obtain ⟨ov, hov⟩ : ∃ ov, ov = r.over s.opened := ⟨_, rfl⟩
          have f2 := F2.out
          have f4 := F4.out
          have f5 := F5.out
          rw [← hs2] at f2 f5 W10
          have f3 := F3.out
          rw [← hs2] at f3
          have F3 := Lib.hid f3
          clear f3
          rw [← hr2] at f4 f5 W10
          rw [← hov] at f5 ⊢
          have G2 := Lib.hid f2
          have G4 := Lib.hid f4
          clear F2 F4 F5 f2 f4 hs2 hr2 hov F1
          rcases f5 with ⟨rfl, j0, h4⟩ | ⟨rfl, j3, C10⟩
          · have hj0 : ((j : Int) == 0) = false := by simp; omega
            have H4 := Lib.hid h4
            clear h4
            have h3l : s2.ws.length = 9 := by rw [F3.out]; exact C.len
            clear C F3
            go_wp2_with fail
            refine (count_cq W10.lv.m).mono ?_; rintro e w11 ⟨rfl, hw11⟩
            have hw11' := hw11.symm
            subst hw11'
            clear hw11
            rw [G2.out]
            go_wp2_with fail
            refine (rsteps_c r2 W10.lv.hl).mono ?_; rintro e w11 ⟨rfl, hw11⟩
            have hw11' := hw11.symm
            subst hw11'
            clear hw11 G2
            rw [G4.out]
            clear G4
            go_wp2_with fail
            refine (open_c W10.lv.m).mono ?_; rintro e w11 ⟨rfl, M11, d11⟩
            have W11 := W10.mem M11 d11
            clear W10 M11 d11
            have h3o : s2.opened.ws.length = 9 := h3l
            generalize s2.opened = s3 at W11 h3o
            clear h3l
            have k1 : r2.err s3 = 3 := if_pos H4.out
            have k2 : r2.mem s3 = s3 := if_pos H4.out
            have k3 : r2.over s3 = false := by unfold RdS.over; rw [k1]; rfl
            have k4 : r2.next s3 = r2 := by unfold RdS.next; rw [k1]; rfl
            have K1 := Lib.hid k1
            have K2 := Lib.hid k2
            have K3 := Lib.hid k3
            have K4 := Lib.hid k4
            have H3 := Lib.hid h3o
            have hiv : r2.Inv := ⟨by have := H4.out; omega, by have := H4.out; omega⟩
            clear k1 k2 k3 k4 h3o
            go_wp2_with fail
            refine (rstep_c W11.lv.m r2 hiv W11.lv.hl).mono ?_; rintro e w12 ⟨rfl, M12, L12, d12⟩
            rw [K1.out, K3.out]
            rw [K2.out] at M12
            rw [K4.out] at L12
            have W12 := W11.read M12 L12 d12
            have I12 := Q6.out s3 H3.out
            clear W11 M12 L12 d12 K1 K2 K3 K4 H3 hiv H4
            go_wp2_with fail
            go_loopg [23] 3 (fun g v wr => ∃ (i : Nat) (s : MemS) (q : WrS), i ≤ 3 ∧ g = 3 - i ∧ v = .int .i64 i ∧ CcW w wr a b k l pb s q r2 ∧ CwI t' i ve (fixB x.toNat : Int) q s)
            case atStart => exact ⟨0, s3, qq0, by omega, rfl, rfl, W12, I12⟩
            case round =>
              clear W12 I12
              obtain ⟨i, s4, q, hi, hg3, rfl, W, C⟩ := hrel
              by_cases hi3 : i < 3
              · obtain ⟨f1, f2, f3, f4⟩ := C.step hi3 t0 t3
                have hiv := C.inv
                have F1 := Lib.hid f1
                have F2 := Lib.hid f2
                have F3 := Lib.hid f3
                clear f1 f2 f3 C
                go_wp2_with fail
                refine (count_cq W.lv.m).mono ?_; rintro e w13 ⟨rfl, hw13⟩
                have hw13' := hw13.symm
                subst hw13'
                clear hw13
                go_wp2_with fail
                refine (open_c W.lv.m).mono ?_; rintro e w14 ⟨rfl, M14, d14⟩
                have W14 := W.mem M14 d14
                clear W M14 d14
                go_wp2_with fail
                refine (wstep_c W14.lv.m q hiv W14.lv.hk).mono ?_; rintro e w15 ⟨rfl, M15, K15, d15⟩
                rw [F1.out, F2.out]
                have W15 := W14.write M15 K15 d15
                clear W14 M15 K15 d15 F1 F2 hiv
                go_wp2_with fail
                refine (count_cq W15.lv.m).mono ?_; rintro e w16 ⟨rfl, hw16⟩
                have hw16' := hw16.symm
                subst hw16'
                clear hw16
                rw [F3.out]
                clear F3
                go_wp2_with fail
                go_roundg (3 - (i + 1))
                case measure => omega
                case rel => exact ⟨i + 1, _, _, by omega, rfl, by go_num, W15, f4⟩
              · obtain rfl : i = 3 := by omega
                clear hi3
                have hq := C.eq
                have k1 : q.err s4.opened = 3 := by rw [hq]; rfl
                have k2 : q.mem s4.opened = s4.opened := by rw [hq]; rfl
                have k3 : q.over s4.opened = false := by unfold WrS.over; rw [k1]; rfl
                have k4 : q.next s4.opened = q := by unfold WrS.next; rw [k1]; rfl
                have hx := xpErr_ok (p4 := 0) t0 (show t' < 256 by omega) (by omega) (by omega)
                have hb : ∀ i : Int, 0 ≤ i → i < 9 → s4.opened.bad i = 0 := fun i h0 h9 => if_neg (by show ¬ (i < 0 ∨ (s4.ws.length : Int) ≤ i); rw [C.len]; omega)
                have a1 : s4.opened.peek (0 + 3 * t' + 2) = (fixB x.toNat : Int) := (if_pos (hb _ (by omega) (by omega))).trans (by rw [show (0 : Int) + 3 * t' + 2 = 3 * t' + 2 by omega]; exact C.a1 (by omega))
                have a2 : s4.opened.peek (0 + 3 * t') = ve := (if_pos (hb _ (by omega) (by omega))).trans (by rw [show (0 : Int) + 3 * t' = 3 * t' by omega]; exact C.a2 (by omega))
                have a3 : s4.opened.peek (0 + 3 * t' + 1) = (fixB x.toNat : Int) := (if_pos (hb _ (by omega) (by omega))).trans (by rw [show (0 : Int) + 3 * t' + 1 = 3 * t' + 1 by omega]; exact C.a3 (by omega))
                have hb2 := hb (0 + 3 * t' + 2) (by omega) (by omega)
                have K1 := Lib.hid k1
                have K2 := Lib.hid k2
                have K3 := Lib.hid k3
                have K4 := Lib.hid k4
                have HX := Lib.hid hx
                have HB := Lib.hid hb2
                have A1 := Lib.hid a1
                have A2 := Lib.hid a2
                have A3 := Lib.hid a3
                have hiv := C.inv
                clear k1 k2 k3 k4 hx hb hb2 a1 a2 a3 hq C
                go_wp2_with fail
                refine (open_c W.lv.m).mono ?_; rintro e w14 ⟨rfl, M14, d14⟩
                have W14 := W.mem M14 d14
                clear W M14 d14
                generalize s4.opened = s5 at *
                go_wp2_with fail
                refine (wstep_c W14.lv.m q hiv W14.lv.hk).mono ?_; rintro e w15 ⟨rfl, M15, K15, d15⟩
                rw [K1.out, K3.out]
                rw [K2.out] at M15
                rw [K4.out] at K15
                have W15 := W14.write M15 K15 d15
                clear W14 M15 K15 d15 K1 K2 K3 K4 hiv
                have p0 : w15.cell? ⟨pb, 0, none⟩ = some (.int .i64 0) := cell_of_blk W15.hP rfl
                have p1 : w15.cell? ⟨pb, 1, none⟩ = some (.int .i64 0) := cell_of_blk W15.hP rfl
                have p2 : w15.cell? ⟨pb, 2, none⟩ = some (.int .i64 0) := cell_of_blk W15.hP rfl
                have p3 : w15.cell? ⟨pb, 3, none⟩ = some (.int .i64 0) := cell_of_blk W15.hP rfl
                have p4 : w15.cell? ⟨pb, 4, none⟩ = some (.int .i64 0) := cell_of_blk W15.hP rfl
                have p5 : w15.cell? ⟨pb, 5, none⟩ = some (.int .i64 0) := cell_of_blk W15.hP rfl
                go_wp2_with fail
                refine (peek11_ok W15.lv.m 0 0 0 0 0 0 t' HX.out HB.out).mono ?_; rintro e w16 ⟨rfl, M16, d16⟩
                rw [A1.out, A2.out, A3.out]
                have D16 := W15.lv.fr.trans d16
                clear p0 p1 p2 p3 p4 p5 W15 M16 d16 HX HB A1 A2 A3
                go_wp2_with fail
                refine (raw_c x _).mono ?_; rintro e w17 ⟨rfl, hw17⟩
                have hw17' := hw17.symm
                subst hw17'
                go_wp2_with fail
                refine (bits_r x.toNat _).mono ?_; rintro e w18 ⟨rfl, hw18⟩
                have hw18' := hw18.symm
                subst hw18'
                go_wp2
                go_ret
                exact ⟨rfl, D16.alloc _⟩
          · have hj0 : ((j : Int) == 3) = false := by simp; omega
            go_wp2_with fail
            refine (count_cq W10.lv.m).mono ?_; rintro e w11 ⟨rfl, hw11⟩
            have hw11' := hw11.symm
            subst hw11'
            clear hw11
            rw [G2.out]
            go_wp2_with fail
            refine (rsteps_c r2 W10.lv.hl).mono ?_; rintro e w11 ⟨rfl, hw11⟩
            have hw11' := hw11.symm
            subst hw11'
            clear hw11
            rw [G4.out]
            go_wp2_with fail
            go_roundg (4 - (j + 1))
            case measure => omega
            case rel => exact ⟨j + 1, _, _, by omega, rfl, by go_num, W10, C10⟩

end Go.Proofs.Ytobmgnoceacoaaa

/- CellsWhole: the walk. -/
import Derived.Test.YtobmgnoceacoaaaXCW
import Derived.Test.YtobmgnoceacoaaaXQW
import Derived.Test.YtobmgnoceacoaaaXHP
import Derived.Test.YtobmgnoceacoaaaXHS
import Derived.Deep.QuietTactic
import Derived.BigQuiet
import Derived.Deep.DeepCutAuto
import Derived.Deep.CutBlock
import Derived.Deep.RegionHeld3
import Derived.StillTailTactics
import Derived.IntWalk
namespace Go.Proofs.Ytobmgnoceacoaaa
open Go.RowKit
attribute [local go_sem] run_store_float

theorem fl1 (n : Nat) : ∀ i, i < [n].length → (#[Value.float .f64 n] : Array Value)[i]? = some (.float .f64 ([n].getD i 0)) := by
  intro i hi
  obtain rfl : i = 0 := by simpa using hi
  rfl
theorem f3len {n : Nat} : (0 : Int) + 3 * (([n] : List Nat).length : Int) ≤ ((MemS.fresh (Int.toNat 3)).ws.length : Int) := by
  show (0 : Int) + 3 * 1 ≤ ((MemS.fresh (Int.toNat 3)).ws.length : Int)
  decide +kernel
set_option maxRecDepth 100000 in
set_option maxHeartbeats 40000000 in
theorem cellsWhole_walk (x y v0 t0 mo : Int) (a0 : Option Addr) (len cap : Nat) (w : World) (ht0 : 0 ≤ t0 ∧ t0 ≤ 18446744073709551615) (hm0 : 0 ≤ mo) (hS : BoolsN w a0 len) :
    Calls Try.prog 18 #[.agg #[.int .u64 x, .int .u64 y, .int .u64 v0, .int .u64 t0, .int .u64 mo, .slice a0 len cap]] w fun e w' => e = .returned (.bool true) ∧ Mod [] w w' := by
  have hlb := hS.1
  obtain ⟨t00, t01⟩ := ht0
  go_enter Try.func18, Try.ntmps18
  go_wp2_with fail
  refine (live11 _).mono ?_; rintro e w1 ⟨rfl, d1⟩
  have B1 : w1.heap[w.heap.size]? = some (.cells #[.int .u64 x, .int .u64 y, .int .u64 v0, .int .u64 t0, .int .u64 mo, .slice a0 len cap] 108 (0, 0)) := d1.at (heap_alloc_new _ _) (by simp)
  have D1 : Mod [] w w1 := ((Mod.refl _ _).alloc _).trans d1
  clear d1
  generalize w.heap.size = ob at *
  have i0 : w1.cell? ⟨ob, 0, none⟩ = some (.int .u64 x) := cell_of_blk B1 rfl
  have i1 : w1.cell? ⟨ob, 1, none⟩ = some (.int .u64 y) := cell_of_blk B1 rfl
  have i2 : w1.cell? ⟨ob, 2, none⟩ = some (.int .u64 v0) := cell_of_blk B1 rfl
  have i3 : w1.cell? ⟨ob, 3, none⟩ = some (.int .u64 t0) := cell_of_blk B1 rfl
  have i4 : w1.cell? ⟨ob, 4, none⟩ = some (.int .u64 mo) := cell_of_blk B1 rfl
  have i5 : w1.cell? ⟨ob, 5, none⟩ = some (.slice a0 len cap) := cell_of_blk B1 rfl
  go_upto_region 2 with fail
  go_quiet (fail)
  clear i0 i1 i2 i3 i4 i5
  go_upto_if 39 with fail
  obtain ⟨w2, hw2⟩ : ∃ w2, w2 = w1.drewN nq := ⟨_, rfl⟩
  have D2 : Mod [] w w2 := by rw [hw2]; exact D1.drewN nq
  have B2 : w2.heap[ob]? = some (.cells #[.int .u64 x, .int .u64 y, .int .u64 v0, .int .u64 t0, .int .u64 mo, .slice a0 len cap] 108 (0, 0)) := by rw [hw2]; first | exact B1 | (simp; exact B1)
  rw [← hw2]
  clear hw2 D1 B1
  go_cut [6] (fun v wx => (∃ ve : Int, v = .int .u64 ve ∧ ve ≤ t0) ∧ wx = w2)
  case first =>
    by_cases hg : t0 < v0
    · go_wp2_with fail
      go_meet
      exact ⟨⟨_, rfl, Int.le_refl _⟩, rfl⟩
    · go_wp2_with fail
      go_meet
      exact ⟨⟨_, rfl, by omega⟩, rfl⟩
  case rest =>
    obtain ⟨⟨v1, rfl, hv1⟩, hwc⟩ := hcut
    have hwc' := hwc.symm
    subst hwc'
    clear hwc
    go_upto_if 42 with fail
    go_cut [6, 7] (fun v u wx => (∃ ve st : Int, v = .int .u64 ve ∧ u = .int .u64 st ∧ ve ≤ st ∧ 0 ≤ st ∧ st < 18446744073709551615) ∧ wx = w2)
    case first =>
      by_cases hg : t0 = 18446744073709551615
      · subst hg
        go_wp2_with fail
        go_meet
        exact ⟨⟨_, _, rfl, rfl, by omega, by omega, by omega⟩, rfl⟩
      · have hgb : (t0 == 18446744073709551615) = false := by simp [hg]
        go_wp2_with fail
        go_meet
        exact ⟨⟨_, _, rfl, rfl, hv1, t00, by omega⟩, rfl⟩
    case rest =>
      obtain ⟨⟨ve, st, rfl, rfl, hv, hs0, hs1⟩, hwc⟩ := hcut
      have hwc' := hwc.symm
      subst hwc'
      clear hwc hv1 t00 t01
      have i4 : w2.cell? ⟨ob, 4, none⟩ = some (.int .u64 mo) := cell_of_blk B2 rfl
      have hq0 := Int.emod_nonneg mo (show 18446744073709551615 - st ≠ 0 by omega)
      have hq1 := Int.emod_lt_of_pos mo (show 0 < 18446744073709551615 - st by omega)
      go_upto_region 9 with fail
      have hab : st < st + 1 + mo % (18446744073709551615 - st) := by omega
      generalize st + 1 + mo % (18446744073709551615 - st) = ab at *
      clear hq0 hq1 i4 B2 hm0
      go_wp2_with fail
      refine (fresh11 3 (by omega) (by omega) _).mono ?_; rintro e w3 ⟨a, b, rfl, M3, ha, hb, d3⟩
      have D3 := D2.trans d3
      have ga : w.heap.size ≤ a ∧ w.heap.size ≤ b := by have h1 := D2.size; omega
      clear D2 d3 ha hb
      have P4 : (w3.alloc (.cells #[.int .i64 0, .int .i64 0, .int .i64 0, .int .i64 0, .int .i64 0, .int .i64 0] 35)).heap[w3.heap.size]? = some (.cells #[.int .i64 0, .int .i64 0, .int .i64 0, .int .i64 0, .int .i64 0, .int .i64 0] 35 (0, 0)) := heap_alloc_new _ _
      have M4 := M3.alloc (.cells #[.int .i64 0, .int .i64 0, .int .i64 0, .int .i64 0, .int .i64 0, .int .i64 0] 35)
      have D4 := D3.alloc (.cells #[.int .i64 0, .int .i64 0, .int .i64 0, .int .i64 0, .int .i64 0, .int .i64 0] 35)
      clear M3 D3
      go_upto_region 13 with fail
      generalize w3.alloc (.cells #[.int .i64 0, .int .i64 0, .int .i64 0, .int .i64 0, .int .i64 0, .int .i64 0] 35) = w4 at *
      generalize w3.heap.size = pb at *
      have p0 : w4.cell? ⟨pb, 0, none⟩ = some (.int .i64 0) := cell_of_blk P4 rfl
      have p1 : w4.cell? ⟨pb, 1, none⟩ = some (.int .i64 0) := cell_of_blk P4 rfl
      have p2 : w4.cell? ⟨pb, 2, none⟩ = some (.int .i64 0) := cell_of_blk P4 rfl
      have p3 : w4.cell? ⟨pb, 3, none⟩ = some (.int .i64 0) := cell_of_blk P4 rfl
      have p4 : w4.cell? ⟨pb, 4, none⟩ = some (.int .i64 0) := cell_of_blk P4 rfl
      have p5 : w4.cell? ⟨pb, 5, none⟩ = some (.int .i64 0) := cell_of_blk P4 rfl
      have hpa : pb ≠ a := blk_ne P4 M4.hd (by decide)
      have hpb : pb ≠ b := blk_ne P4 M4.ws (by decide)
      go_cut [12] (fun v wx => v = .int .i64 0 ∧ MemAt 142 wx a b (startK (MemS.fresh (Int.toNat 3)) 0 [x.toNat] 1) ∧ wx.heap[pb]? = some (.cells #[.int .i64 0, .int .i64 0, .int .i64 0, .int .i64 0, .int .i64 0, .int .i64 0] 35 (0, 0)) ∧ Mod [] w wx)
      case first =>
        go_region_held3 (fun wx => wx.cell? ⟨pb, 0, none⟩ = some (.int .i64 0) ∧ wx.cell? ⟨pb, 1, none⟩ = some (.int .i64 0) ∧ wx.cell? ⟨pb, 2, none⟩ = some (.int .i64 0) ∧ wx.cell? ⟨pb, 3, none⟩ = some (.int .i64 0) ∧ wx.cell? ⟨pb, 4, none⟩ = some (.int .i64 0) ∧ wx.cell? ⟨pb, 5, none⟩ = some (.int .i64 0)) (first | exact ⟨p0, p1, p2, p3, p4, p5⟩ | exact ⟨cell_of_blk (blk_alloc_old _ P4) rfl, cell_of_blk (blk_alloc_old _ P4) rfl, cell_of_blk (blk_alloc_old _ P4) rfl, cell_of_blk (blk_alloc_old _ P4) rfl, cell_of_blk (blk_alloc_old _ P4) rfl, cell_of_blk (blk_alloc_old _ P4) rfl⟩ | exact ⟨cell_of_blk P6 rfl, cell_of_blk P6 rfl, cell_of_blk P6 rfl, cell_of_blk P6 rfl, cell_of_blk P6 rfl, cell_of_blk P6 rfl⟩)
          (first
            | (go_at_call 75; refine (raw_c x _).mono ?_; rintro e w6 ⟨rfl, rfl⟩)
            | (go_at_call 74; refine (start_ok (xs := [x.toNat]) (by first | exact (M4.alloc _).drew | exact M4.drew.alloc _ | exact M4.alloc _) 0 0 0 0 0 0 _ ⟨_, _, rfl, .inr ⟨_, #[.float .f64 x.toNat], rfl, heap_alloc_new _ _, fl1 _⟩⟩ (by show 0 < 1; decide) (by show 1 ≤ 256; decide) (by decide) (by decide) f3len).mono ?_; rintro e w6 ⟨rfl, M6, d6⟩; have P6 := d6.at (k := pb) (o := .cells #[.int .i64 0, .int .i64 0, .int .i64 0, .int .i64 0, .int .i64 0, .int .i64 0] 35 (0, 0)) (blk_alloc_old _ P4) (by simp [hpa, hpb])))
        all_goals
          go_wp2_with fail
          go_meet
          exact ⟨rfl, M6, P6, by first | exact ((D4.alloc _).drew).then d6 (by simp; omega) | exact ((D4.drew).alloc _).then d6 (by simp; omega)⟩
      case rest =>
        obtain ⟨rfl, M5, P5, D5⟩ := hcut
        obtain ⟨w5, hw5⟩ : ∃ w5, w5 = wc := ⟨_, rfl⟩
        subst hw5
        clear p0 p1 p2 p3 p4 p5 P4 M4 D4 hpa hpb
        obtain ⟨fx, hfx⟩ : ∃ fx, fx = fixB x.toNat := ⟨_, rfl⟩
        obtain ⟨fy, hfy⟩ : ∃ fy, fy = fixB y.toNat := ⟨_, rfl⟩
        have hws : ((startK (MemS.fresh (Int.toNat 3)) 0 [x.toNat] 1).poke 0 ve).ws = wl ve ab fx fy 0 := by rw [hfx]; simp [startK, MemS.poke, MemS.bad, MemS.put, MemS.fresh, wl]
        have HW := Lib.hid hws
        have HX := Lib.hid hfx
        have HY := Lib.hid hfy
        clear hws hfx hfy
        go_wp2_with fail
        refine (poke_c M5 0 ve).mono ?_; rintro e w6 ⟨rfl, M6, d6⟩
        have P6 := d6.at P5 (by simp [blk_ne P5 M5.hd (by decide), blk_ne P5 M5.ws (by decide)])
        have D6 : Mod [] w w6 := D5.then d6 (by simp; omega)
        clear M5 P5 D5 d6
        have hw0 := HW.out
        generalize (startK (MemS.fresh (Int.toNat 3)) 0 [x.toNat] 1).poke 0 ve = s0 at M6 hw0
        have HW := Lib.hid hw0
        clear hw0
        have p0 : w6.cell? ⟨pb, 0, none⟩ = some (.int .i64 0) := cell_of_blk P6 rfl
        have p1 : w6.cell? ⟨pb, 1, none⟩ = some (.int .i64 0) := cell_of_blk P6 rfl
        have p2 : w6.cell? ⟨pb, 2, none⟩ = some (.int .i64 0) := cell_of_blk P6 rfl
        have p3 : w6.cell? ⟨pb, 3, none⟩ = some (.int .i64 0) := cell_of_blk P6 rfl
        have p4 : w6.cell? ⟨pb, 4, none⟩ = some (.int .i64 0) := cell_of_blk P6 rfl
        have p5 : w6.cell? ⟨pb, 5, none⟩ = some (.int .i64 0) := cell_of_blk P6 rfl
        go_wp2_with fail
        refine (read11 0 0 0 0 0 0 0 st _).mono ?_; rintro e w7 ⟨l, rfl, L7, gl, d7⟩
        have P7 := d7.at P6 (by simp)
        have M7 := M6.mod d7 (by simp) (by simp)
        have D7 := D6.trans d7
        have gl' : w.heap.size ≤ l := Nat.le_trans D6.size gl
        clear p0 p1 p2 p3 p4 p5 P6 M6 D6 d7 gl
        have p0 : w7.cell? ⟨pb, 0, none⟩ = some (.int .i64 0) := cell_of_blk P7 rfl
        have p1 : w7.cell? ⟨pb, 1, none⟩ = some (.int .i64 0) := cell_of_blk P7 rfl
        have p2 : w7.cell? ⟨pb, 2, none⟩ = some (.int .i64 0) := cell_of_blk P7 rfl
        have p3 : w7.cell? ⟨pb, 3, none⟩ = some (.int .i64 0) := cell_of_blk P7 rfl
        have p4 : w7.cell? ⟨pb, 4, none⟩ = some (.int .i64 0) := cell_of_blk P7 rfl
        have p5 : w7.cell? ⟨pb, 5, none⟩ = some (.int .i64 0) := cell_of_blk P7 rfl
        go_upto_region 16 with fail
        go_cut [14] (fun v wx => ∃ k, v = .pointer (some ⟨k, 0, none⟩) ∧ CcW w wx a b k l pb s0 (WrS.mk 0 0 0 0 0 0 0 (fx : Int) ab (fy : Int) (0 : Nat)) (RdS.mk 0 0 0 0 0 0 0 st 0 0 0 0 false))
        case first =>
          go_region_held3 (fun wx => wx.cell? ⟨pb, 0, none⟩ = some (.int .i64 0) ∧ wx.cell? ⟨pb, 1, none⟩ = some (.int .i64 0) ∧ wx.cell? ⟨pb, 2, none⟩ = some (.int .i64 0) ∧ wx.cell? ⟨pb, 3, none⟩ = some (.int .i64 0) ∧ wx.cell? ⟨pb, 4, none⟩ = some (.int .i64 0) ∧ wx.cell? ⟨pb, 5, none⟩ = some (.int .i64 0)) (first | exact ⟨p0, p1, p2, p3, p4, p5⟩ | exact ⟨cell_of_blk P8 rfl, cell_of_blk P8 rfl, cell_of_blk P8 rfl, cell_of_blk P8 rfl, cell_of_blk P8 rfl, cell_of_blk P8 rfl⟩)
            (first
              | (go_at_call 75; first | (refine (raw_c x _).mono ?_; rintro e w6 ⟨rfl, rfl⟩) | (refine (raw_c y _).mono ?_; rintro e w6 ⟨rfl, rfl⟩))
              | (go_at_call 77; refine (write11 0 0 0 0 0 0 0 ab x.toNat y.toNat _).mono ?_; rintro e w8 ⟨k, rfl, K8, gk, d8⟩; have P8 := d8.at (k := pb) (o := .cells #[.int .i64 0, .int .i64 0, .int .i64 0, .int .i64 0, .int .i64 0, .int .i64 0] 35 (0, 0)) P7 (by simp)))
          all_goals
            go_wp2_with fail
            go_meet
            have D8 := D7.drew.trans d8
            rw [← HX.out, ← HY.out] at K8
            exact ⟨_, rfl, ⟨M7.drew.mod d8 (by simp) (by simp), K8, d8.at (k := l) (o := .cells (RdS.mk 0 0 0 0 0 0 0 st 0 0 0 0 false).arr 177 (0, 0)) L7 (by simp), ⟨ga.1, ga.2, Nat.le_trans D7.drew.size gk, gl'⟩, D8⟩, P8⟩
        case rest =>
          obtain ⟨kk, rfl, W8⟩ := hcut
          have GAB := Lib.hid ga
          clear p0 p1 p2 p3 p4 p5 P7 M7 D7 gl' ga L7
          obtain ⟨w8, hw8⟩ : ∃ w8, w8 = wc := ⟨_, rfl⟩
          subst hw8
          have R8 : WhR ve st fx 0 0 (RdS.mk 0 0 0 0 0 0 0 st 0 0 0 0 false) := ⟨rfl, rfl, rfl, rfl, .inl ⟨rfl, rfl⟩⟩
          have O8 : Hid (false = ((RdS.mk 0 0 0 0 0 0 0 st 0 0 0 0 false).pa == 4)) := Lib.hid rfl
          generalize RdS.mk 0 0 0 0 0 0 0 st 0 0 0 0 false = rr0 at *
          have hq0 : Hid (∀ m : Nat, m = 0 → WrS.mk 0 0 0 0 0 0 0 (fx : Int) ab (fy : Int) (0 : Nat) = WrS.mk 0 0 0 0 0 0 0 (fx : Int) ab (fy : Int) m) := Lib.hid (fun m h => by rw [h])
          clear hq0
          have FX : Hid (fixB fx = fx) := Lib.hid (by rw [HX.out, fixB_fixB])
          have FY : Hid (fixB fy = fy) := Lib.hid (by rw [HY.out, fixB_fixB])
          go_wp2_with fail
          go_loopg [15, 16, 17] (len + 8) (fun g rd wt iv wx => ∃ (i k m : Nat) (s : MemS) (r : RdS) (b1 b2 : Bool), i ≤ len + 8 ∧ g = len + 8 - i ∧ rd = .bool b1 ∧ wt = .bool b2 ∧ iv = .int .i64 i ∧ CcW w wx a b kk l pb s (WrS.mk 0 0 0 0 0 0 0 (fx : Int) ab (fy : Int) m) r ∧ WhR ve st fx m k r ∧ s.ws = wl ve ab fx fy m ∧ m ≤ 3 ∧ b1 = (r.pa == 4) ∧ b2 = decide (m = 3) ∧ (i ≤ k + m ∨ (r.pa = 4 ∧ m = 3)))
          case atStart => exact ⟨0, 0, 0, s0, rr0, false, false, by omega, rfl, rfl, rfl, rfl, W8, R8, HW.out, by omega, O8.out, rfl, .inl (by omega)⟩
          case round =>
            clear W8 R8 O8 HW
            obtain ⟨i, k, m, s, r, b1, b2, hi, hg, rfl, rfl, rfl, W, R, hws, hm, hb1, hb2, hd⟩ := hrel
            by_cases hlt : i < len + 8
            · have hc : decide ((i : Int) < (len : Int) + 8) = true := decide_eq_true (by omega)
              have HWS := Lib.hid hws
              have HB1 := Lib.hid hb1
              have HB2 := Lib.hid hb2
              have HD := Lib.hid hd
              clear hws hb1 hb2 hd
              go_wp2_with fail
              refine (open_c W.lv.m).mono ?_; rintro e w9 ⟨rfl, M9, d9⟩
              have W9 := W.mem M9 d9
              clear W M9 d9
              cases b1
              · have hp4 : r.pa ≠ 4 := fun h => by have := HB1.out; rw [h] at this; exact absurd this (by decide)
                cases b2
                · have hm3 : m < 3 := by have := of_decide_eq_false HB2.out.symm; omega
                  by_cases hil : i < len
                  · have hd1 : decide ((i : Int) < (len : Int)) = true := decide_eq_true (by omega)
                    have hd2 : decide ((len : Int) + 3 ≤ (i : Int)) = false := decide_eq_false (by omega)
                    obtain ⟨bz, off, bv, rfl, hcell⟩ := hS.get hil
                    have cz := hcell w9 W9.lv.fr
                    clear hcell
                    cases bv
                    · skip
                      obtain ⟨hiv, e1, e2, e3, e4⟩ := wstep_wh (s := s) (q := WrS.mk 0 0 0 0 0 0 0 (fx : Int) ab (fy : Int) m) HWS.out hm3 rfl
                      have E1 := Lib.hid e1
                      have E2 := Lib.hid e2
                      have E3 := Lib.hid e3
                      have E4 := Lib.hid e4
                      clear e1 e2 e3 e4
                      go_wp2_with fail
                      refine (wstep_c W9.lv.m _ hiv W9.lv.hk).mono ?_; rintro e w10 ⟨rfl, M10, K10, d10⟩
                      rw [E1.out, E2.out]
                      rw [E4.out] at K10
                      have W10 := W9.write M10 K10 d10
                      clear W9 M10 K10 d10 E1 E2 E4
                      obtain ⟨ov, hov⟩ : ∃ ov, ov = decide (m = 2) := ⟨_, rfl⟩
                      rw [← hov]
                      have hoq : ov = decide (m + 1 = 3) := by rw [hov]; exact decide_eq_decide.2 (by omega)
                      have HO := Lib.hid hoq
                      clear hov hoq
                      cases ov
                      all_goals
                        go_wp2_with fail
                        go_roundg (len + 8 - (i + 1))
                        case measure => omega
                        case rel => exact ⟨i + 1, k, m + 1, _, r, _, _, by omega, rfl, rfl, rfl, by go_num, W10, R.up hm3, E3.out, by omega, HB1.out, HO.out, .inl (by rcases HD.out with h | ⟨_, h⟩; omega; omega)⟩
                    · skip
                      obtain ⟨e1, e2, e3, e4⟩ := R.step HWS.out hp4 hv hab hm FX.out
                      have hiv := R.inv
                      have E1 := Lib.hid e1
                      have E2 := Lib.hid e2
                      have E4 := Lib.hid e4
                      clear e1 e2 e4
                      go_wp2_with fail
                      refine (rstep_c W9.lv.m r hiv W9.lv.hl).mono ?_; rintro e w10 ⟨rfl, M10, L10, d10⟩
                      rw [E1.out]
                      have W10 := W9.read M10 L10 d10
                      obtain ⟨ov, hov⟩ : ∃ ov, ov = r.over s.opened := ⟨_, rfl⟩
                      rw [← hov]
                      have hoq : ov = ((r.next s.opened).pa == 4) := hov.trans E4.out
                      have HO := Lib.hid hoq
                      clear hov hoq E1 E4 W9 M10 L10 d10
                      go_wp2_with fail
                      go_roundg (len + 8 - (i + 1))
                      case measure => omega
                      case rel => exact ⟨i + 1, k + 1, m, _, _, ov, _, by omega, rfl, rfl, rfl, by go_num, W10, e3, E2.out.trans HWS.out, hm, HO.out, HB2.out, .inl (by rcases HD.out with h | ⟨h, _⟩; omega; exact absurd h hp4)⟩
                  · have hd1 : decide ((i : Int) < (len : Int)) = false := decide_eq_false (by omega)
                    by_cases hi3 : len + 3 ≤ i
                    · have hd2 : decide ((len : Int) + 3 ≤ (i : Int)) = true := decide_eq_true (by omega)
                      obtain ⟨e1, e2, e3, e4⟩ := R.step HWS.out hp4 hv hab hm FX.out
                      have hiv := R.inv
                      have E1 := Lib.hid e1
                      have E2 := Lib.hid e2
                      have E4 := Lib.hid e4
                      clear e1 e2 e4
                      go_wp2_with fail
                      refine (rstep_c W9.lv.m r hiv W9.lv.hl).mono ?_; rintro e w10 ⟨rfl, M10, L10, d10⟩
                      rw [E1.out]
                      have W10 := W9.read M10 L10 d10
                      obtain ⟨ov, hov⟩ : ∃ ov, ov = r.over s.opened := ⟨_, rfl⟩
                      rw [← hov]
                      have hoq : ov = ((r.next s.opened).pa == 4) := hov.trans E4.out
                      have HO := Lib.hid hoq
                      clear hov hoq E1 E4 W9 M10 L10 d10
                      go_wp2_with fail
                      go_roundg (len + 8 - (i + 1))
                      case measure => omega
                      case rel => exact ⟨i + 1, k + 1, m, _, _, ov, _, by omega, rfl, rfl, rfl, by go_num, W10, e3, E2.out.trans HWS.out, hm, HO.out, HB2.out, .inl (by rcases HD.out with h | ⟨h, _⟩; omega; exact absurd h hp4)⟩
                    · have hd2 : decide ((len : Int) + 3 ≤ (i : Int)) = false := decide_eq_false (by omega)
                      obtain ⟨hiv, e1, e2, e3, e4⟩ := wstep_wh (s := s) (q := WrS.mk 0 0 0 0 0 0 0 (fx : Int) ab (fy : Int) m) HWS.out hm3 rfl
                      have E1 := Lib.hid e1
                      have E2 := Lib.hid e2
                      have E3 := Lib.hid e3
                      have E4 := Lib.hid e4
                      clear e1 e2 e3 e4
                      go_wp2_with fail
                      refine (wstep_c W9.lv.m _ hiv W9.lv.hk).mono ?_; rintro e w10 ⟨rfl, M10, K10, d10⟩
                      rw [E1.out, E2.out]
                      rw [E4.out] at K10
                      have W10 := W9.write M10 K10 d10
                      clear W9 M10 K10 d10 E1 E2 E4
                      obtain ⟨ov, hov⟩ : ∃ ov, ov = decide (m = 2) := ⟨_, rfl⟩
                      rw [← hov]
                      have hoq : ov = decide (m + 1 = 3) := by rw [hov]; exact decide_eq_decide.2 (by omega)
                      have HO := Lib.hid hoq
                      clear hov hoq
                      cases ov
                      all_goals
                        go_wp2_with fail
                        go_roundg (len + 8 - (i + 1))
                        case measure => omega
                        case rel => exact ⟨i + 1, k, m + 1, _, r, _, _, by omega, rfl, rfl, rfl, by go_num, W10, R.up hm3, E3.out, by omega, HB1.out, HO.out, .inl (by rcases HD.out with h | ⟨_, h⟩; omega; omega)⟩
                · skip
                  obtain ⟨e1, e2, e3, e4⟩ := R.step HWS.out hp4 hv hab hm FX.out
                  have hiv := R.inv
                  have E1 := Lib.hid e1
                  have E2 := Lib.hid e2
                  have E4 := Lib.hid e4
                  clear e1 e2 e4
                  go_wp2_with fail
                  refine (rstep_c W9.lv.m r hiv W9.lv.hl).mono ?_; rintro e w10 ⟨rfl, M10, L10, d10⟩
                  rw [E1.out]
                  have W10 := W9.read M10 L10 d10
                  obtain ⟨ov, hov⟩ : ∃ ov, ov = r.over s.opened := ⟨_, rfl⟩
                  rw [← hov]
                  have hoq : ov = ((r.next s.opened).pa == 4) := hov.trans E4.out
                  have HO := Lib.hid hoq
                  clear hov hoq E1 E4 W9 M10 L10 d10
                  go_wp2_with fail
                  go_roundg (len + 8 - (i + 1))
                  case measure => omega
                  case rel => exact ⟨i + 1, k + 1, m, _, _, ov, _, by omega, rfl, rfl, rfl, by go_num, W10, e3, E2.out.trans HWS.out, hm, HO.out, HB2.out, .inl (by rcases HD.out with h | ⟨h, _⟩; omega; exact absurd h hp4)⟩
              · have h4 : r.pa = 4 := by have := HB1.out; simpa using this.symm
                cases b2
                · have hm3 : m < 3 := by have := of_decide_eq_false HB2.out.symm; omega
                  obtain ⟨hiv, e1, e2, e3, e4⟩ := wstep_wh (s := s) (q := WrS.mk 0 0 0 0 0 0 0 (fx : Int) ab (fy : Int) m) HWS.out hm3 rfl
                  have E1 := Lib.hid e1
                  have E2 := Lib.hid e2
                  have E3 := Lib.hid e3
                  have E4 := Lib.hid e4
                  clear e1 e2 e3 e4
                  go_wp2_with fail
                  refine (wstep_c W9.lv.m _ hiv W9.lv.hk).mono ?_; rintro e w10 ⟨rfl, M10, K10, d10⟩
                  rw [E1.out, E2.out]
                  rw [E4.out] at K10
                  have W10 := W9.write M10 K10 d10
                  clear W9 M10 K10 d10 E1 E2 E4
                  obtain ⟨ov, hov⟩ : ∃ ov, ov = decide (m = 2) := ⟨_, rfl⟩
                  rw [← hov]
                  have hoq : ov = decide (m + 1 = 3) := by rw [hov]; exact decide_eq_decide.2 (by omega)
                  have HO := Lib.hid hoq
                  clear hov hoq
                  cases ov
                  all_goals
                    go_wp2_with fail
                    go_roundg (len + 8 - (i + 1))
                    case measure => omega
                    case rel => exact ⟨i + 1, k, m + 1, _, r, _, _, by omega, rfl, rfl, rfl, by go_num, W10, R.up hm3, E3.out, by omega, HB1.out, HO.out, .inl (by rcases HD.out with h | ⟨_, h⟩; omega; omega)⟩
                · have hm3 : m = 3 := of_decide_eq_true HB2.out.symm
                  go_wp2_with fail
                  go_roundg (len + 8 - (i + 1))
                  case measure => omega
                  case rel => exact ⟨i + 1, k, m, _, r, true, true, by omega, rfl, rfl, rfl, by go_num, W9, R, HWS.out, hm, HB1.out, HB2.out, .inr ⟨h4, hm3⟩⟩
            · obtain rfl : i = len + 8 := by omega
              have hk4 := R.k4
              obtain ⟨h4, rfl⟩ : r.pa = 4 ∧ m = 3 := by
                rcases hd with h | h
                · omega
                · exact h
              have hva : r.va = fx := by
                rcases R.pa with ⟨e, _⟩ | ⟨e, _⟩ | ⟨e, _⟩ | ⟨e, _⟩ | ⟨_, _, _, e⟩
                · omega
                · omega
                · omega
                · omega
                · exact e
              have e1 : b1 = true := by rw [hb1, h4]; rfl
              have e2 : b2 = true := by rw [hb2]; rfl
              subst e1
              subst e2
              have HWS := Lib.hid hws
              have HVA := Lib.hid hva
              have HSP := Lib.hid R.sp
              have H4 := Lib.hid h4
              have hc : decide (((len + 8 : Nat) : Int) < (len : Int) + 8) = false := decide_eq_false (by omega)
              have hk5 : decide ((4 : Int) < (k : Int)) = false := decide_eq_false (by omega)
              clear hb1 hb2 hd hws hva h4 R
              go_wp2_with fail
              refine (rsteps_c r W.lv.hl).mono ?_; rintro e w9 ⟨rfl, hw9⟩
              have hw9' := hw9.symm
              subst hw9'
              clear hw9
              rw [HSP.out]
              go_wp2_with fail
              refine (rvalue4_c r H4.out W.lv.hl).mono ?_; rintro e w9 ⟨rfl, hw9⟩
              have hw9' := hw9.symm
              subst hw9'
              clear hw9
              rw [HVA.out]
              go_wp2_with fail
              refine (raw_c x _).mono ?_; rintro e w9 ⟨rfl, hw9⟩
              have hw9' := hw9.symm
              subst hw9'
              clear hw9
              go_wp2_with fail
              refine (fix_r x.toNat _).mono ?_; rintro e w9 ⟨rfl, hw9⟩
              have hw9' := hw9.symm
              subst hw9'
              clear hw9
              rw [← HX.out]
              go_wp2_with fail
              refine (exact_c fx _).mono ?_; rintro e w9 ⟨rfl, hw9⟩
              have hw9' := hw9.symm
              subst hw9'
              clear hw9
              have M9 := W.lv.m
              have D9 := W.lv.fr
              have P9 := W.hP
              clear W
              obtain ⟨w9, hw9⟩ : ∃ w9 : World, w9 = wr := ⟨_, rfl⟩
              subst hw9
              have p0 : w9.cell? ⟨pb, 0, none⟩ = some (.int .i64 0) := cell_of_blk P9 rfl
              have p1 : w9.cell? ⟨pb, 1, none⟩ = some (.int .i64 0) := cell_of_blk P9 rfl
              have p2 : w9.cell? ⟨pb, 2, none⟩ = some (.int .i64 0) := cell_of_blk P9 rfl
              have p3 : w9.cell? ⟨pb, 3, none⟩ = some (.int .i64 0) := cell_of_blk P9 rfl
              have p4 : w9.cell? ⟨pb, 4, none⟩ = some (.int .i64 0) := cell_of_blk P9 rfl
              have p5 : w9.cell? ⟨pb, 5, none⟩ = some (.int .i64 0) := cell_of_blk P9 rfl
              go_wp2_with fail
              refine (read11 0 0 0 0 0 0 0 ab _).mono ?_; rintro e w10 ⟨l2, rfl, L10, gl, d10⟩
              have M10 := M9.mod d10 (by simp) (by simp)
              have D10 := D9.trans d10
              have gl2 : w.heap.size ≤ l2 := Nat.le_trans D9.size gl
              have gab : Hid (w.heap.size ≤ a ∧ w.heap.size ≤ b) := Lib.hid GAB.out
              clear p0 p1 p2 p3 p4 p5 M9 D9 P9 d10 gl
              have L10' : w10.heap[l2]? = some (.cells (rq ab fy 0).arr 177 (0, 0)) := L10
              clear L10
              go_wp2_with fail
              go_loopw [23] (fun iv wx => ∃ (j : Nat) (s : MemS), j ≤ 3 ∧ iv = .int .i64 j ∧ MemAt 142 wx a b s ∧ s.ws = wl ve ab fx fy 3 ∧ wx.heap[l2]? = some (.cells (rq ab fy j).arr 177 (0, 0)) ∧ Mod [] w wx) (fun iv _ => 3 - (intOf iv).toNat)
              case atStart => exact ⟨0, s, by omega, rfl, M10, HWS.out, L10', D10⟩
              case round =>
                clear M10 HWS L10' D10
                obtain ⟨j, s, hj, rfl, M, hws, L, D⟩ := hrel
                by_cases hlt3 : j < 3
                · have q := rq_step hlt3 hws FY.out
                  obtain ⟨q0, q1, q2, q3, q4⟩ := q
                  have Q1 := Lib.hid q1
                  have Q2 := Lib.hid q2
                  have Q3 := Lib.hid (q3.trans hws)
                  have Q4 := Lib.hid q4
                  clear q1 q2 q3 q4 hws
                  go_wp2_with fail
                  refine (open_c M).mono ?_; rintro e w11 ⟨rfl, M11, d11⟩
                  have L11 := d11.at L (by simp [blk_ne L M.hd (by decide), blk_ne L M.ws (by decide)])
                  have D11 := D.then d11 (by have := gab.out; simp; omega)
                  clear M L D d11
                  go_wp2_with fail
                  refine (rstep_c M11 _ q0 L11).mono ?_; rintro e w12 ⟨rfl, M12, L12, d12⟩
                  rw [Q1.out, Q2.out]
                  rw [Q4.out] at L12
                  have D12 := D11.then d12 (by have := gab.out; simp; omega)
                  clear M11 L11 D11 d12 q0 Q1 Q2 Q4
                  go_wp2
                  go_roundw
                  case rel => exact ⟨j + 1, _, by omega, by go_num, M12, Q3.out, L12, D12⟩
                  case measure => simp [intOf]; omega
                · obtain rfl : j = 3 := by omega
                  clear hws M
                  go_wp2_with fail
                  refine (rtorn_c _ L).mono ?_; rintro e w11 ⟨rfl, hw11⟩
                  have hw11' := hw11.symm
                  subst hw11'
                  clear hw11
                  rw [show (rq ab fy 3).tn = false from rfl]
                  go_wp2_with fail
                  refine (rvalue4_c _ rfl L).mono ?_; rintro e w11 ⟨rfl, hw11⟩
                  have hw11' := hw11.symm
                  subst hw11'
                  clear hw11
                  rw [show (rq ab fy 3).va = fy from rfl]
                  go_wp2_with fail
                  refine (raw_c y _).mono ?_; rintro e w11 ⟨rfl, hw11⟩
                  have hw11' := hw11.symm
                  subst hw11'
                  clear hw11
                  go_wp2_with fail
                  refine (fix_r y.toNat _).mono ?_; rintro e w11 ⟨rfl, hw11⟩
                  have hw11' := hw11.symm
                  subst hw11'
                  clear hw11
                  rw [← HY.out]
                  go_wp2_with fail
                  refine (exact_c fy _).mono ?_; rintro e w11 ⟨rfl, hw11⟩
                  have hw11' := hw11.symm
                  subst hw11'
                  clear hw11
                  go_wp2
                  go_ret
                  exact ⟨rfl, D⟩

end Go.Proofs.Ytobmgnoceacoaaa

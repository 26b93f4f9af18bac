/- TicketTurns: a step of one thread (51). -/
import Derived.Test.YtobmgnoceacoaaaTurnP
import Derived.Test.YtobmgnoceacoaaaTK
import Derived.Test.YtobmgnoceacoaaaMO
import Derived.Test.YtobmgnoceacoaaaCP
import Derived.Deep.RegionWith
import Derived.Deep.QuietTactic
import Derived.BigQuiet
import Derived.Deep.DeepCutAuto
import Derived.Deep.CutBlock
import Derived.Deep.RegionHeld3
import Derived.IntWalk
namespace Go.Proofs.Ytobmgnoceacoaaa
open Go.RowKit
variable {w0 w w' : World} {a b L n t : Nat} {s : MemS} {ws : List Int} {pt : Nat → Int} {tk : Nat → Nat} {drew : List Nat} {sg sv : Nat}


def turners (pt : Nat → Int) (tk : Nat → Nat) : Array Value := #[.int .i64 (pt 0), .int .u64 (tk 0 : Int), .int .i64 (pt 1), .int .u64 (tk 1 : Int), .int .i64 (pt 2), .int .u64 (tk 2 : Int), .int .i64 (pt 3), .int .u64 (tk 3 : Int), .int .i64 (pt 4), .int .u64 (tk 4 : Int), .int .i64 (pt 5), .int .u64 (tk 5 : Int), .int .i64 (pt 6), .int .u64 (tk 6 : Int), .int .i64 (pt 7), .int .u64 (tk 7 : Int)]
theorem eight {P : Nat → Prop} (h0 : P 0) (h1 : P 1) (h2 : P 2) (h3 : P 3) (h4 : P 4) (h5 : P 5) (h6 : P 6) (h7 : P 7) : ∀ t, t < 8 → P t := by
  intro t ht
  rcases (show t = 0 ∨ t = 1 ∨ t = 2 ∨ t = 3 ∨ t = 4 ∨ t = 5 ∨ t = 6 ∨ t = 7 by omega) with rfl | rfl | rfl | rfl | rfl | rfl | rfl | rfl
  · exact h0
  · exact h1
  · exact h2
  · exact h3
  · exact h4
  · exact h5
  · exact h6
  · exact h7
theorem turners_pt (pt : Nat → Int) (tk : Nat → Nat) : ∀ t, t < 8 → (turners pt tk)[t * 2]? = some (.int .i64 (pt t)) := eight rfl rfl rfl rfl rfl rfl rfl rfl
theorem turners_tk (pt : Nat → Int) (tk : Nat → Nat) : ∀ t, t < 8 → (turners pt tk)[t * 2 + 1]? = some (.int .u64 (tk t : Int)) := eight rfl rfl rfl rfl rfl rfl rfl rfl
theorem turners_setPt (pt : Nat → Int) (tk : Nat → Nat) (v : Int) : ∀ t, t < 8 → (turners pt tk).setIfInBounds (t * 2) (.int .i64 v) = turners (upd pt t v) tk := eight rfl rfl rfl rfl rfl rfl rfl rfl
theorem turners_setTk (pt : Nat → Int) (tk : Nat → Nat) (v : Nat) : ∀ t, t < 8 → (turners pt tk).setIfInBounds (t * 2 + 1) (.int .u64 (v : Int)) = turners pt (upd tk t v) := eight rfl rfl rfl rfl rfl rfl rfl rfl

set_option maxRecDepth 100000 in
set_option maxHeartbeats 40000000 in
theorem one_draw (ht : t < 8) (hM : MemAt 142 w a b s) (hL : w.heap[L]? = some (.cells (turners pt tk) 69 (0, 0))) (hw : s.ws = [(drew.length : Int), (sg : Int)]) (hp : pt t = 0) (hn : drew.length < 4611686018427387904) :
    Calls Try.prog 51 #[.pointer (some ⟨a, 0, none⟩), .agg #[.int .i64 0, .int .i64 1, .int .i64 0, .int .i64 0, .int .i64 0, .int .i64 0], .slice (some ⟨L, 0, none⟩) 8 8, .int .i64 t] w fun e w' => e = .returned (.tuple #[.int .i64 (-1), .bool true]) ∧
      ∃ s', MemAt 142 w' a b s' ∧ s'.ws = [(drew.length : Int) + 1, (sg : Int)] ∧ w'.heap[L]? = some (.cells (turners (upd pt t 1) (upd tk t drew.length)) 69 (0, 0)) ∧ Mod [a, b, L] w w' := by
  have lp : w.cell? ⟨L, t * 2, none⟩ = some (.int .i64 0) := (cell_of_blk hL (turners_pt _ _ t ht)).trans (by rw [hp])
  have hac : s.opened.acc 0 = 0 := by unfold MemS.acc MemS.opened; rw [if_neg (by simp only [hw]; simp)]; rfl
  have hgo : s.opened.got 0 = drew.length := by unfold MemS.got; rw [if_pos hac]; unfold MemS.at MemS.opened; simp only [hw]; rfl
  have had : (s.opened.add 0 1).ws = [(drew.length : Int) + 1, (sg : Int)] := by
    unfold MemS.add; rw [if_pos hac]
    have h0 : s.opened.at 0 = (drew.length : Int) := by unfold MemS.at MemS.opened; simp only [hw]; rfl
    rw [h0, IntWalk.u64_in _ (by omega)]
    unfold MemS.put MemS.touch MemS.opened
    simp only [hw]; rfl
  have Ha := Lib.hid hac
  have Hg := Lib.hid hgo
  have HD := Lib.hid had
  have hLa : L ≠ a := blk_ne hL hM.hd (by decide)
  have hLb : L ≠ b := blk_ne hL hM.ws (by decide)
  have hlt := lt_of_block hL
  have hla := hM.lta
  have hlb := hM.ltb
  have HP := Lib.hid hp
  clear hac hgo had hw hp
  go_enter Try.func51, Try.ntmps51
  go_wp2_with fail
  refine (open_c (hM.alloc _)).mono ?_; rintro e w1 ⟨rfl, M1, d1⟩
  have P1 : w1.heap[w.heap.size]? = some (.cells #[.int .i64 0, .int .i64 1, .int .i64 0, .int .i64 0, .int .i64 0, .int .i64 0] 35 (0, 0)) := d1.at (heap_alloc_new _ _) (by simp; omega)
  have L1 := d1.at (blk_alloc_old _ hL) (by simp [hLa, hLb])
  have D1 : Mod [a, b, L] w w1 := ((Mod.refl _ _).alloc _).trans (d1.mono (by simp))
  clear d1 hM hL lp
  generalize w.heap.size = pb at *
  have lp : w1.cell? ⟨L, t * 2, none⟩ = some (.int .i64 0) := (cell_of_blk L1 (turners_pt _ _ t ht)).trans (by rw [HP.out])
  have p0 : w1.cell? ⟨pb, 0, none⟩ = some (.int .i64 0) := cell_of_blk P1 rfl
  have p1 : w1.cell? ⟨pb, 1, none⟩ = some (.int .i64 1) := cell_of_blk P1 rfl
  have p2 : w1.cell? ⟨pb, 2, none⟩ = some (.int .i64 0) := cell_of_blk P1 rfl
  have p3 : w1.cell? ⟨pb, 3, none⟩ = some (.int .i64 0) := cell_of_blk P1 rfl
  have p4 : w1.cell? ⟨pb, 4, none⟩ = some (.int .i64 0) := cell_of_blk P1 rfl
  have p5 : w1.cell? ⟨pb, 5, none⟩ = some (.int .i64 0) := cell_of_blk P1 rfl
  go_wp2_with fail
  refine (draw_c M1 0 1 0 0 0 0).mono ?_; rintro e w2 ⟨rfl, M2, d2⟩
  rw [Ha.out, Hg.out]
  have L2 := d2.at L1 (by simp [hLa, hLb])
  clear p0 p1 p2 p3 p4 p5 P1 L1 M1 lp
  have lp : w2.cell? ⟨L, t * 2, none⟩ = some (.int .i64 (pt t)) := cell_of_blk L2 (turners_pt _ _ t ht)
  have lt : w2.cell? ⟨L, t * 2 + 1, none⟩ = some (.int .u64 (tk t : Int)) := cell_of_blk L2 (turners_tk _ _ t ht)
  have z0 := free_of_blk (i := t * 2) L2
  have z1 := free_of_blk (i := t * 2 + 1) L2
  go_upto_region 6 with fail
  have L3 := blk_setCell_same (i := t * 2) (.int .i64 1) L2
  rw [turners_setPt _ _ _ t ht] at L3
  have L4 := blk_setCell_same (i := t * 2 + 1) (.int .u64 (drew.length : Int)) L3
  rw [turners_setTk _ _ _ t ht] at L4
  have M4 := (M2.other L (t * 2) (.int .i64 1) (Ne.symm hLa) (Ne.symm hLb)).other L (t * 2 + 1) (.int .u64 (drew.length : Int)) (Ne.symm hLa) (Ne.symm hLb)
  have D4 : Mod [a, b, L] w ((w2.setCell ⟨L, t * 2, none⟩ (.int .i64 1)).setCell ⟨L, t * 2 + 1, none⟩ (.int .u64 (drew.length : Int))) := ((D1.trans (d2.mono (by simp))).setCell _ _ (.inl (by simp))).setCell _ _ (.inl (by simp))
  clear lp lt z0 z1 L2 L3 M2 d2 D1
  generalize (w2.setCell ⟨L, t * 2, none⟩ (.int .i64 1)).setCell ⟨L, t * 2 + 1, none⟩ (.int .u64 (drew.length : Int)) = w4 at *
  go_wp2
  go_ret2
  exact ⟨rfl, _, M4, HD.out, L4, D4⟩


/-- A thread's step under way. -/
structure OneW (w0 w : World) (a b L pb : Nat) (s : MemS) (pt : Nat → Int) (tk : Nat → Nat) : Prop where
  m : MemAt 142 w a b s
  hL : w.heap[L]? = some (.cells (turners pt tk) 69 (0, 0))
  hP : w.heap[pb]? = some (.cells #[.int .i64 0, .int .i64 1, .int .i64 0, .int .i64 0, .int .i64 0, .int .i64 0] 35 (0, 0))
  fr : Mod [a, b, L] w0 w
theorem OneW.drewN {pb : Nat} (h : OneW w0 w a b L pb s pt tk) (m : Nat) : OneW w0 (w.drewN m) a b L pb s pt tk := ⟨h.m.drewN m, h.hL, h.hP, h.fr.drewN m⟩
theorem OneW.step {pb : Nat} (h : OneW w0 w a b L pb s pt tk) : OneW w0 w.drew a b L pb s pt tk := ⟨h.m.drew, h.hL, h.hP, h.fr.drew⟩
theorem OneW.mem {pb : Nat} {s' : MemS} (h : OneW w0 w a b L pb s pt tk) (m : MemAt 142 w' a b s') (d : Mod [a, b] w w') : OneW w0 w' a b L pb s' pt tk :=
  ⟨m, d.at h.hL (by simp [blk_ne h.hL h.m.hd (by decide), blk_ne h.hL h.m.ws (by decide)]), d.at h.hP (by simp [blk_ne h.hP h.m.hd (by decide), blk_ne h.hP h.m.ws (by decide)]), h.fr.trans (d.mono (by simp))⟩
theorem OneW.setPt {pb : Nat} (h : OneW w0 w a b L pb s pt tk) (ht : t < 8) (v : Int) : OneW w0 (w.setCell ⟨L, t * 2, none⟩ (.int .i64 v)) a b L pb s (upd pt t v) tk := by
  refine ⟨h.m.other _ _ _ (blk_ne h.m.hd h.hL (by decide)) (blk_ne h.m.ws h.hL (by decide)), ?_, blk_setCell_other _ h.hP (blk_ne h.hP h.hL (by decide)), h.fr.setCell _ _ (.inl (by simp))⟩
  have := blk_setCell_same (i := t * 2) (.int .i64 v) h.hL
  rwa [turners_setPt _ _ _ t ht] at this

theorem ahead_lt {i : Nat} (h : 0 < pt i ∧ tk i < t) : ahead pt tk t (i + 1) = ahead pt tk t i + 1 := by rw [ahead, if_pos h]
theorem ahead_ge {i : Nat} (h : ¬ (0 < pt i ∧ tk i < t)) : ahead pt tk t (i + 1) = ahead pt tk t i := by rw [ahead, if_neg h]; rfl

set_option maxRecDepth 100000 in
set_option maxHeartbeats 40000000 in
theorem one_told (ht : t < 8) (hM : MemAt 142 w a b s) (hL : w.heap[L]? = some (.cells (turners pt tk) 69 (0, 0))) (hw : s.ws = [(drew.length : Int), (sg : Int)]) (hp : pt t = 1) (hpt : ∀ i, i < 8 → pt i = 0 ∨ pt i = 1 ∨ pt i = 2) (hA : sg + ahead pt tk (tk t) 8 = tk t) (hT : tk t = sg) :
    Calls Try.prog 51 #[.pointer (some ⟨a, 0, none⟩), .agg #[.int .i64 0, .int .i64 1, .int .i64 0, .int .i64 0, .int .i64 0, .int .i64 0], .slice (some ⟨L, 0, none⟩) 8 8, .int .i64 t] w fun e w' => e = .returned (.tuple #[.int .i64 t, .bool true]) ∧
      ∃ s', MemAt 142 w' a b s' ∧ s'.ws = s.ws ∧ w'.heap[L]? = some (.cells (turners (upd pt t 2) tk) 69 (0, 0)) ∧ Mod [a, b, L] w w' := by
  have hac : s.opened.acc 1 = 0 := by unfold MemS.acc MemS.opened; rw [if_neg (by simp only [hw]; simp)]; rfl
  have hbd : s.opened.bad 1 = 0 := by unfold MemS.bad MemS.opened; rw [if_neg (by simp only [hw]; simp)]
  have hpk : s.opened.peek 1 = (sg : Int) := by unfold MemS.peek; rw [if_pos hbd]; unfold MemS.at MemS.opened; simp only [hw]; rfl
  have hgo : s.opened.got 1 = (sg : Int) := by unfold MemS.got; rw [if_pos hac]; unfold MemS.at MemS.opened; simp only [hw]; rfl
  have hld : (s.opened.load 1).ws = s.ws := by unfold MemS.load; rw [if_pos hac]; rfl
  have hlk : s.opened.look 1 (tk t : Int) = true := by
    unfold MemS.look; rw [if_pos hac, hgo]; simp; omega
  obtain ⟨A, hAA⟩ : ∃ A, A = ahead pt tk (tk t) 8 := ⟨_, rfl⟩
  have hah : s.opened.ahead 1 (tk t : Int) = (A : Int) := by
    unfold MemS.ahead; rw [if_pos hbd, hpk]
    rw [if_pos (by omega)]; omega
  have hA0 : A = 0 := by omega
  have Hac := Lib.hid hac
  have Hbd := Lib.hid hbd
  have Hld := Lib.hid hld
  have Hlk := Lib.hid hlk
  have Hah := Lib.hid hah
  have HAA := Lib.hid hAA
  have HP := Lib.hid hp
  have hLa : L ≠ a := blk_ne hL hM.hd (by decide)
  have hLb : L ≠ b := blk_ne hL hM.ws (by decide)
  have hlt := lt_of_block hL
  have hla := hM.lta
  have hlb := hM.ltb
  clear hac hbd hpk hgo hld hlk hah hw hAA hp hA hT
  subst hA0
  have tI0 : (0 : Int) ≤ (t : Int) := Int.natCast_nonneg _
  have tI8 : (t : Int) < 8 := by omega
  go_enter Try.func51, Try.ntmps51
  go_wp2_with fail
  refine (open_c (hM.alloc _)).mono ?_; rintro e w1 ⟨rfl, M1, d1⟩
  have W1 : OneW w w1 a b L w.heap.size s.opened pt tk := ⟨M1, d1.at (blk_alloc_old _ hL) (by simp [hLa, hLb]), d1.at (heap_alloc_new _ _) (by simp; omega), ((Mod.refl _ _).alloc _).trans (d1.mono (by simp))⟩
  clear d1 hM hL M1 hLa hLb hlt hla hlb
  generalize w.heap.size = pb at *
  have lp : w1.cell? ⟨L, t * 2, none⟩ = some (.int .i64 1) := (cell_of_blk W1.hL (turners_pt _ _ t ht)).trans (by rw [HP.out])
  obtain ⟨T, hT⟩ : ∃ T, T = tk t := ⟨_, rfl⟩
  have HT := Lib.hid hT
  clear hT
  go_wp2_with fail
  go_loopw [12, 13] (fun k v wr => ∃ i : Nat, i ≤ 8 ∧ k = .int .i64 (ahead pt tk T i) ∧ v = .int .i64 i ∧ OneW w wr a b L pb s.opened pt tk) (fun _ v _ => 8 - (intOf v).toNat)
  case atStart => exact ⟨0, by omega, rfl, rfl, W1⟩
  case round =>
    clear W1 lp
    obtain ⟨i, hi, rfl, rfl, W⟩ := hrel
    by_cases hlt : i < 8
    · have li : wr.cell? ⟨L, i * 2, none⟩ = some (.int .i64 (pt i)) := cell_of_blk W.hL (turners_pt _ _ i hlt)
      have ti : wr.cell? ⟨L, i * 2 + 1, none⟩ = some (.int .u64 (tk i : Int)) := cell_of_blk W.hL (turners_tk _ _ i hlt)
      have tt : wr.cell? ⟨L, t * 2 + 1, none⟩ = some (.int .u64 (T : Int)) := (cell_of_blk W.hL (turners_tk _ _ t ht)).trans (by rw [HT.out])
      have hle := ahead_le (pt := pt) (tk := tk) (T := T) i
      by_cases hc : 0 < pt i ∧ tk i < T
      · have hnx := ahead_lt hc
        obtain ⟨hc1, hc2⟩ := hc
        have HX := Lib.hid hnx
        have hp12 : pt i = 1 ∨ pt i = 2 := by rcases hpt i hlt with h | h | h <;> omega
        have HP12 := Lib.hid hp12
        clear hnx hp12
        have hd : decide (0 < pt i) = true := decide_eq_true hc1
        have hd2 : decide (tk i < T) = true := decide_eq_true hc2
        go_wp2_with fail
        go_quiet (fail)
        go_wp2
        go_roundw
        case rel => exact ⟨i + 1, by omega, by rw [HX.out]; go_num, by go_num, W.drewN _⟩
        case measure => simp [intOf]; omega
      · have hnx := ahead_ge hc
        have HX := Lib.hid hnx
        clear hnx
        by_cases hc1 : 0 < pt i
        · have hc2 : ¬ tk i < T := fun h => hc ⟨hc1, h⟩
          have hd : decide (0 < pt i) = true := decide_eq_true hc1
          have hd2 : decide (tk i < T) = false := decide_eq_false hc2
          clear hc
          go_wp2_with fail
          go_quiet (fail)
          go_wp2
          go_roundw
          case rel => exact ⟨i + 1, by omega, by rw [HX.out], by go_num, W.drewN _⟩
          case measure => simp [intOf]; omega
        · have hd : decide (0 < pt i) = false := decide_eq_false hc1
          clear hc
          go_wp2_with fail
          go_quiet (fail)
          go_wp2
          go_roundw
          case rel => exact ⟨i + 1, by omega, by rw [HX.out], by go_num, W.drewN _⟩
          case measure => simp [intOf]; omega
    · obtain rfl : i = 8 := by omega
      rw [HT.out, ← HAA.out]
      have lt : wr.cell? ⟨L, t * 2 + 1, none⟩ = some (.int .u64 (tk t : Int)) := cell_of_blk W.hL (turners_tk _ _ t ht)
      have p0 : wr.cell? ⟨pb, 0, none⟩ = some (.int .i64 0) := cell_of_blk W.hP rfl
      have p1 : wr.cell? ⟨pb, 1, none⟩ = some (.int .i64 1) := cell_of_blk W.hP rfl
      have p2 : wr.cell? ⟨pb, 2, none⟩ = some (.int .i64 0) := cell_of_blk W.hP rfl
      have p3 : wr.cell? ⟨pb, 3, none⟩ = some (.int .i64 0) := cell_of_blk W.hP rfl
      have p4 : wr.cell? ⟨pb, 4, none⟩ = some (.int .i64 0) := cell_of_blk W.hP rfl
      have p5 : wr.cell? ⟨pb, 5, none⟩ = some (.int .i64 0) := cell_of_blk W.hP rfl
      obtain ⟨w2, rfl⟩ : ∃ w2, w2 = wr := ⟨_, rfl⟩
      go_upto_region 14 with fail
      go_cut [14, 15] (fun B C wx => B = .int .i64 (s.opened.ahead 1 (tk t : Int)) ∧ C = .int .i64 (s.opened.bad 1) ∧ OneW w wx a b L pb s.opened pt tk)
      case first =>
        go_region_held3 (fun wx => wx.cell? ⟨pb, 0, none⟩ = some (.int .i64 0) ∧ wx.cell? ⟨pb, 1, none⟩ = some (.int .i64 1) ∧ wx.cell? ⟨pb, 2, none⟩ = some (.int .i64 0) ∧ wx.cell? ⟨pb, 3, none⟩ = some (.int .i64 0) ∧ wx.cell? ⟨pb, 4, none⟩ = some (.int .i64 0) ∧ wx.cell? ⟨pb, 5, none⟩ = some (.int .i64 0) ∧ wx.cell? ⟨L, t * 2 + 1, none⟩ = some (.int .u64 (tk t : Int))) (first | exact ⟨p0, p1, p2, p3, p4, p5, lt⟩ | exact ⟨cell_of_blk W3.hP rfl, cell_of_blk W3.hP rfl, cell_of_blk W3.hP rfl, cell_of_blk W3.hP rfl, cell_of_blk W3.hP rfl, cell_of_blk W3.hP rfl, cell_of_blk W3.hL (turners_tk _ _ t ht)⟩)
          (first | (go_at_call 49; refine (ahead_c W.step.m 0 1 0 0 0 0 (tk t : Int)).mono ?_; rintro e w3 ⟨rfl, M3, d3⟩; have W3 := W.step.mem M3 d3))
        all_goals
          go_wp2_with fail
          go_meet
          exact ⟨rfl, rfl, W3⟩
      case rest =>
        obtain ⟨rfl, rfl, W3⟩ := hcut
        rw [Hah.out, Hbd.out]
        clear p0 p1 p2 p3 p4 p5 lt W
        obtain ⟨w3, rfl⟩ : ∃ w3, w3 = wc := ⟨_, rfl⟩
        have lt : w3.cell? ⟨L, t * 2 + 1, none⟩ = some (.int .u64 (tk t : Int)) := cell_of_blk W3.hL (turners_tk _ _ t ht)
        have p0 : w3.cell? ⟨pb, 0, none⟩ = some (.int .i64 0) := cell_of_blk W3.hP rfl
        have p1 : w3.cell? ⟨pb, 1, none⟩ = some (.int .i64 1) := cell_of_blk W3.hP rfl
        have p2 : w3.cell? ⟨pb, 2, none⟩ = some (.int .i64 0) := cell_of_blk W3.hP rfl
        have p3 : w3.cell? ⟨pb, 3, none⟩ = some (.int .i64 0) := cell_of_blk W3.hP rfl
        have p4 : w3.cell? ⟨pb, 4, none⟩ = some (.int .i64 0) := cell_of_blk W3.hP rfl
        have p5 : w3.cell? ⟨pb, 5, none⟩ = some (.int .i64 0) := cell_of_blk W3.hP rfl
        go_upto_region 15 with fail
        go_cut [16, 17] (fun B C wx => B = .bool (s.opened.look 1 (tk t : Int)) ∧ C = .int .i64 (s.opened.acc 1) ∧ OneW w wx a b L pb (s.opened.load 1) pt tk)
        case first =>
          go_region_held3 (fun wx => wx.cell? ⟨pb, 0, none⟩ = some (.int .i64 0) ∧ wx.cell? ⟨pb, 1, none⟩ = some (.int .i64 1) ∧ wx.cell? ⟨pb, 2, none⟩ = some (.int .i64 0) ∧ wx.cell? ⟨pb, 3, none⟩ = some (.int .i64 0) ∧ wx.cell? ⟨pb, 4, none⟩ = some (.int .i64 0) ∧ wx.cell? ⟨pb, 5, none⟩ = some (.int .i64 0) ∧ wx.cell? ⟨L, t * 2 + 1, none⟩ = some (.int .u64 (tk t : Int))) (first | exact ⟨p0, p1, p2, p3, p4, p5, lt⟩ | exact ⟨cell_of_blk W4.hP rfl, cell_of_blk W4.hP rfl, cell_of_blk W4.hP rfl, cell_of_blk W4.hP rfl, cell_of_blk W4.hP rfl, cell_of_blk W4.hP rfl, cell_of_blk W4.hL (turners_tk _ _ t ht)⟩)
            (first | (go_at_call 47; refine (look_c W3.step.m 0 1 0 0 0 0 (tk t : Int)).mono ?_; rintro e w4 ⟨rfl, M4, d4⟩; have W4 := W3.step.mem M4 d4))
          all_goals
            go_wp2_with fail
            go_meet
            exact ⟨rfl, rfl, W4⟩
        case rest =>
          obtain ⟨rfl, rfl, W4⟩ := hcut
          rw [Hlk.out, Hac.out]
          clear p0 p1 p2 p3 p4 p5 lt W3
          obtain ⟨w4, rfl⟩ : ∃ w4, w4 = wc := ⟨_, rfl⟩
          have lp : w4.cell? ⟨L, t * 2, none⟩ = some (.int .i64 (pt t)) := cell_of_blk W4.hL (turners_pt _ _ t ht)
          have fz := free_of_blk (i := t * 2) W4.hL
          go_upto_region 21 with fail
          have W5 := W4.setPt ht 2
          clear W4 lp fz
          generalize w4.setCell ⟨L, t * 2, none⟩ (.int .i64 2) = w5 at *
          go_wp2
          go_ret2
          exact ⟨rfl, _, W5.m, Hld.out, W5.hL, W5.fr⟩

set_option maxRecDepth 100000 in
set_option maxHeartbeats 40000000 in
theorem one_wait (ht : t < 8) (hM : MemAt 142 w a b s) (hL : w.heap[L]? = some (.cells (turners pt tk) 69 (0, 0))) (hw : s.ws = [(drew.length : Int), (sg : Int)]) (hp : pt t = 1) (hpt : ∀ i, i < 8 → pt i = 0 ∨ pt i = 1 ∨ pt i = 2) (hA : sg + ahead pt tk (tk t) 8 = tk t) (hT : sg < tk t) (hn : tk t < 2147483648) :
    Calls Try.prog 51 #[.pointer (some ⟨a, 0, none⟩), .agg #[.int .i64 0, .int .i64 1, .int .i64 0, .int .i64 0, .int .i64 0, .int .i64 0], .slice (some ⟨L, 0, none⟩) 8 8, .int .i64 t] w fun e w' => e = .returned (.tuple #[.int .i64 (-1), .bool true]) ∧
      ∃ s', MemAt 142 w' a b s' ∧ s'.ws = s.ws ∧ w'.heap[L]? = some (.cells (turners pt tk) 69 (0, 0)) ∧ Mod [a, b, L] w w' := by
  have hac : s.opened.acc 1 = 0 := by unfold MemS.acc MemS.opened; rw [if_neg (by simp only [hw]; simp)]; rfl
  have hbd : s.opened.bad 1 = 0 := by unfold MemS.bad MemS.opened; rw [if_neg (by simp only [hw]; simp)]
  have hpk : s.opened.peek 1 = (sg : Int) := by unfold MemS.peek; rw [if_pos hbd]; unfold MemS.at MemS.opened; simp only [hw]; rfl
  have hgo : s.opened.got 1 = (sg : Int) := by unfold MemS.got; rw [if_pos hac]; unfold MemS.at MemS.opened; simp only [hw]; rfl
  have hld : (s.opened.load 1).ws = s.ws := by unfold MemS.load; rw [if_pos hac]; rfl
  have hlk : s.opened.look 1 (tk t : Int) = false := by
    unfold MemS.look; rw [if_pos hac, hgo]; simp; omega
  obtain ⟨A, hAA⟩ : ∃ A, A = ahead pt tk (tk t) 8 := ⟨_, rfl⟩
  have hah : s.opened.ahead 1 (tk t : Int) = (A : Int) := by
    unfold MemS.ahead; rw [if_pos hbd, hpk]
    rw [if_neg (by omega), IntWalk.u64_in _ (by omega), if_pos (by omega)]; omega
  have hA0 : 0 < A := by omega
  have Hac := Lib.hid hac
  have Hbd := Lib.hid hbd
  have Hld := Lib.hid hld
  have Hlk := Lib.hid hlk
  have Hah := Lib.hid hah
  have HAA := Lib.hid hAA
  have HP := Lib.hid hp
  have hLa : L ≠ a := blk_ne hL hM.hd (by decide)
  have hLb : L ≠ b := blk_ne hL hM.ws (by decide)
  have hlt := lt_of_block hL
  have hla := hM.lta
  have hlb := hM.ltb
  clear hac hbd hpk hgo hld hlk hah hw hAA hp hA hT hn
  have hz : ((A : Int) == 0) = false := by simp; omega
  have hz' : decide ((A : Int) = 0) = false := by simp; omega
  have tI0 : (0 : Int) ≤ (t : Int) := Int.natCast_nonneg _
  have tI8 : (t : Int) < 8 := by omega
  go_enter Try.func51, Try.ntmps51
  go_wp2_with fail
  refine (open_c (hM.alloc _)).mono ?_; rintro e w1 ⟨rfl, M1, d1⟩
  have W1 : OneW w w1 a b L w.heap.size s.opened pt tk := ⟨M1, d1.at (blk_alloc_old _ hL) (by simp [hLa, hLb]), d1.at (heap_alloc_new _ _) (by simp; omega), ((Mod.refl _ _).alloc _).trans (d1.mono (by simp))⟩
  clear d1 hM hL M1 hLa hLb hlt hla hlb
  generalize w.heap.size = pb at *
  have lp : w1.cell? ⟨L, t * 2, none⟩ = some (.int .i64 1) := (cell_of_blk W1.hL (turners_pt _ _ t ht)).trans (by rw [HP.out])
  obtain ⟨T, hT⟩ : ∃ T, T = tk t := ⟨_, rfl⟩
  have HT := Lib.hid hT
  clear hT
  go_wp2_with fail
  go_loopw [12, 13] (fun k v wr => ∃ i : Nat, i ≤ 8 ∧ k = .int .i64 (ahead pt tk T i) ∧ v = .int .i64 i ∧ OneW w wr a b L pb s.opened pt tk) (fun _ v _ => 8 - (intOf v).toNat)
  case atStart => exact ⟨0, by omega, rfl, rfl, W1⟩
  case round =>
    clear W1 lp
    obtain ⟨i, hi, rfl, rfl, W⟩ := hrel
    by_cases hlt : i < 8
    · have li : wr.cell? ⟨L, i * 2, none⟩ = some (.int .i64 (pt i)) := cell_of_blk W.hL (turners_pt _ _ i hlt)
      have ti : wr.cell? ⟨L, i * 2 + 1, none⟩ = some (.int .u64 (tk i : Int)) := cell_of_blk W.hL (turners_tk _ _ i hlt)
      have tt : wr.cell? ⟨L, t * 2 + 1, none⟩ = some (.int .u64 (T : Int)) := (cell_of_blk W.hL (turners_tk _ _ t ht)).trans (by rw [HT.out])
      have hle := ahead_le (pt := pt) (tk := tk) (T := T) i
      by_cases hc : 0 < pt i ∧ tk i < T
      · have hnx := ahead_lt hc
        obtain ⟨hc1, hc2⟩ := hc
        have HX := Lib.hid hnx
        have hp12 : pt i = 1 ∨ pt i = 2 := by rcases hpt i hlt with h | h | h <;> omega
        have HP12 := Lib.hid hp12
        clear hnx hp12
        have hd : decide (0 < pt i) = true := decide_eq_true hc1
        have hd2 : decide (tk i < T) = true := decide_eq_true hc2
        go_wp2_with fail
        go_quiet (fail)
        go_wp2
        go_roundw
        case rel => exact ⟨i + 1, by omega, by rw [HX.out]; go_num, by go_num, W.drewN _⟩
        case measure => simp [intOf]; omega
      · have hnx := ahead_ge hc
        have HX := Lib.hid hnx
        clear hnx
        by_cases hc1 : 0 < pt i
        · have hc2 : ¬ tk i < T := fun h => hc ⟨hc1, h⟩
          have hd : decide (0 < pt i) = true := decide_eq_true hc1
          have hd2 : decide (tk i < T) = false := decide_eq_false hc2
          clear hc
          go_wp2_with fail
          go_quiet (fail)
          go_wp2
          go_roundw
          case rel => exact ⟨i + 1, by omega, by rw [HX.out], by go_num, W.drewN _⟩
          case measure => simp [intOf]; omega
        · have hd : decide (0 < pt i) = false := decide_eq_false hc1
          clear hc
          go_wp2_with fail
          go_quiet (fail)
          go_wp2
          go_roundw
          case rel => exact ⟨i + 1, by omega, by rw [HX.out], by go_num, W.drewN _⟩
          case measure => simp [intOf]; omega
    · obtain rfl : i = 8 := by omega
      rw [HT.out, ← HAA.out]
      have lt : wr.cell? ⟨L, t * 2 + 1, none⟩ = some (.int .u64 (tk t : Int)) := cell_of_blk W.hL (turners_tk _ _ t ht)
      have p0 : wr.cell? ⟨pb, 0, none⟩ = some (.int .i64 0) := cell_of_blk W.hP rfl
      have p1 : wr.cell? ⟨pb, 1, none⟩ = some (.int .i64 1) := cell_of_blk W.hP rfl
      have p2 : wr.cell? ⟨pb, 2, none⟩ = some (.int .i64 0) := cell_of_blk W.hP rfl
      have p3 : wr.cell? ⟨pb, 3, none⟩ = some (.int .i64 0) := cell_of_blk W.hP rfl
      have p4 : wr.cell? ⟨pb, 4, none⟩ = some (.int .i64 0) := cell_of_blk W.hP rfl
      have p5 : wr.cell? ⟨pb, 5, none⟩ = some (.int .i64 0) := cell_of_blk W.hP rfl
      obtain ⟨w2, rfl⟩ : ∃ w2, w2 = wr := ⟨_, rfl⟩
      go_upto_region 14 with fail
      go_cut [14, 15] (fun B C wx => B = .int .i64 (s.opened.ahead 1 (tk t : Int)) ∧ C = .int .i64 (s.opened.bad 1) ∧ OneW w wx a b L pb s.opened pt tk)
      case first =>
        go_region_held3 (fun wx => wx.cell? ⟨pb, 0, none⟩ = some (.int .i64 0) ∧ wx.cell? ⟨pb, 1, none⟩ = some (.int .i64 1) ∧ wx.cell? ⟨pb, 2, none⟩ = some (.int .i64 0) ∧ wx.cell? ⟨pb, 3, none⟩ = some (.int .i64 0) ∧ wx.cell? ⟨pb, 4, none⟩ = some (.int .i64 0) ∧ wx.cell? ⟨pb, 5, none⟩ = some (.int .i64 0) ∧ wx.cell? ⟨L, t * 2 + 1, none⟩ = some (.int .u64 (tk t : Int))) (first | exact ⟨p0, p1, p2, p3, p4, p5, lt⟩ | exact ⟨cell_of_blk W3.hP rfl, cell_of_blk W3.hP rfl, cell_of_blk W3.hP rfl, cell_of_blk W3.hP rfl, cell_of_blk W3.hP rfl, cell_of_blk W3.hP rfl, cell_of_blk W3.hL (turners_tk _ _ t ht)⟩)
          (first | (go_at_call 49; refine (ahead_c W.step.m 0 1 0 0 0 0 (tk t : Int)).mono ?_; rintro e w3 ⟨rfl, M3, d3⟩; have W3 := W.step.mem M3 d3))
        all_goals
          go_wp2_with fail
          go_meet
          exact ⟨rfl, rfl, W3⟩
      case rest =>
        obtain ⟨rfl, rfl, W3⟩ := hcut
        rw [Hah.out, Hbd.out]
        clear p0 p1 p2 p3 p4 p5 lt W
        obtain ⟨w3, rfl⟩ : ∃ w3, w3 = wc := ⟨_, rfl⟩
        have lt : w3.cell? ⟨L, t * 2 + 1, none⟩ = some (.int .u64 (tk t : Int)) := cell_of_blk W3.hL (turners_tk _ _ t ht)
        have p0 : w3.cell? ⟨pb, 0, none⟩ = some (.int .i64 0) := cell_of_blk W3.hP rfl
        have p1 : w3.cell? ⟨pb, 1, none⟩ = some (.int .i64 1) := cell_of_blk W3.hP rfl
        have p2 : w3.cell? ⟨pb, 2, none⟩ = some (.int .i64 0) := cell_of_blk W3.hP rfl
        have p3 : w3.cell? ⟨pb, 3, none⟩ = some (.int .i64 0) := cell_of_blk W3.hP rfl
        have p4 : w3.cell? ⟨pb, 4, none⟩ = some (.int .i64 0) := cell_of_blk W3.hP rfl
        have p5 : w3.cell? ⟨pb, 5, none⟩ = some (.int .i64 0) := cell_of_blk W3.hP rfl
        go_upto_region 15 with fail
        go_cut [16, 17] (fun B C wx => B = .bool (s.opened.look 1 (tk t : Int)) ∧ C = .int .i64 (s.opened.acc 1) ∧ OneW w wx a b L pb (s.opened.load 1) pt tk)
        case first =>
          go_region_held3 (fun wx => wx.cell? ⟨pb, 0, none⟩ = some (.int .i64 0) ∧ wx.cell? ⟨pb, 1, none⟩ = some (.int .i64 1) ∧ wx.cell? ⟨pb, 2, none⟩ = some (.int .i64 0) ∧ wx.cell? ⟨pb, 3, none⟩ = some (.int .i64 0) ∧ wx.cell? ⟨pb, 4, none⟩ = some (.int .i64 0) ∧ wx.cell? ⟨pb, 5, none⟩ = some (.int .i64 0) ∧ wx.cell? ⟨L, t * 2 + 1, none⟩ = some (.int .u64 (tk t : Int))) (first | exact ⟨p0, p1, p2, p3, p4, p5, lt⟩ | exact ⟨cell_of_blk W4.hP rfl, cell_of_blk W4.hP rfl, cell_of_blk W4.hP rfl, cell_of_blk W4.hP rfl, cell_of_blk W4.hP rfl, cell_of_blk W4.hP rfl, cell_of_blk W4.hL (turners_tk _ _ t ht)⟩)
            (first | (go_at_call 47; refine (look_c W3.step.m 0 1 0 0 0 0 (tk t : Int)).mono ?_; rintro e w4 ⟨rfl, M4, d4⟩; have W4 := W3.step.mem M4 d4))
          all_goals
            go_wp2_with fail
            go_meet
            exact ⟨rfl, rfl, W4⟩
        case rest =>
          obtain ⟨rfl, rfl, W4⟩ := hcut
          rw [Hlk.out, Hac.out]
          clear p0 p1 p2 p3 p4 p5 lt W3
          obtain ⟨w4, rfl⟩ : ∃ w4, w4 = wc := ⟨_, rfl⟩
          go_wp2
          go_ret2
          exact ⟨rfl, _, W4.m, Hld.out, W4.hL, W4.fr⟩

set_option maxRecDepth 100000 in
set_option maxHeartbeats 40000000 in
theorem one_pass (ht : t < 8) (hM : MemAt 142 w a b s) (hL : w.heap[L]? = some (.cells (turners pt tk) 69 (0, 0))) (hw : s.ws = [(drew.length : Int), (sg : Int)]) (hp : pt t = 2) (hT : tk t = sg) (hn : sg < 4611686018427387904) :
    Calls Try.prog 51 #[.pointer (some ⟨a, 0, none⟩), .agg #[.int .i64 0, .int .i64 1, .int .i64 0, .int .i64 0, .int .i64 0, .int .i64 0], .slice (some ⟨L, 0, none⟩) 8 8, .int .i64 t] w fun e w' => e = .returned (.tuple #[.int .i64 (-1), .bool true]) ∧
      ∃ s', MemAt 142 w' a b s' ∧ s'.ws = [(drew.length : Int), (sg : Int) + 1] ∧ w'.heap[L]? = some (.cells (turners (upd pt t 0) tk) 69 (0, 0)) ∧ Mod [a, b, L] w w' := by
  have hac : s.opened.acc 1 = 0 := by unfold MemS.acc MemS.opened; rw [if_neg (by simp only [hw]; simp)]; rfl
  have hst : (s.opened.store 1 (IntKind.u64.wrap ((tk t : Int) + 1))).ws = [(drew.length : Int), (sg : Int) + 1] := by
    unfold MemS.store; rw [if_pos hac, hT, IntWalk.u64_in _ (by omega)]
    unfold MemS.put MemS.touch MemS.opened; simp only [hw]; rfl
  have Hac := Lib.hid hac
  have Hst := Lib.hid hst
  have HP := Lib.hid hp
  have hLa : L ≠ a := blk_ne hL hM.hd (by decide)
  have hLb : L ≠ b := blk_ne hL hM.ws (by decide)
  have hlt := lt_of_block hL
  have hla := hM.lta
  have hlb := hM.ltb
  clear hac hst hw hp hT hn
  have tI0 : (0 : Int) ≤ (t : Int) := Int.natCast_nonneg _
  have tI8 : (t : Int) < 8 := by omega
  go_enter Try.func51, Try.ntmps51
  go_wp2_with fail
  refine (open_c (hM.alloc _)).mono ?_; rintro e w1 ⟨rfl, M1, d1⟩
  have W1 : OneW w w1 a b L w.heap.size s.opened pt tk := ⟨M1, d1.at (blk_alloc_old _ hL) (by simp [hLa, hLb]), d1.at (heap_alloc_new _ _) (by simp; omega), ((Mod.refl _ _).alloc _).trans (d1.mono (by simp))⟩
  clear d1 hM hL M1 hLa hLb hlt hla hlb
  generalize w.heap.size = pb at *
  have lp : w1.cell? ⟨L, t * 2, none⟩ = some (.int .i64 2) := (cell_of_blk W1.hL (turners_pt _ _ t ht)).trans (by rw [HP.out])
  have lt : w1.cell? ⟨L, t * 2 + 1, none⟩ = some (.int .u64 (tk t : Int)) := cell_of_blk W1.hL (turners_tk _ _ t ht)
  have p0 : w1.cell? ⟨pb, 0, none⟩ = some (.int .i64 0) := cell_of_blk W1.hP rfl
  have p1 : w1.cell? ⟨pb, 1, none⟩ = some (.int .i64 1) := cell_of_blk W1.hP rfl
  have p2 : w1.cell? ⟨pb, 2, none⟩ = some (.int .i64 0) := cell_of_blk W1.hP rfl
  have p3 : w1.cell? ⟨pb, 3, none⟩ = some (.int .i64 0) := cell_of_blk W1.hP rfl
  have p4 : w1.cell? ⟨pb, 4, none⟩ = some (.int .i64 0) := cell_of_blk W1.hP rfl
  have p5 : w1.cell? ⟨pb, 5, none⟩ = some (.int .i64 0) := cell_of_blk W1.hP rfl
  go_upto_region 22 with fail
  go_cut [18] (fun B wx => B = .int .i64 (s.opened.acc 1) ∧ OneW w wx a b L pb (s.opened.store 1 (IntKind.u64.wrap ((tk t : Int) + 1))) pt tk)
  case first =>
    go_region_held3 (fun wx => wx.cell? ⟨pb, 0, none⟩ = some (.int .i64 0) ∧ wx.cell? ⟨pb, 1, none⟩ = some (.int .i64 1) ∧ wx.cell? ⟨pb, 2, none⟩ = some (.int .i64 0) ∧ wx.cell? ⟨pb, 3, none⟩ = some (.int .i64 0) ∧ wx.cell? ⟨pb, 4, none⟩ = some (.int .i64 0) ∧ wx.cell? ⟨pb, 5, none⟩ = some (.int .i64 0) ∧ wx.cell? ⟨L, t * 2 + 1, none⟩ = some (.int .u64 (tk t : Int))) (first | exact ⟨p0, p1, p2, p3, p4, p5, lt⟩ | exact ⟨cell_of_blk W3.hP rfl, cell_of_blk W3.hP rfl, cell_of_blk W3.hP rfl, cell_of_blk W3.hP rfl, cell_of_blk W3.hP rfl, cell_of_blk W3.hP rfl, cell_of_blk W3.hL (turners_tk _ _ t ht)⟩)
      (first | (go_at_call 46; refine (pass_c W1.step.m 0 1 0 0 0 0 (tk t : Int)).mono ?_; rintro e w3 ⟨rfl, M3, d3⟩; have W3 := W1.step.mem M3 d3))
    all_goals
      go_wp2_with fail
      go_meet
      exact ⟨rfl, W3⟩
  case rest =>
    obtain ⟨rfl, W3⟩ := hcut
    rw [Hac.out]
    clear p0 p1 p2 p3 p4 p5 lt lp W1
    obtain ⟨w3, rfl⟩ : ∃ w3, w3 = wc := ⟨_, rfl⟩
    have lp : w3.cell? ⟨L, t * 2, none⟩ = some (.int .i64 (pt t)) := cell_of_blk W3.hL (turners_pt _ _ t ht)
    have fz := free_of_blk (i := t * 2) W3.hL
    go_upto_region 24 with fail
    have W5 := W3.setPt ht 0
    clear W3 lp fz
    generalize w3.setCell ⟨L, t * 2, none⟩ (.int .i64 0) = w5 at *
    go_wp2
    go_ret2
    exact ⟨rfl, _, W5.m, Hst.out, W5.hL, W5.fr⟩

end Go.Proofs.Ytobmgnoceacoaaa

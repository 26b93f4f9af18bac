/- Layer 11: Peek on both sides. -/
import Derived.Test.YtobmgnoceacoaaaYA
import Derived.Test.YtobmgnoceacoaaaXW
import Derived.Deep.QuietTactic
import Derived.BigQuiet
import Derived.Deep.DeepCutAuto
import Derived.Deep.CutBlock
import Derived.Deep.RegionHeld3
import Derived.StillTailTactics
import Derived.IntWalk
namespace Go.Proofs.Ytobmgnoceacoaaa
open Go.RowKit
attribute [local go_sem] run_store_float

variable {a b : Nat} {s : MemS} {w : World}
theorem bad_30 {i : Int} (h : s.bad i ≠ 0) : s.bad i = 30 := by unfold MemS.bad at h ⊢; split <;> simp_all
theorem cell_drew {w : World} {a : Addr} {v : Option Value} (h : w.cell? a = v) : w.drew.cell? a = v := h
/-- What Peek tells. -/
def MemS.tripE (s : MemS) (p4 c : Int) : Int := if c < 0 ∨ 256 ≤ c then 60 else if s.bad (wdAt p4 c 2) = 0 then 0 else 30
def MemS.tripV (s : MemS) (p4 c k : Int) : Int := if s.tripE p4 c = 0 then s.peek (wdAt p4 c k) else 0

set_option maxRecDepth 100000 in
set_option maxHeartbeats 40000000 in
theorem peekr_ok (hM : MemAt 148 w a b s) (p0 p1 p2 p3 p4 p5 c : Int) (h0 : 0 ≤ c) (h8 : c < 256) (hb : s.bad (wdAt p4 c 2) = 0) :
    Calls Try.prog 135 #[.pointer (some ⟨a, 0, none⟩), .agg #[.int .i64 p0, .int .i64 p1, .int .i64 p2, .int .i64 p3, .int .i64 p4, .int .i64 p5], .int .i64 c] w fun e w' => e = .returned (.tuple #[.agg #[.int .u64 (s.peek (wdAt p4 c 0)), .int .u64 (s.peek (wdAt p4 c 1)), .int .u64 (s.peek (wdAt p4 c 2))], .int .i64 0]) ∧ MemAt 148 w' a b s ∧ Mod [] w w' := by
  have hgood : ∀ k : Nat, k < 3 → s.bad (wdAt p4 c k) = 0 := by
    intro k hk
    have hp : ¬ (p4 < 0 ∨ 4096 < p4) := by intro hp; rw [wdAt_bad hp, bad_neg] at hb; exact absurd hb (by decide)
    rw [wdAt_ok (by omega) (by omega)] at hb ⊢
    unfold MemS.bad at hb ⊢
    split at hb
    · exact absurd hb (by decide)
    · rw [if_neg (by omega)]
  have HG := Lib.hid hgood
  clear hgood hb
  have hal := hM.lta
  have hbl := hM.ltb
  go_enter Try.func135, Try.ntmps135
  go_wp2_with fail
  refine (mayBe_y c h0 h8 _).mono ?_; rintro e w1 ⟨rfl, rfl⟩
  go_wp2_with fail
  have M0 := (hM.alloc (.cells #[.int .i64 p0, .int .i64 p1, .int .i64 p2, .int .i64 p3, .int .i64 p4, .int .i64 p5] 35)).alloc (.cells #[.int .u64 0, .int .u64 0, .int .u64 0] 30)
  have P0 := blk_alloc_old (.cells #[.int .u64 0, .int .u64 0, .int .u64 0] 30) (heap_alloc_new w (.cells #[.int .i64 p0, .int .i64 p1, .int .i64 p2, .int .i64 p3, .int .i64 p4, .int .i64 p5] 35))
  have T0 := blk2 w (.cells #[.int .i64 p0, .int .i64 p1, .int .i64 p2, .int .i64 p3, .int .i64 p4, .int .i64 p5] 35) (.cells #[.int .u64 0, .int .u64 0, .int .u64 0] 30)
  have D0 := ((Mod.refl [] w).alloc (.cells #[.int .i64 p0, .int .i64 p1, .int .i64 p2, .int .i64 p3, .int .i64 p4, .int .i64 p5] 35)).alloc (.cells #[.int .u64 0, .int .u64 0, .int .u64 0] 30)
  generalize (w.alloc (.cells #[.int .i64 p0, .int .i64 p1, .int .i64 p2, .int .i64 p3, .int .i64 p4, .int .i64 p5] 35)).alloc (.cells #[.int .u64 0, .int .u64 0, .int .u64 0] 30) = w0 at *
  have HB2 : Hid (w.heap.size ≤ w.heap.size + 2) := Lib.hid (by omega)
  have HB1 : Hid (w.heap.size ≤ w.heap.size + 1) := Lib.hid (by omega)
  generalize hpb : w.heap.size = pb at hal hbl P0 T0 ⊢
  have HB2 : Hid (w.heap.size ≤ pb + 2) := Lib.hid (by omega)
  have HB1 : Hid (w.heap.size ≤ pb + 1) := Lib.hid (by omega)
  clear hpb hM
  go_loopw [9, 10] (fun l i wr => ∃ k : Nat, k ≤ 3 ∧ i = .int .i64 k ∧ wr.ownsRow (pb + 2) 28 1 l k ((List.range k).map fun j : Nat => Value.int .u64 (s.peek (wdAt p4 c j))) ∧ MemAt 148 wr a b s ∧ wr.heap[pb]? = some (.cells #[.int .i64 p0, .int .i64 p1, .int .i64 p2, .int .i64 p3, .int .i64 p4, .int .i64 p5] 35 (0, 0)) ∧ wr.heap[pb + 1]? = some (.cells #[.int .u64 0, .int .u64 0, .int .u64 0] 30 (0, 0)) ∧ Mod [] w wr) (fun _ i _ => 3 - (intOf i).toNat)
  case atStart => exact ⟨0, by omega, rfl, World.ownsRow_nil _ _ _ _, M0, P0, T0, D0⟩
  case round =>
    clear M0 P0 T0 D0
    obtain ⟨k, hk, rfl, hown, M, hP, hT, D⟩ := hrel
    have hpl := lt_of_block hP
    have htl := lt_of_block hT
    by_cases hlt : k < 3
    · skip
      have q0 : wr.cell? ⟨pb, 0, none⟩ = some (.int .i64 p0) := cell_of_blk hP rfl
      have q1 : wr.cell? ⟨pb, 1, none⟩ = some (.int .i64 p1) := cell_of_blk hP rfl
      have q2 : wr.cell? ⟨pb, 2, none⟩ = some (.int .i64 p2) := cell_of_blk hP rfl
      have q3 : wr.cell? ⟨pb, 3, none⟩ = some (.int .i64 p3) := cell_of_blk hP rfl
      have q4 : wr.cell? ⟨pb, 4, none⟩ = some (.int .i64 p4) := cell_of_blk hP rfl
      have q5 : wr.cell? ⟨pb, 5, none⟩ = some (.int .i64 p5) := cell_of_blk hP rfl
      have hbk : s.bad (wdAt p4 c k) = 0 := HG.out k hlt
      have HK := Lib.hid hbk
      clear hbk
      go_wp2_with fail
      refine (word_r _ _ _ _ _ _ c k h0 h8 (by omega) (by omega) _).mono ?_; rintro e w1 ⟨rfl, rfl⟩
      go_wp2_with fail
      refine (peek_rq (M.alloc _) _).mono ?_; rintro e w1 ⟨rfl, rfl⟩
      rw [HK.out]
      obtain ⟨x, hx⟩ : ∃ x, x = s.peek (wdAt p4 c k) := ⟨_, rfl⟩
      rw [← hx]
      have HX := Lib.hid hx
      have M1 := M.alloc (.cells #[.int .i64 p0, .int .i64 p1, .int .i64 p2, .int .i64 p3, .int .i64 p4, .int .i64 p5] 35)
      have hown1 := hown.alloc (.cells #[.int .i64 p0, .int .i64 p1, .int .i64 p2, .int .i64 p3, .int .i64 p4, .int .i64 p5] 35)
      have P1 := blk_alloc_old (.cells #[.int .i64 p0, .int .i64 p1, .int .i64 p2, .int .i64 p3, .int .i64 p4, .int .i64 p5] 35) hP
      have T1 := blk_alloc_old (.cells #[.int .i64 p0, .int .i64 p1, .int .i64 p2, .int .i64 p3, .int .i64 p4, .int .i64 p5] 35) hT
      have D1 := D.alloc (.cells #[.int .i64 p0, .int .i64 p1, .int .i64 p2, .int .i64 p3, .int .i64 p4, .int .i64 p5] 35)
      clear hx hown M hP hT D q0 q1 q2 q3 q4 q5
      generalize wr.alloc (.cells #[.int .i64 p0, .int .i64 p1, .int .i64 p2, .int .i64 p3, .int .i64 p4, .int .i64 p5] 35) = w1 at *
      have hpl := lt_of_block P1
      have htl := lt_of_block T1
      obtain ⟨i0, hi0, hz0, hz1, hz2⟩ := info_parts info28
      go_wp2_with (at_builtin; refine wp_append rfl _ _ 36 rfl (pb + 2) 28 i0 (.int .u64 0) Try.underlying36 hi0 hz0 hz1 hz2 rfl _ _ _ rfl (hown1.alloc _) ⟨w1.heap.size, 0, none⟩ 1 1 [.int .u64 x] rfl rfl ?CA ?CB ?CC ?CD ?_)
      case CA => exact cell_one_new _ _ _
      case CB => intro u hu; simp at hu; subst hu; rfl
      case CC => omega
      case CD => simp; omega
      intro v' w' hap
      have hown2 : w'.ownsRow (pb + 2) 28 1 v' (k + 1) ((List.range (k + 1)).map fun j : Nat => Value.int .u64 (s.peek (wdAt p4 c j))) := by
        have h := hap.owns
        rw [HX.out] at h
        rw [List.range_succ, List.map_append]; exact h
      have M2 : MemAt 148 w' a b s := ⟨(hap.keep hown1 (by omega) M1.lta).trans M1.hd, (hap.keep hown1 (by omega) M1.ltb).trans M1.ws, M1.ne, M1.len⟩
      have P2 := (hap.keep hown1 (by omega) hpl).trans P1
      have T2 := (hap.keep hown1 (by omega) htl).trans T1
      have D2 := D1.appended _ hown1 HB2.out hap
      clear hap hown1 M1 P1 T1 D1
      go_wp2
      go_roundw
      case rel => exact ⟨k + 1, by omega, by go_num, hown2, M2, P2, T2, D2⟩
      case measure => simp [intOf]; omega
    · obtain rfl : k = 3 := by omega
      obtain ⟨g, cap, rfl, hg⟩ := owns_form hown (by omega)
      have hne : g ≠ pb + 1 := by omega
      obtain ⟨cur, hG⟩ : ∃ cur, wr.heap[g]? = some (.cells cur 28 (0, 0)) := by
        rcases hown.2 with ⟨hv, _⟩ | ⟨g', cap', cur, hv, _, hG, _⟩
        · simp at hv
        · simp at hv; obtain ⟨rfl, _⟩ := hv; exact ⟨cur, hG⟩
      have G3 : ∀ x y z : Value, (((wr.setCell ⟨pb + 1, 0, none⟩ x).setCell ⟨pb + 1, 1, none⟩ y).setCell ⟨pb + 1, 2, none⟩ z).heap[g]? = some (.cells cur 28 (0, 0)) := fun x y z => blk_setCell_other _ (blk_setCell_other _ (blk_setCell_other _ hG hne) hne) hne
      have HG3 := Lib.hid G3
      clear G3
      have k0 : cur[0]? = some (.int .u64 (s.peek (wdAt p4 c 0))) := by have h := hown.cells (g := g) rfl 0 _ rfl; simpa [World.cell?, hG, Addr.add] using h
      have k1 : cur[1]? = some (.int .u64 (s.peek (wdAt p4 c 1))) := by have h := hown.cells (g := g) rfl 1 _ rfl; simpa [World.cell?, hG, Addr.add] using h
      have k2 : cur[2]? = some (.int .u64 (s.peek (wdAt p4 c 2))) := by have h := hown.cells (g := g) rfl 2 _ rfl; simpa [World.cell?, hG, Addr.add] using h
      have HK0 := Lib.hid k0
      have HK1 := Lib.hid k1
      have HK2 := Lib.hid k2
      have HT := Lib.hid hT
      clear k0 k1 k2 hG
      have g0 : wr.cell? ⟨g, 0, none⟩ = some (.int .u64 (s.peek (wdAt p4 c 0))) := hown.cells (g := g) rfl 0 _ rfl
      have g1 : wr.cell? ⟨g, 1, none⟩ = some (.int .u64 (s.peek (wdAt p4 c 1))) := hown.cells (g := g) rfl 1 _ rfl
      have g2 : wr.cell? ⟨g, 2, none⟩ = some (.int .u64 (s.peek (wdAt p4 c 2))) := hown.cells (g := g) rfl 2 _ rfl
      have f0 := free_of_blk (i := 0) hT
      have f1 := free_of_blk (i := 1) hT
      have f2 := free_of_blk (i := 2) hT
      have t0 : wr.cell? ⟨pb + 1, 0, none⟩ = some (.int .u64 0) := cell_of_blk hT rfl
      have t1 : wr.cell? ⟨pb + 1, 1, none⟩ = some (.int .u64 0) := cell_of_blk hT rfl
      have t2 : wr.cell? ⟨pb + 1, 2, none⟩ = some (.int .u64 0) := cell_of_blk hT rfl
      clear hown hP hT
      obtain ⟨wz, hwz⟩ : ∃ wz : World, wz = wr := ⟨_, rfl⟩
      subst hwz
      have gd0 := cell_drew (cell_of_blk (HG3.out (.int .u64 (s.peek (wdAt p4 c 0))) (.int .u64 (s.peek (wdAt p4 c 1))) (.int .u64 (s.peek (wdAt p4 c 2)))) HK0.out)
      have gd1 := cell_drew (cell_of_blk (HG3.out (.int .u64 (s.peek (wdAt p4 c 0))) (.int .u64 (s.peek (wdAt p4 c 1))) (.int .u64 (s.peek (wdAt p4 c 2)))) HK1.out)
      have gd2 := cell_drew (cell_of_blk (HG3.out (.int .u64 (s.peek (wdAt p4 c 0))) (.int .u64 (s.peek (wdAt p4 c 1))) (.int .u64 (s.peek (wdAt p4 c 2)))) HK2.out)
      go_upto_region 13 with fail
      go_region_held3 (fun wx => wx.cell? ⟨g, 0, none⟩ = some (.int .u64 (s.peek (wdAt p4 c 0))) ∧ wx.cell? ⟨g, 1, none⟩ = some (.int .u64 (s.peek (wdAt p4 c 1))) ∧ wx.cell? ⟨g, 2, none⟩ = some (.int .u64 (s.peek (wdAt p4 c 2)))) (first | exact ⟨g0, g1, g2⟩ | exact ⟨gd0, gd1, gd2⟩) (fail)
      all_goals
        go_wp2
        have T3 : (((wz.setCell ⟨pb + 1, 0, none⟩ (.int .u64 (s.peek (wdAt p4 c 0)))).setCell ⟨pb + 1, 1, none⟩ (.int .u64 (s.peek (wdAt p4 c 1)))).setCell ⟨pb + 1, 2, none⟩ (.int .u64 (s.peek (wdAt p4 c 2)))).heap[pb + 1]? = some (.cells #[.int .u64 (s.peek (wdAt p4 c 0)), .int .u64 (s.peek (wdAt p4 c 1)), .int .u64 (s.peek (wdAt p4 c 2))] 30 (0, 0)) := blk_setCell_same (i := 2) (.int .u64 (s.peek (wdAt p4 c 2))) (blk_setCell_same (i := 1) (.int .u64 (s.peek (wdAt p4 c 1))) (blk_setCell_same (i := 0) (.int .u64 (s.peek (wdAt p4 c 0))) HT.out))
        have c0 : (((wz.setCell ⟨pb + 1, 0, none⟩ (.int .u64 (s.peek (wdAt p4 c 0)))).setCell ⟨pb + 1, 1, none⟩ (.int .u64 (s.peek (wdAt p4 c 1)))).setCell ⟨pb + 1, 2, none⟩ (.int .u64 (s.peek (wdAt p4 c 2)))).drew.cell? ⟨pb + 1, 0, none⟩ = some (.int .u64 (s.peek (wdAt p4 c 0))) := cell_of_blk T3 rfl
        have c1 : (((wz.setCell ⟨pb + 1, 0, none⟩ (.int .u64 (s.peek (wdAt p4 c 0)))).setCell ⟨pb + 1, 1, none⟩ (.int .u64 (s.peek (wdAt p4 c 1)))).setCell ⟨pb + 1, 2, none⟩ (.int .u64 (s.peek (wdAt p4 c 2)))).drew.cell? ⟨pb + 1, 1, none⟩ = some (.int .u64 (s.peek (wdAt p4 c 1))) := cell_of_blk T3 rfl
        have c2 : (((wz.setCell ⟨pb + 1, 0, none⟩ (.int .u64 (s.peek (wdAt p4 c 0)))).setCell ⟨pb + 1, 1, none⟩ (.int .u64 (s.peek (wdAt p4 c 1)))).setCell ⟨pb + 1, 2, none⟩ (.int .u64 (s.peek (wdAt p4 c 2)))).drew.cell? ⟨pb + 1, 2, none⟩ = some (.int .u64 (s.peek (wdAt p4 c 2))) := cell_of_blk T3 rfl
        exact bodyPost_ret (v := .tuple #[.agg #[.int .u64 (s.peek (wdAt p4 c 0)), .int .u64 (s.peek (wdAt p4 c 1)), .int .u64 (s.peek (wdAt p4 c 2))], .int .i64 0]) (by simp [results, Try.results135, go_sem, c0, c1, c2]) rfl ⟨rfl, (((M.other _ _ _ (by omega) (by omega)).other _ _ _ (by omega) (by omega)).other _ _ _ (by omega) (by omega)).drew, (((D.setCell _ _ (.inr HB1.out)).setCell _ _ (.inr HB1.out)).setCell _ _ (.inr HB1.out)).drew⟩

set_option maxRecDepth 100000 in
set_option maxHeartbeats 40000000 in
theorem peekr_bad (hM : MemAt 148 w a b s) (p0 p1 p2 p3 p4 p5 c : Int) (h0 : 0 ≤ c) (h8 : c < 256) (hb : s.bad (wdAt p4 c 2) ≠ 0) :
    Calls Try.prog 135 #[.pointer (some ⟨a, 0, none⟩), .agg #[.int .i64 p0, .int .i64 p1, .int .i64 p2, .int .i64 p3, .int .i64 p4, .int .i64 p5], .int .i64 c] w fun e w' => e = .returned (.tuple #[.agg #[.int .u64 0, .int .u64 0, .int .u64 0], .int .i64 30]) ∧ MemAt 148 w' a b s ∧ Mod [] w w' := by
  have HB := Lib.hid hb
  clear hb
  have hal := hM.lta
  have hbl := hM.ltb
  go_enter Try.func135, Try.ntmps135
  go_wp2_with fail
  refine (mayBe_y c h0 h8 _).mono ?_; rintro e w1 ⟨rfl, rfl⟩
  go_wp2_with fail
  have M0 := (hM.alloc (.cells #[.int .i64 p0, .int .i64 p1, .int .i64 p2, .int .i64 p3, .int .i64 p4, .int .i64 p5] 35)).alloc (.cells #[.int .u64 0, .int .u64 0, .int .u64 0] 30)
  have P0 := blk_alloc_old (.cells #[.int .u64 0, .int .u64 0, .int .u64 0] 30) (heap_alloc_new w (.cells #[.int .i64 p0, .int .i64 p1, .int .i64 p2, .int .i64 p3, .int .i64 p4, .int .i64 p5] 35))
  have T0 := blk2 w (.cells #[.int .i64 p0, .int .i64 p1, .int .i64 p2, .int .i64 p3, .int .i64 p4, .int .i64 p5] 35) (.cells #[.int .u64 0, .int .u64 0, .int .u64 0] 30)
  have D0 := ((Mod.refl [] w).alloc (.cells #[.int .i64 p0, .int .i64 p1, .int .i64 p2, .int .i64 p3, .int .i64 p4, .int .i64 p5] 35)).alloc (.cells #[.int .u64 0, .int .u64 0, .int .u64 0] 30)
  generalize (w.alloc (.cells #[.int .i64 p0, .int .i64 p1, .int .i64 p2, .int .i64 p3, .int .i64 p4, .int .i64 p5] 35)).alloc (.cells #[.int .u64 0, .int .u64 0, .int .u64 0] 30) = w0 at *
  have HB2 : Hid (w.heap.size ≤ w.heap.size + 2) := Lib.hid (by omega)
  have HB1 : Hid (w.heap.size ≤ w.heap.size + 1) := Lib.hid (by omega)
  generalize hpb : w.heap.size = pb at hal hbl P0 T0 ⊢
  have HB2 : Hid (w.heap.size ≤ pb + 2) := Lib.hid (by omega)
  have HB1 : Hid (w.heap.size ≤ pb + 1) := Lib.hid (by omega)
  clear hpb hM
  go_loopw [9, 10] (fun l i wr => ∃ k : Nat, k ≤ 3 ∧ i = .int .i64 k ∧ wr.ownsRow (pb + 2) 28 1 l k ((List.range k).map fun j : Nat => Value.int .u64 (s.peek (wdAt p4 c j))) ∧ MemAt 148 wr a b s ∧ wr.heap[pb]? = some (.cells #[.int .i64 p0, .int .i64 p1, .int .i64 p2, .int .i64 p3, .int .i64 p4, .int .i64 p5] 35 (0, 0)) ∧ wr.heap[pb + 1]? = some (.cells #[.int .u64 0, .int .u64 0, .int .u64 0] 30 (0, 0)) ∧ Mod [] w wr ∧ ∀ j : Nat, j < k → s.bad (wdAt p4 c j) = 0) (fun _ i _ => 3 - (intOf i).toNat)
  case atStart => exact ⟨0, by omega, rfl, World.ownsRow_nil _ _ _ _, M0, P0, T0, D0, fun j hj => absurd hj (by omega)⟩
  case round =>
    clear M0 P0 T0 D0
    obtain ⟨k, hk, rfl, hown, M, hP, hT, D, hgd⟩ := hrel
    have hpl := lt_of_block hP
    have htl := lt_of_block hT
    by_cases hlt : k < 3
    · skip
      have HGD := Lib.hid hgd
      clear hgd
      have q0 : wr.cell? ⟨pb, 0, none⟩ = some (.int .i64 p0) := cell_of_blk hP rfl
      have q1 : wr.cell? ⟨pb, 1, none⟩ = some (.int .i64 p1) := cell_of_blk hP rfl
      have q2 : wr.cell? ⟨pb, 2, none⟩ = some (.int .i64 p2) := cell_of_blk hP rfl
      have q3 : wr.cell? ⟨pb, 3, none⟩ = some (.int .i64 p3) := cell_of_blk hP rfl
      have q4 : wr.cell? ⟨pb, 4, none⟩ = some (.int .i64 p4) := cell_of_blk hP rfl
      have q5 : wr.cell? ⟨pb, 5, none⟩ = some (.int .i64 p5) := cell_of_blk hP rfl
      by_cases hbk : s.bad (wdAt p4 c k) = 0
      · have HK := Lib.hid hbk
        clear hbk
        go_wp2_with fail
        refine (word_r _ _ _ _ _ _ c k h0 h8 (by omega) (by omega) _).mono ?_; rintro e w1 ⟨rfl, rfl⟩
        go_wp2_with fail
        refine (peek_rq (M.alloc _) _).mono ?_; rintro e w1 ⟨rfl, rfl⟩
        rw [HK.out]
        obtain ⟨x, hx⟩ : ∃ x, x = s.peek (wdAt p4 c k) := ⟨_, rfl⟩
        rw [← hx]
        have HX := Lib.hid hx
        have M1 := M.alloc (.cells #[.int .i64 p0, .int .i64 p1, .int .i64 p2, .int .i64 p3, .int .i64 p4, .int .i64 p5] 35)
        have hown1 := hown.alloc (.cells #[.int .i64 p0, .int .i64 p1, .int .i64 p2, .int .i64 p3, .int .i64 p4, .int .i64 p5] 35)
        have P1 := blk_alloc_old (.cells #[.int .i64 p0, .int .i64 p1, .int .i64 p2, .int .i64 p3, .int .i64 p4, .int .i64 p5] 35) hP
        have T1 := blk_alloc_old (.cells #[.int .i64 p0, .int .i64 p1, .int .i64 p2, .int .i64 p3, .int .i64 p4, .int .i64 p5] 35) hT
        have D1 := D.alloc (.cells #[.int .i64 p0, .int .i64 p1, .int .i64 p2, .int .i64 p3, .int .i64 p4, .int .i64 p5] 35)
        clear hx hown M hP hT D q0 q1 q2 q3 q4 q5
        generalize wr.alloc (.cells #[.int .i64 p0, .int .i64 p1, .int .i64 p2, .int .i64 p3, .int .i64 p4, .int .i64 p5] 35) = w1 at *
        have hpl := lt_of_block P1
        have htl := lt_of_block T1
        obtain ⟨i0, hi0, hz0, hz1, hz2⟩ := info_parts info28
        go_wp2_with (at_builtin; refine wp_append rfl _ _ 36 rfl (pb + 2) 28 i0 (.int .u64 0) Try.underlying36 hi0 hz0 hz1 hz2 rfl _ _ _ rfl (hown1.alloc _) ⟨w1.heap.size, 0, none⟩ 1 1 [.int .u64 x] rfl rfl ?CA ?CB ?CC ?CD ?_)
        case CA => exact cell_one_new _ _ _
        case CB => intro u hu; simp at hu; subst hu; rfl
        case CC => omega
        case CD => simp; omega
        intro v' w' hap
        have hown2 : w'.ownsRow (pb + 2) 28 1 v' (k + 1) ((List.range (k + 1)).map fun j : Nat => Value.int .u64 (s.peek (wdAt p4 c j))) := by
          have h := hap.owns
          rw [HX.out] at h
          rw [List.range_succ, List.map_append]; exact h
        have M2 : MemAt 148 w' a b s := ⟨(hap.keep hown1 (by omega) M1.lta).trans M1.hd, (hap.keep hown1 (by omega) M1.ltb).trans M1.ws, M1.ne, M1.len⟩
        have P2 := (hap.keep hown1 (by omega) hpl).trans P1
        have T2 := (hap.keep hown1 (by omega) htl).trans T1
        have D2 := D1.appended _ hown1 HB2.out hap
        clear hap hown1 M1 P1 T1 D1
        go_wp2
        go_roundw
        case rel => exact ⟨k + 1, by omega, by go_num, hown2, M2, P2, T2, D2, fun j hj => by rcases Nat.lt_succ_iff_lt_or_eq.1 hj with h | rfl; exact HGD.out j h; exact HK.out⟩
        case measure => simp [intOf]; omega
      · have h30 := bad_30 hbk
        have H30 := Lib.hid h30
        clear hbk h30
        go_wp2_with fail
        refine (word_r _ _ _ _ _ _ c k h0 h8 (by omega) (by omega) _).mono ?_; rintro e w1 ⟨rfl, rfl⟩
        go_wp2_with fail
        refine (peek_rq (M.alloc _) _).mono ?_; rintro e w1 ⟨rfl, rfl⟩
        rw [H30.out]
        have M1 := M.alloc (.cells #[.int .i64 p0, .int .i64 p1, .int .i64 p2, .int .i64 p3, .int .i64 p4, .int .i64 p5] 35)
        have T1 := blk_alloc_old (.cells #[.int .i64 p0, .int .i64 p1, .int .i64 p2, .int .i64 p3, .int .i64 p4, .int .i64 p5] 35) hT
        have D1 := D.alloc (.cells #[.int .i64 p0, .int .i64 p1, .int .i64 p2, .int .i64 p3, .int .i64 p4, .int .i64 p5] 35)
        have f0 := free_of_blk (i := 0) T1
        have f1 := free_of_blk (i := 1) T1
        have f2 := free_of_blk (i := 2) T1
        have t0 : (wr.alloc (.cells #[.int .i64 p0, .int .i64 p1, .int .i64 p2, .int .i64 p3, .int .i64 p4, .int .i64 p5] 35)).cell? ⟨pb + 1, 0, none⟩ = some (.int .u64 0) := cell_of_blk T1 rfl
        have t1 : (wr.alloc (.cells #[.int .i64 p0, .int .i64 p1, .int .i64 p2, .int .i64 p3, .int .i64 p4, .int .i64 p5] 35)).cell? ⟨pb + 1, 1, none⟩ = some (.int .u64 0) := cell_of_blk T1 rfl
        have t2 : (wr.alloc (.cells #[.int .i64 p0, .int .i64 p1, .int .i64 p2, .int .i64 p3, .int .i64 p4, .int .i64 p5] 35)).cell? ⟨pb + 1, 2, none⟩ = some (.int .u64 0) := cell_of_blk T1 rfl
        clear hown M hP hT D q0 q1 q2 q3 q4 q5
        generalize wr.alloc (.cells #[.int .i64 p0, .int .i64 p1, .int .i64 p2, .int .i64 p3, .int .i64 p4, .int .i64 p5] 35) = w1 at *
        go_wp2
        have T3 : (((w1.setCell ⟨pb + 1, 0, none⟩ (.int .u64 0)).setCell ⟨pb + 1, 1, none⟩ (.int .u64 0)).setCell ⟨pb + 1, 2, none⟩ (.int .u64 0)).heap[pb + 1]? = some (.cells #[.int .u64 0, .int .u64 0, .int .u64 0] 30 (0, 0)) := blk_setCell_same (i := 2) (.int .u64 0) (blk_setCell_same (i := 1) (.int .u64 0) (blk_setCell_same (i := 0) (.int .u64 0) T1))
        have c0 : (((w1.setCell ⟨pb + 1, 0, none⟩ (.int .u64 0)).setCell ⟨pb + 1, 1, none⟩ (.int .u64 0)).setCell ⟨pb + 1, 2, none⟩ (.int .u64 0)).cell? ⟨pb + 1, 0, none⟩ = some (.int .u64 0) := cell_of_blk T3 rfl
        have c1 : (((w1.setCell ⟨pb + 1, 0, none⟩ (.int .u64 0)).setCell ⟨pb + 1, 1, none⟩ (.int .u64 0)).setCell ⟨pb + 1, 2, none⟩ (.int .u64 0)).cell? ⟨pb + 1, 1, none⟩ = some (.int .u64 0) := cell_of_blk T3 rfl
        have c2 : (((w1.setCell ⟨pb + 1, 0, none⟩ (.int .u64 0)).setCell ⟨pb + 1, 1, none⟩ (.int .u64 0)).setCell ⟨pb + 1, 2, none⟩ (.int .u64 0)).cell? ⟨pb + 1, 2, none⟩ = some (.int .u64 0) := cell_of_blk T3 rfl
        exact bodyPost_ret (v := .tuple #[.agg #[.int .u64 0, .int .u64 0, .int .u64 0], .int .i64 30]) (by simp [results, Try.results135, go_sem, c0, c1, c2]) rfl ⟨rfl, (((M1.other _ _ _ (by omega) (by omega)).other _ _ _ (by omega) (by omega)).other _ _ _ (by omega) (by omega)), (((D1.setCell _ _ (.inr HB1.out)).setCell _ _ (.inr HB1.out)).setCell _ _ (.inr HB1.out))⟩
    · obtain rfl : k = 3 := by omega
      exact absurd (hgd 2 (by omega)) HB.out

theorem peekr_all (hM : MemAt 148 w a b s) (p0 p1 p2 p3 p4 p5 c : Int) :
    Calls Try.prog 135 #[.pointer (some ⟨a, 0, none⟩), .agg #[.int .i64 p0, .int .i64 p1, .int .i64 p2, .int .i64 p3, .int .i64 p4, .int .i64 p5], .int .i64 c] w fun e w' => e = .returned (.tuple #[.agg #[.int .u64 (s.tripV p4 c 0), .int .u64 (s.tripV p4 c 1), .int .u64 (s.tripV p4 c 2)], .int .i64 (s.tripE p4 c)]) ∧ MemAt 148 w' a b s ∧ Mod [] w w' := by
  unfold MemS.tripV
  by_cases hc : c < 0 ∨ 256 ≤ c
  · have he : s.tripE p4 c = 60 := if_pos hc
    rw [he, if_neg (by decide), if_neg (by decide), if_neg (by decide)]
    clear he
    go_enter Try.func135, Try.ntmps135
    go_wp2_with fail
    refine (mayBe_n c hc _).mono ?_; rintro e w1 ⟨rfl, rfl⟩
    go_wp2
    exact bodyPost_ret (v := .tuple #[.agg #[.int .u64 0, .int .u64 0, .int .u64 0], .int .i64 60]) (by simp [results, Try.results135, go_sem]) rfl ⟨rfl, (hM.alloc _).alloc _, ((Mod.refl _ _).alloc _).alloc _⟩
  · by_cases hb : s.bad (wdAt p4 c 2) = 0
    · have he : s.tripE p4 c = 0 := by unfold MemS.tripE; rw [if_neg hc, if_pos hb]
      rw [he, if_pos rfl, if_pos rfl, if_pos rfl]
      exact peekr_ok hM _ _ _ _ _ _ c (by omega) (by omega) hb
    · have he : s.tripE p4 c = 30 := by unfold MemS.tripE; rw [if_neg hc, if_neg hb]
      rw [he, if_neg (by decide), if_neg (by decide), if_neg (by decide)]
      exact peekr_bad hM _ _ _ _ _ _ c (by omega) (by omega) hb
theorem peek11_all {a b : Nat} (hM : MemAt 142 w a b s) (p0 p1 p2 p3 p4 p5 c : Int) :
    Calls Try.prog 25 #[.pointer (some ⟨a, 0, none⟩), .agg #[.int .i64 p0, .int .i64 p1, .int .i64 p2, .int .i64 p3, .int .i64 p4, .int .i64 p5], .int .i64 c] w fun e w' => e = .returned (.tuple #[.agg #[.int .u64 (s.tripV p4 c 0), .int .u64 (s.tripV p4 c 1), .int .u64 (s.tripV p4 c 2)], .int .i64 (s.tripE p4 c)]) ∧ MemAt 142 w' a b s ∧ Mod [] w w' := by
  unfold MemS.tripV
  by_cases hc : c < 0 ∨ 256 ≤ c
  · have he : s.tripE p4 c = 60 := if_pos hc
    have hx := xpErr_cell (p4 := p4) hc
    have h := peek11_cell hM p0 p1 p2 p3 p4 p5 c (by rw [hx]; decide)
    rw [hx] at h
    rw [he, if_neg (by decide), if_neg (by decide), if_neg (by decide)]
    exact h
  · by_cases hp : p4 < 0 ∨ 4096 < p4
    · have he : s.tripE p4 c = 30 := by unfold MemS.tripE; rw [if_neg hc, wdAt_bad hp, bad_neg, if_neg (by decide)]
      have hx := xpErr_place (p4 := p4) (c := c) (by omega) (by omega) hp
      have h := peek11_cell hM p0 p1 p2 p3 p4 p5 c (by rw [hx]; decide)
      rw [hx] at h
      rw [he, if_neg (by decide), if_neg (by decide), if_neg (by decide)]
      exact h
    · have hx := xpErr_ok (p4 := p4) (c := c) (by omega) (by omega) (by omega) (by omega)
      by_cases hb : s.bad (wdAt p4 c 2) = 0
      · have he : s.tripE p4 c = 0 := by unfold MemS.tripE; rw [if_neg hc, if_pos hb]
        rw [he, if_pos rfl, if_pos rfl, if_pos rfl]
        rw [wdAt_ok (by omega) (by omega)] at hb
        have h := peek11_ok hM p0 p1 p2 p3 p4 p5 c hx hb
        rw [wdAt_ok (by omega) (by omega), wdAt_ok (by omega) (by omega), wdAt_ok (by omega) (by omega), Int.add_zero]
        exact h
      · have he : s.tripE p4 c = 30 := by unfold MemS.tripE; rw [if_neg hc, if_neg hb]
        rw [he, if_neg (by decide), if_neg (by decide), if_neg (by decide)]
        rw [wdAt_ok (by omega) (by omega)] at hb
        have h := peek11_bad hM p0 p1 p2 p3 p4 p5 c hx (by simpa using hb)
        rw [bad_30 hb] at h
        exact h

end Go.Proofs.Ytobmgnoceacoaaa

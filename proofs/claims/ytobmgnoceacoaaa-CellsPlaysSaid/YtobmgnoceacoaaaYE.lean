/- Layer 11: a step of a reading of the document's. -/
import Derived.Test.YtobmgnoceacoaaaYD
import Derived.Deep.QuietTactic
import Derived.BigQuiet
import Derived.Deep.DeepCutAuto
import Derived.Deep.CutBlock
import Derived.Deep.RegionHeld3
import Derived.StillTailTactics
import Derived.IntWalk
import Derived.Maps.AppendAt
namespace Go.Proofs.Ytobmgnoceacoaaa
open Go.RowKit
attribute [local go_sem] run_store_float

variable {a b k : Nat} {s : MemS} {w w' : World} {r : RdS} {u : Value} {L : List Int}
def refErr (r : RdS) (L : List Int) (s : MemS) : Int := if nextR r.st L < 0 then 3 else s.cellE r.p4 r.c (nextR r.st L)
def refMem (r : RdS) (L : List Int) (s : MemS) : MemS := if nextR r.st L < 0 then s else s.cellM r.p4 r.c (nextR r.st L)
def refNext (r : RdS) (L : List Int) (s : MemS) : List Int := if refErr r L s = 0 then L ++ [s.cellV r.p4 r.c (nextR r.st L)] else L
def refOver (r : RdS) (L : List Int) (s : MemS) : Bool := if refErr r L s = 0 then decide (nextR r.st (refNext r L s) < 0) else false
theorem nextR_lo (st : Int) (L : List Int) : -1 ≤ nextR st L := by unfold nextR; split <;> (try split) <;> decide
theorem nextR_hi (st : Int) (L : List Int) : nextR st L ≤ 2 := by unfold nextR; split <;> (try split) <;> decide
theorem nextR_len {st : Int} {L : List Int} (h : 0 ≤ nextR st L) : L.length ≤ 3 := by
  match L, h with
  | [], _ => simp
  | [_], _ => simp
  | [_, _], _ => simp
  | [_, _, _], _ => simp
  | _ :: _ :: _ :: _ :: _, h => exact absurd h (by show ¬ (0 : Int) ≤ -1; decide)
/-- The row of words went on, or is a new one. -/
def Onto (w : World) (u u' : Value) : Prop := u'.ownBlock = u.ownBlock ∨ ∃ g, u'.ownBlock = some g ∧ w.heap.size ≤ g
/-- What a step leaves: the memory, the reading; what it may have changed. -/
def RefStepped (w w' : World) (a b k : Nat) (u : Value) (s' : MemS) (r : RdS) (L' : List Int) : Prop :=
  ∃ u', RdRef w' k r u' L' ∧ MemAt 148 w' a b s' ∧ Onto w u u' ∧ Mod (a :: b :: k :: u.ownBlock.toList) w w'
theorem RefStepped.mk0 (h : RdRef w' k r u L) (m : MemAt 148 w' a b s) (q : Mod [a, b] w w') : RefStepped w w' a b k u s r L :=
  ⟨u, h, m, .inl rfl, q.mono (by simp)⟩
theorem refArr_set (r : RdS) (u u' : Value) : (refArr r u).setIfInBounds 8 u' = refArr r u' := rfl
theorem own_ne (h : RdRef w k r u L) {g : Nat} (hg : u.ownBlock = some g) : g ≠ k := by
  rcases h.own.2 with ⟨rfl, _⟩ | ⟨g', cap, cur, rfl, _, hgg, _⟩
  · simp [Value.ownBlock] at hg
  · simp [Value.ownBlock] at hg
    subst hg
    exact blk_ne hgg h.hd (by decide)
theorem own_ty (h : RdRef w k r u L) {g : Nat} (hg : u.ownBlock = some g) : ∃ cur, w.heap[g]? = some (.cells cur 28 (0, 0)) := by
  rcases h.own.2 with ⟨rfl, _⟩ | ⟨g', cap, cur, rfl, _, hgg, _⟩
  · simp [Value.ownBlock] at hg
  · simp [Value.ownBlock] at hg
    subst hg
    exact ⟨cur, hgg⟩

set_option maxRecDepth 100000 in
set_option maxHeartbeats 4000000 in
theorem rstep_over (h : RdRef w k r u L) (hL : L.length ≤ 4) (hn : nextR r.st L = -1) :
    Calls Try.prog 160 #[.pointer (some ⟨k, 0, none⟩), .pointer (some ⟨a, 0, none⟩)] w fun e w' => e = .returned (.tuple #[.bool false, .int .i64 3]) ∧ ∃ n, w' = w.drewN n := by
  have HX := Lib.hid hn
  clear hn
  go_enter Try.func160, Try.ntmps160
  go_wp2_with fail
  refine (next_r h hL).mono ?_; rintro e w1 ⟨rfl, n, rfl⟩
  rw [HX.out]
  go_wp2
  go_ret2
  exact ⟨rfl, _, rfl⟩
set_option maxRecDepth 100000 in
set_option maxHeartbeats 4000000 in
theorem rstep_cell (h : RdRef w k r u L) (hL : L.length ≤ 4) (hn : 0 ≤ nextR r.st L) (hc : r.c < 0 ∨ 256 ≤ r.c) :
    Calls Try.prog 160 #[.pointer (some ⟨k, 0, none⟩), .pointer (some ⟨a, 0, none⟩)] w fun e w' => e = .returned (.tuple #[.bool false, .int .i64 60]) ∧ ∃ n, w' = w.drewN n := by
  generalize hx : nextR r.st L = x at hn
  have HX := Lib.hid hx
  clear hx
  go_enter Try.func160, Try.ntmps160
  go_wp2_with fail
  refine (next_r h hL).mono ?_; rintro e w1 ⟨rfl, n, rfl⟩
  rw [HX.out]
  have r6 : (w.drewN n).cell? ⟨k, 6, none⟩ = some (.int .i64 r.c) := cell_of_blk (h.drewN n).hd rfl
  clear h
  go_wp2_with fail
  refine (mayBe_n r.c hc _).mono ?_; rintro e w2 ⟨rfl, hw2⟩
  have hw2' := hw2.symm
  subst hw2'
  go_wp2
  go_ret2
  exact ⟨rfl, _, rfl⟩

set_option maxRecDepth 100000 in
set_option maxHeartbeats 40000000 in
theorem rstep_bad (h : RdRef w k r u L) (hM : MemAt 148 w a b s) (HU : Hid (∀ g, u.ownBlock = some g → g ≠ a ∧ g ≠ b)) (hn : 0 ≤ nextR r.st L) (h0 : 0 ≤ r.c) (h8 : r.c < 256) (he : (s.cellE r.p4 r.c (nextR r.st L) != 0) = true) :
    Calls Try.prog 160 #[.pointer (some ⟨k, 0, none⟩), .pointer (some ⟨a, 0, none⟩)] w fun e w' => e = .returned (.tuple #[.bool false, .int .i64 (s.cellE r.p4 r.c (nextR r.st L))]) ∧ RdRef w' k r u L ∧ MemAt 148 w' a b (s.cellM r.p4 r.c (nextR r.st L)) ∧ Mod [a, b] w w' := by
  have hka : k ≠ a := blk_ne h.hd hM.hd (by decide)
  have hkb : k ≠ b := blk_ne h.hd hM.ws (by decide)
  have hx2 := nextR_hi r.st L
  have hlen := nextR_len hn
  generalize hx : nextR r.st L = x at hn hx2 he ⊢
  have HX := Lib.hid hx
  clear hx
  go_enter Try.func160, Try.ntmps160
  go_wp2_with fail
  refine (next_r h (by omega)).mono ?_; rintro e w1 ⟨rfl, n, rfl⟩
  rw [HX.out]
  have h1 := h.drewN n
  have M1 := hM.drewN n
  have D1 : Mod [] w (w.drewN n) := (Mod.refl _ _).drewN n
  clear h hM
  generalize w.drewN n = w1 at *
  have r6 : w1.cell? ⟨k, 6, none⟩ = some (.int .i64 r.c) := cell_of_blk h1.hd rfl
  have r0 : w1.cell? ⟨k, 0, none⟩ = some (.int .i64 r.p0) := cell_of_blk h1.hd rfl
  have r1 : w1.cell? ⟨k, 1, none⟩ = some (.int .i64 r.p1) := cell_of_blk h1.hd rfl
  have r2 : w1.cell? ⟨k, 2, none⟩ = some (.int .i64 r.p2) := cell_of_blk h1.hd rfl
  have r3 : w1.cell? ⟨k, 3, none⟩ = some (.int .i64 r.p3) := cell_of_blk h1.hd rfl
  have r4 : w1.cell? ⟨k, 4, none⟩ = some (.int .i64 r.p4) := cell_of_blk h1.hd rfl
  have r5 : w1.cell? ⟨k, 5, none⟩ = some (.int .i64 r.p5) := cell_of_blk h1.hd rfl
  go_wp2_with fail
  refine (mayBe_y r.c h0 h8 _).mono ?_; rintro e w2 ⟨rfl, hw2⟩
  have hw2' := hw2.symm
  subst hw2'
  clear hw2
  go_upto_region 7 with fail
  go_cut [8] (fun A wx => A = .int .i64 (wdAt r.p4 r.c x) ∧ RdRef wx k r u L ∧ MemAt 148 wx a b s ∧ Mod [] w wx)
  case first =>
    go_region_held3 (fun wx => wx.cell? ⟨k, 0, none⟩ = some (.int .i64 r.p0) ∧ wx.cell? ⟨k, 1, none⟩ = some (.int .i64 r.p1) ∧ wx.cell? ⟨k, 2, none⟩ = some (.int .i64 r.p2) ∧ wx.cell? ⟨k, 3, none⟩ = some (.int .i64 r.p3) ∧ wx.cell? ⟨k, 4, none⟩ = some (.int .i64 r.p4) ∧ wx.cell? ⟨k, 5, none⟩ = some (.int .i64 r.p5) ∧ wx.cell? ⟨k, 6, none⟩ = some (.int .i64 r.c)) (first | exact ⟨r0, r1, r2, r3, r4, r5, r6⟩ | exact ⟨cell_of_blk h2.hd rfl, cell_of_blk h2.hd rfl, cell_of_blk h2.hd rfl, cell_of_blk h2.hd rfl, cell_of_blk h2.hd rfl, cell_of_blk h2.hd rfl, cell_of_blk h2.hd rfl⟩)
      (first | (go_at_call 156; refine (word_r r.p0 r.p1 r.p2 r.p3 r.p4 r.p5 r.c x h0 h8 hn (by omega) _).mono ?_; rintro e w2 ⟨rfl, hw2⟩; have d2 : Mod [] w1.drew w2 := hw2 ▸ (Mod.refl _ _).alloc _; clear hw2; have h2 : RdRef w2 k r u L := (h1.drewN 1).mod d2 (by simp) (by simp)))
    all_goals
      go_wp2_with fail
      go_meet
      exact ⟨rfl, h2, M1.drew.mod d2 (by simp) (by simp), D1.drew.trans d2⟩
  case rest =>
    obtain ⟨rfl, h3, M3, D3⟩ := hcut
    clear r0 r1 r2 r3 r4 r5 r6 h1 M1 D1
    obtain ⟨w3, rfl⟩ : ∃ w3, w3 = wc := ⟨_, rfl⟩
    go_wp2_with fail
    refine (load_r M3 _).mono ?_; rintro e w4 ⟨rfl, M4, d4⟩
    rw [acc_wd h0 h8, got_wd h0 h8]
    rw [load_wd h0 h8] at M4
    have hg3 : ∀ g, u.ownBlock = some g → g ≠ a ∧ g ≠ b := HU.out
    have h4 : RdRef w4 k r u L := h3.mod d4 (by simp [hka, hkb]) (fun g hg => by have := hg3 g hg; simp [this.1, this.2])
    have D4 : Mod [a, b] w w4 := (D3.weak _).trans d4
    clear h3 M3 D3 d4 hg3
    go_wp2
    go_ret2
    exact ⟨rfl, h4, M4, D4⟩

set_option maxRecDepth 100000 in
set_option maxHeartbeats 40000000 in
theorem rstep_ok (h : RdRef w k r u L) (hM : MemAt 148 w a b s) (HU : Hid (∀ g, u.ownBlock = some g → g ≠ a ∧ g ≠ b)) (hn : 0 ≤ nextR r.st L) (h0 : 0 ≤ r.c) (h8 : r.c < 256) (he : s.cellE r.p4 r.c (nextR r.st L) = 0) (ov : Bool) (hov : decide (nextR r.st (L ++ [s.cellV r.p4 r.c (nextR r.st L)]) < 0) = ov) :
    Calls Try.prog 160 #[.pointer (some ⟨k, 0, none⟩), .pointer (some ⟨a, 0, none⟩)] w fun e w' => e = .returned (.tuple #[.bool ov, .int .i64 0]) ∧ RefStepped w w' a b k u (s.cellM r.p4 r.c (nextR r.st L)) r (L ++ [s.cellV r.p4 r.c (nextR r.st L)]) := by
  have He := Lib.hid he
  have hkl := lt_of_block h.hd
  have hka : k ≠ a := blk_ne h.hd hM.hd (by decide)
  have hkb : k ≠ b := blk_ne h.hd hM.ws (by decide)
  have hx2 := nextR_hi r.st L
  have hlen := nextR_len hn
  generalize hx : nextR r.st L = x at hn hx2 He hov ⊢
  have HX := Lib.hid hx
  clear hx
  go_enter Try.func160, Try.ntmps160
  go_wp2_with fail
  refine (next_r h (by omega)).mono ?_; rintro e w1 ⟨rfl, n, rfl⟩
  rw [HX.out]
  have h1 := h.drewN n
  have M1 := hM.drewN n
  have D1 : Mod [] w (w.drewN n) := (Mod.refl _ _).drewN n
  clear h hM
  generalize w.drewN n = w1 at *
  have r6 : w1.cell? ⟨k, 6, none⟩ = some (.int .i64 r.c) := cell_of_blk h1.hd rfl
  have r0 : w1.cell? ⟨k, 0, none⟩ = some (.int .i64 r.p0) := cell_of_blk h1.hd rfl
  have r1 : w1.cell? ⟨k, 1, none⟩ = some (.int .i64 r.p1) := cell_of_blk h1.hd rfl
  have r2 : w1.cell? ⟨k, 2, none⟩ = some (.int .i64 r.p2) := cell_of_blk h1.hd rfl
  have r3 : w1.cell? ⟨k, 3, none⟩ = some (.int .i64 r.p3) := cell_of_blk h1.hd rfl
  have r4 : w1.cell? ⟨k, 4, none⟩ = some (.int .i64 r.p4) := cell_of_blk h1.hd rfl
  have r5 : w1.cell? ⟨k, 5, none⟩ = some (.int .i64 r.p5) := cell_of_blk h1.hd rfl
  go_wp2_with fail
  refine (mayBe_y r.c h0 h8 _).mono ?_; rintro e w2 ⟨rfl, hw2⟩
  have hw2' := hw2.symm
  subst hw2'
  clear hw2
  go_upto_region 7 with fail
  go_cut [8] (fun A wx => A = .int .i64 (wdAt r.p4 r.c x) ∧ RdRef wx k r u L ∧ MemAt 148 wx a b s ∧ Mod [] w wx)
  case first =>
    go_region_held3 (fun wx => wx.cell? ⟨k, 0, none⟩ = some (.int .i64 r.p0) ∧ wx.cell? ⟨k, 1, none⟩ = some (.int .i64 r.p1) ∧ wx.cell? ⟨k, 2, none⟩ = some (.int .i64 r.p2) ∧ wx.cell? ⟨k, 3, none⟩ = some (.int .i64 r.p3) ∧ wx.cell? ⟨k, 4, none⟩ = some (.int .i64 r.p4) ∧ wx.cell? ⟨k, 5, none⟩ = some (.int .i64 r.p5) ∧ wx.cell? ⟨k, 6, none⟩ = some (.int .i64 r.c)) (first | exact ⟨r0, r1, r2, r3, r4, r5, r6⟩ | exact ⟨cell_of_blk h2.hd rfl, cell_of_blk h2.hd rfl, cell_of_blk h2.hd rfl, cell_of_blk h2.hd rfl, cell_of_blk h2.hd rfl, cell_of_blk h2.hd rfl, cell_of_blk h2.hd rfl⟩)
      (first | (go_at_call 156; refine (word_r r.p0 r.p1 r.p2 r.p3 r.p4 r.p5 r.c x h0 h8 hn (by omega) _).mono ?_; rintro e w2 ⟨rfl, hw2⟩; have d2 : Mod [] w1.drew w2 := hw2 ▸ (Mod.refl _ _).alloc _; clear hw2; have h2 : RdRef w2 k r u L := (h1.drewN 1).mod d2 (by simp) (by simp)))
    all_goals
      go_wp2_with fail
      go_meet
      exact ⟨rfl, h2, M1.drew.mod d2 (by simp) (by simp), D1.drew.trans d2⟩
  case rest =>
    obtain ⟨rfl, h3, M3, D3⟩ := hcut
    clear r0 r1 r2 r3 r4 r5 r6 h1 M1 D1
    obtain ⟨w3, rfl⟩ : ∃ w3, w3 = wc := ⟨_, rfl⟩
    go_wp2_with fail
    refine (load_r M3 _).mono ?_; rintro e w4 ⟨rfl, M4, d4⟩
    rw [acc_wd h0 h8, got_wd h0 h8]
    rw [load_wd h0 h8] at M4
    have hg3 : ∀ g, u.ownBlock = some g → g ≠ a ∧ g ≠ b := HU.out
    have h4 : RdRef w4 k r u L := h3.mod d4 (by simp [hka, hkb]) (fun g hg => by have := hg3 g hg; simp [this.1, this.2])
    have D4 : Mod [a, b] w w4 := (D3.weak _).trans d4
    clear h3 M3 D3 d4 hg3
    rw [He.out]
    have HV := Lib.hid hov
    clear hov he
    obtain ⟨v, hv⟩ : ∃ v, v = s.cellV r.p4 r.c x := ⟨_, rfl⟩
    rw [← hv]
    rw [← hv] at HV
    have HVV := Lib.hid hv
    clear hv
    have hz4 := D4.size
    have r8 : w4.cell? ⟨k, 8, none⟩ = some u := cell_of_blk h4.hd rfl
    have hk4 := lt_of_block h4.hd
    obtain ⟨i0, hi0, hz0, hz1, hz2⟩ := info_parts info28
    go_wp2_with (at_builtin; refine wpList_append_own_at _ rfl _ _ 36 rfl 0 28 i0 (.int .u64 0) 1 8 Try.underlying36 hi0 hz0 hz1 hz2 rfl (by decide) _ _ _ rfl (h4.own.alloc _) ⟨w4.heap.size, 0, none⟩ 1 1 [.int .u64 v] rfl rfl ?CA ?CB ?CC ?CD ?CE ?_)
    case CA => exact cell_one_new _ _ _
    case CB => intro u hu; simp at hu; subst hu; rfl
    case CC => unfold maxLen; omega
    case CD => omega
    case CE => exact Nat.zero_le _
    intro u' w5 ho5 hg5 _ hat
    obtain ⟨g5, cap5, rfl, -⟩ := owns_form ho5 (by omega)
    have hne : ∀ g, u.ownBlock = some g → g ≠ k := fun g hg => own_ne h4 hg
    have K5 : w5.heap[k]? = some (.cells (refArr r u) 203 (0, 0)) := (hg5.block k (by simp; omega) (fun e => hne k e.symm rfl)).trans (blk_alloc_old _ h4.hd)
    have M5 : MemAt 148 w5 a b (s.cellM r.p4 r.c x) := ⟨(hg5.block a (by have := M4.lta; simp; omega) (fun e => (HU.out a e.symm).1 rfl)).trans (blk_alloc_old _ M4.hd), (hg5.block b (by have := M4.ltb; simp; omega) (fun e => (HU.out b e.symm).2 rfl)).trans (blk_alloc_old _ M4.ws), M4.ne, M4.len⟩
    have D5 : Mod (a :: b :: k :: u.ownBlock.toList) w w5 := ((D4.mono (T := a :: b :: k :: u.ownBlock.toList) (by simp)).alloc _).grown hg5 (fun g hg => .inl (by simp [hg]))
    have hune : ∀ g, (Value.slice (some ⟨g5, 0, none⟩) (L.length + 1) cap5).ownBlock = some g → g ≠ k := by
      intro g hg
      rcases hat with e | e
      · exact hne g (e ▸ hg)
      · rw [e] at hg; simp at hg; omega
    have hon : Onto w u (.slice (some ⟨g5, 0, none⟩) (L.length + 1) cap5) := by
      rcases hat with e | e
      · exact .inl e
      · exact .inr ⟨_, e, by first | omega | (rw [World.size_alloc]; omega)⟩
    have ho5' : w5.ownsRow 0 28 1 (.slice (some ⟨g5, 0, none⟩) (L.length + 1) cap5) (L ++ [v]).length ((L ++ [v]).map (Value.int .u64)) := by simpa using ho5
    have HNE := Lib.hid hune
    have HON := Lib.hid hon
    have z8 := free_of_blk (i := 8) K5
    have r8 : w5.cell? ⟨k, 8, none⟩ = some u := cell_of_blk K5 rfl
    have hk5 := lt_of_block K5
    clear hne hat hune hon hg5 ho5 h4 M4 D4 hz4 hk4
    go_upto_region 12 with fail
    have K6 := blk_setCell_same (i := 8) (.slice (some ⟨g5, 0, none⟩) (L.length + 1) cap5) K5
    rw [refArr_set] at K6
    have d6 : Mod [k] w5 (w5.setCell ⟨k, 8, none⟩ (.slice (some ⟨g5, 0, none⟩) (L.length + 1) cap5)) := (Mod.refl _ _).setCell _ _ (.inl (by simp))
    have o6 := own_mod ho5' d6 (fun g hg => by simp [HNE.out g hg])
    have M6 := M5.other k 8 (.slice (some ⟨g5, 0, none⟩) (L.length + 1) cap5) (Ne.symm hka) (Ne.symm hkb)
    have D6 : Mod (a :: b :: k :: u.ownBlock.toList) w (w5.setCell ⟨k, 8, none⟩ (.slice (some ⟨g5, 0, none⟩) (L.length + 1) cap5)) := D5.setCell _ _ (.inl (by simp))
    have h6 : RdRef (w5.setCell ⟨k, 8, none⟩ (.slice (some ⟨g5, 0, none⟩) (L.length + 1) cap5)) k r (.slice (some ⟨g5, 0, none⟩) (L.length + 1) cap5) (L ++ [v]) := ⟨K6, o6⟩
    clear K5 M5 D5 K6 d6 o6 ho5' z8 r8 hk5
    generalize w5.setCell ⟨k, 8, none⟩ (.slice (some ⟨g5, 0, none⟩) (L.length + 1) cap5) = w6 at *
    go_wp2_with fail
    refine (next_r h6 (by simp; omega)).mono ?_; rintro e w7 ⟨rfl, n7, rfl⟩
    obtain ⟨y, hy⟩ : ∃ y, y = nextR r.st (L ++ [v]) := ⟨_, rfl⟩
    rw [← hy]
    have hyo : decide (y < 0) = ov := by rw [hy]; exact HV.out
    clear hy
    go_wp2
    go_ret2
    rw [← HVV.out]
    exact ⟨rfl, _, h6.drewN _, M6.drewN _, HON.out, D6.drewN _⟩

theorem rstep_r (h : RdRef w k r u L) (hL : L.length ≤ 4) (hM : MemAt 148 w a b s) (HU : ∀ g, u.ownBlock = some g → g ≠ a ∧ g ≠ b) :
    Calls Try.prog 160 #[.pointer (some ⟨k, 0, none⟩), .pointer (some ⟨a, 0, none⟩)] w fun e w' => e = .returned (.tuple #[.bool (refOver r L s), .int .i64 (refErr r L s)]) ∧ RefStepped w w' a b k u (refMem r L s) r (refNext r L s) := by
  have hlo := nextR_lo r.st L
  by_cases hn : nextR r.st L < 0
  · have e1 : refErr r L s = 3 := if_pos hn
    have e2 : refMem r L s = s := if_pos hn
    have e3 : refNext r L s = L := by unfold refNext; rw [e1, if_neg (by decide)]
    have e4 : refOver r L s = false := by unfold refOver; rw [e1, if_neg (by decide)]
    rw [e1, e2, e3, e4]
    exact (rstep_over h hL (by omega)).mono fun e w' ⟨he, n, hw⟩ => ⟨he, hw ▸ .mk0 (h.drewN n) (hM.drewN n) ((Mod.refl _ _).drewN n)⟩
  · have f1 : refErr r L s = s.cellE r.p4 r.c (nextR r.st L) := if_neg hn
    have f2 : refMem r L s = s.cellM r.p4 r.c (nextR r.st L) := if_neg hn
    by_cases hc : r.c < 0 ∨ 256 ≤ r.c
    · obtain ⟨c1, c2, c3⟩ := cellE_c (s := s) (p4 := r.p4) (k := nextR r.st L) hc
      have e3 : refNext r L s = L := by unfold refNext; rw [f1, c1, if_neg (by decide)]
      have e4 : refOver r L s = false := by unfold refOver; rw [f1, c1, if_neg (by decide)]
      rw [f1, f2, e3, e4, c1, c2]
      exact (rstep_cell h hL (by omega) hc).mono fun e w' ⟨he, n, hw⟩ => ⟨he, hw ▸ .mk0 (h.drewN n) (hM.drewN n) ((Mod.refl _ _).drewN n)⟩
    · by_cases he : s.cellE r.p4 r.c (nextR r.st L) = 0
      · have e3 : refNext r L s = L ++ [s.cellV r.p4 r.c (nextR r.st L)] := by unfold refNext; rw [f1, he, if_pos rfl]
        have e4 : refOver r L s = decide (nextR r.st (L ++ [s.cellV r.p4 r.c (nextR r.st L)]) < 0) := by unfold refOver; rw [f1, he, if_pos rfl, e3]
        rw [f1, f2, e3, e4, he]
        exact rstep_ok h hM (Lib.hid HU) (by omega) (by omega) (by omega) he _ rfl
      · have e3 : refNext r L s = L := by unfold refNext; rw [f1, if_neg he]
        have e4 : refOver r L s = false := by unfold refOver; rw [f1, if_neg he]
        rw [f1, f2, e3, e4]
        exact (rstep_bad h hM (Lib.hid HU) (by omega) (by omega) (by omega) (by simp [he])).mono fun e w' ⟨he, h', m', q⟩ => ⟨he, .mk0 h' m' q⟩

end Go.Proofs.Ytobmgnoceacoaaa

/- CellsWhole: the plain part. -/
import Derived.Test.YtobmgnoceacoaaaXCP
import Derived.Deep.QuietTactic
import Derived.BigQuiet
import Derived.Deep.DeepCutAuto
import Derived.Deep.CutBlock
import Derived.Deep.RegionHeld3
import Derived.StillTailTactics
import Derived.IntWalk
namespace Go.Proofs.Ytobmgnoceacoaaa
open Go.RowKit
attribute [local go_sem] run_store_float

/-- The three words after m writes. -/
def wl (ve ab : Int) (fx fy : Nat) (m : Nat) : List Int := [if m < 2 then ve else ab, if m < 3 then (fx : Int) else fy, if m < 1 then 0 else (fx : Int)]
/-- A reading of k accesses beside a writing of m. -/
structure WhR (ve st : Int) (fx : Nat) (m k : Nat) (r : RdS) : Prop where
  p4 : r.p4 = 0
  c : r.c = 0
  st : r.st = st
  sp : r.sp = k
  pa : (r.pa = 0 ∧ k = 0) ∨ (r.pa = 1 ∧ k = 1 ∧ r.ve = ve) ∨ (r.pa = 2 ∧ k = 2 ∧ r.ve = ve ∧ (r.va = fx ∨ m = 3)) ∨ (r.pa = 3 ∧ 1 ≤ k ∧ k ≤ 3 ∧ 2 ≤ m) ∨ (r.pa = 4 ∧ 1 ≤ k ∧ k ≤ 4 ∧ r.va = fx)
variable {ve st ab : Int} {fx fy m k : Nat} {r : RdS} {s : MemS} {q : WrS}
theorem WhR.inv (h : WhR ve st fx m k r) : r.Inv := by
  rcases h.pa with ⟨e, _⟩ | ⟨e, _⟩ | ⟨e, _⟩ | ⟨e, _⟩ | ⟨e, _⟩ <;> exact ⟨by omega, by omega⟩
theorem WhR.k4 (h : WhR ve st fx m k r) : k ≤ 4 := by
  rcases h.pa with ⟨_, e⟩ | ⟨_, e, _⟩ | ⟨_, e, _⟩ | ⟨_, _, e, _⟩ | ⟨_, _, e, _⟩ <;> omega
theorem WhR.up (h : WhR ve st fx m k r) (hm : m < 3) : WhR ve st fx (m + 1) k r := by
  refine ⟨h.p4, h.c, h.st, h.sp, ?_⟩
  rcases h.pa with e | e | ⟨e, f, g, i⟩ | ⟨e, f, g, i⟩ | e
  · exact .inl e
  · exact .inr (.inl e)
  · exact .inr (.inr (.inl ⟨e, f, g, .inl (i.resolve_right (by omega))⟩))
  · exact .inr (.inr (.inr (.inl ⟨e, f, g, by omega⟩)))
  · exact .inr (.inr (.inr (.inr e)))
theorem WhR.step (h : WhR ve st fx m k r) (hws : s.ws = wl ve ab fx fy m) (h4 : r.pa ≠ 4) (hv : ve ≤ st) (hab : st < ab) (hm : m ≤ 3) (hfx : fixB fx = fx) :
    r.err s.opened = 0 ∧ (r.mem s.opened).ws = s.ws ∧ WhR ve st fx m (k + 1) (r.next s.opened) ∧ r.over s.opened = ((r.next s.opened).pa == 4) := by
  obtain ⟨w0, w3⟩ := r.which_bd
  have hl : s.opened.ws.length = 3 := by show s.ws.length = 3; rw [hws]; rfl
  have hacc : ∀ i : Int, 0 ≤ i → i < 3 → s.opened.acc i = 0 := fun i h0 h3 => by unfold MemS.acc; rw [if_neg (by omega)]; rfl
  have hx := xpErr_ok (p4 := 0) (c := 0) (by omega) (by omega) (by omega) (by omega)
  have he : r.err s.opened = 0 := by unfold RdS.err MemS.cellE; rw [if_neg h4, h.p4, h.c, if_pos hx]; exact hacc _ (by omega) (by omega)
  have hmm : r.mem s.opened = s.opened.touch := by
    unfold RdS.mem MemS.cellM MemS.load
    rw [if_neg h4, h.p4, h.c, if_pos hx, if_pos (hacc _ (by omega) (by omega))]
  have hval : ∀ i : Int, 0 ≤ i → i < 3 → s.opened.cellV r.p4 r.c i = (wl ve ab fx fy m).getD i.toNat 0 := by
    intro i h0 h3
    unfold MemS.cellV MemS.got
    rw [h.p4, h.c, if_pos hx, show (0 : Int) + 3 * 0 + i = i by omega, if_pos (hacc i h0 h3)]
    unfold MemS.at
    show s.ws.getD i.toNat 0 = _
    rw [hws]
  have hn : r.next s.opened = r.took (s.opened.cellV r.p4 r.c r.which) := by unfold RdS.next; rw [if_pos he]
  have hw : wrap64 (r.sp + 1) = ((k + 1 : Nat) : Int) := by
    rw [h.sp]
    have := h.k4
    unfold wrap64; omega
  refine ⟨he, by rw [hmm]; rfl, ?_, by unfold RdS.over; rw [if_pos he]⟩
  rcases h.pa with ⟨p, hk⟩ | ⟨p, hk, e⟩ | ⟨p, hk, e, f⟩ | ⟨p, h1, hk, h2⟩ | ⟨p, _⟩
  · have hwh : r.which = 0 := by unfold RdS.which; rw [if_neg (by omega), if_neg (by omega)]
    rw [hn, hwh, hval 0 (by omega) (by omega)]
    unfold RdS.took
    rw [if_pos p]
    by_cases h2 : m < 2
    · have hx : (wl ve ab fx fy m).getD (0 : Int).toNat 0 = ve := if_pos h2
      rw [hx]
      refine ⟨h.p4, h.c, h.st, hw, .inr (.inl ⟨?_, by omega, rfl⟩)⟩
      show (if r.st < ve then (3 : Int) else 1) = 1
      rw [if_neg (by rw [h.st]; omega)]
    · have hx : (wl ve ab fx fy m).getD (0 : Int).toNat 0 = ab := if_neg h2
      rw [hx]
      refine ⟨h.p4, h.c, h.st, hw, .inr (.inr (.inr (.inl ⟨?_, by omega, by omega, by omega⟩)))⟩
      show (if r.st < ab then (3 : Int) else 1) = 3
      rw [if_pos (by rw [h.st]; omega)]
  · have hwh : r.which = 1 := by unfold RdS.which; rw [if_pos p]
    rw [hn, hwh, hval 1 (by omega) (by omega)]
    unfold RdS.took
    rw [if_neg (by omega), if_pos p]
    refine ⟨h.p4, h.c, h.st, hw, .inr (.inr (.inl ⟨rfl, by omega, e, ?_⟩))⟩
    by_cases h3 : m < 3
    · left
      have hx : (wl ve ab fx fy m).getD (1 : Int).toNat 0 = (fx : Int) := if_pos h3
      show fixB ((wl ve ab fx fy m).getD (1 : Int).toNat 0).toNat = fx
      rw [hx]; exact hfx
    · right; omega
  · have hwh : r.which = 0 := by unfold RdS.which; rw [if_neg (by omega), if_neg (by omega)]
    rw [hn, hwh, hval 0 (by omega) (by omega)]
    unfold RdS.took
    rw [if_neg (by omega), if_neg (by omega), if_pos p]
    by_cases h2 : m < 2
    · have hx : (wl ve ab fx fy m).getD (0 : Int).toNat 0 = ve := if_pos h2
      rw [hx, if_pos e.symm]
      exact ⟨h.p4, h.c, h.st, hw, .inr (.inr (.inr (.inr ⟨rfl, by omega, by omega, f.resolve_right (by omega)⟩)))⟩
    · have hx : (wl ve ab fx fy m).getD (0 : Int).toNat 0 = ab := if_neg h2
      rw [hx, if_neg (by rw [e]; omega)]
      exact ⟨h.p4, h.c, h.st, hw, .inr (.inr (.inr (.inl ⟨rfl, by omega, by omega, by omega⟩)))⟩
  · have hwh : r.which = 2 := by unfold RdS.which; rw [if_neg (by omega), if_pos p]
    rw [hn, hwh, hval 2 (by omega) (by omega)]
    unfold RdS.took
    rw [if_neg (by omega), if_neg (by omega), if_neg (by omega)]
    have hx : (wl ve ab fx fy m).getD (2 : Int).toNat 0 = (fx : Int) := if_neg (by omega)
    rw [hx]
    exact ⟨h.p4, h.c, h.st, hw, .inr (.inr (.inr (.inr ⟨rfl, by omega, by omega, hfx⟩)))⟩
  · exact absurd p h4
theorem wstep_wh (hws : s.ws = wl ve ab fx fy m) (hm : m < 3) (hq : q = WrS.mk 0 0 0 0 0 0 0 (fx : Int) ab (fy : Int) m) :
    q.Inv ∧ q.err s.opened = 0 ∧ q.over s.opened = decide (m = 2) ∧ (q.mem s.opened).ws = wl ve ab fx fy (m + 1) ∧ q.next s.opened = WrS.mk 0 0 0 0 0 0 0 (fx : Int) ab (fy : Int) ((m + 1 : Nat) : Int) := by
  have hl : s.opened.ws.length = 3 := by show s.ws.length = 3; rw [hws]; rfl
  have hacc : ∀ i : Int, 0 ≤ i → i < 3 → s.opened.acc i = 0 := fun i h0 h3 => by unfold MemS.acc; rw [if_neg (by omega)]; rfl
  have hx := xpErr_ok (p4 := 0) (c := 0) (by omega) (by omega) (by omega) (by omega)
  have hsw : ∀ (i v : Int), (s.opened.touch.put i v).ws = s.ws.set i.toNat v := fun _ _ => rfl
  subst hq
  refine ⟨⟨by show 0 ≤ (m : Int); omega, by show (m : Int) ≤ 3; omega⟩, ?_⟩
  rcases (show m = 0 ∨ m = 1 ∨ m = 2 by omega) with rfl | rfl | rfl
  · have he : (WrS.mk 0 0 0 0 0 0 0 (fx : Int) ab (fy : Int) (0 : Nat)).err s.opened = 0 := by
      show s.opened.cellE 0 0 2 = 0
      unfold MemS.cellE; rw [if_pos hx]; exact hacc _ (by omega) (by omega)
    refine ⟨he, by unfold WrS.over; rw [if_pos he]; rfl, ?_, by unfold WrS.next; rw [if_pos he]; rfl⟩
    show (s.opened.cellS 0 0 2 (fx : Int)).ws = _
    unfold MemS.cellS MemS.store
    rw [if_pos hx, if_pos (hacc _ (by omega) (by omega)), hsw, hws]; rfl
  · have he : (WrS.mk 0 0 0 0 0 0 0 (fx : Int) ab (fy : Int) (1 : Nat)).err s.opened = 0 := by
      show s.opened.cellE 0 0 0 = 0
      unfold MemS.cellE; rw [if_pos hx]; exact hacc _ (by omega) (by omega)
    refine ⟨he, by unfold WrS.over; rw [if_pos he]; rfl, ?_, by unfold WrS.next; rw [if_pos he]; rfl⟩
    show (s.opened.cellS 0 0 0 ab).ws = _
    unfold MemS.cellS MemS.store
    rw [if_pos hx, if_pos (hacc _ (by omega) (by omega)), hsw, hws]; rfl
  · have he : (WrS.mk 0 0 0 0 0 0 0 (fx : Int) ab (fy : Int) (2 : Nat)).err s.opened = 0 := by
      show s.opened.cellE 0 0 1 = 0
      unfold MemS.cellE; rw [if_pos hx]; exact hacc _ (by omega) (by omega)
    refine ⟨he, by unfold WrS.over; rw [if_pos he]; rfl, ?_, by unfold WrS.next; rw [if_pos he]; rfl⟩
    show (s.opened.cellS 0 0 1 (fy : Int)).ws = _
    unfold MemS.cellS MemS.store
    rw [if_pos hx, if_pos (hacc _ (by omega) (by omega)), hsw, hws]; rfl
/-- The reading behind the writing: after i accesses. -/
def rq (ab : Int) (fy : Nat) (i : Nat) : RdS := RdS.mk 0 0 0 0 0 0 0 ab (if i = 0 then 0 else if i = 1 then 1 else if i = 2 then 2 else 4) (if i = 0 then 0 else ab) (if i < 2 then 0 else fy) i false
theorem rq_step {i : Nat} (hi : i < 3) (hws : s.ws = wl ve ab fx fy 3) (hfy : fixB fy = fy) :
    (rq ab fy i).Inv ∧ (rq ab fy i).err s.opened = 0 ∧ (rq ab fy i).over s.opened = ((i : Int) == 2) ∧ ((rq ab fy i).mem s.opened).ws = s.ws ∧ (rq ab fy i).next s.opened = rq ab fy (i + 1) := by
  have hl : s.opened.ws.length = 3 := by show s.ws.length = 3; rw [hws]; rfl
  have hacc : ∀ i : Int, 0 ≤ i → i < 3 → s.opened.acc i = 0 := fun i h0 h3 => by unfold MemS.acc; rw [if_neg (by omega)]; rfl
  have hx := xpErr_ok (p4 := 0) (c := 0) (by omega) (by omega) (by omega) (by omega)
  have hval : ∀ i : Int, 0 ≤ i → i < 3 → s.opened.cellV 0 0 i = (wl ve ab fx fy 3).getD i.toNat 0 := by
    intro i h0 h3
    unfold MemS.cellV MemS.got
    rw [if_pos hx, show (0 : Int) + 3 * 0 + i = i by omega, if_pos (hacc i h0 h3)]
    unfold MemS.at
    show s.ws.getD i.toNat 0 = _
    rw [hws]
  have hmem : ∀ (r : RdS), r.pa ≠ 4 → r.p4 = 0 → r.c = 0 → (r.mem s.opened).ws = s.ws ∧ r.err s.opened = 0 := by
    intro r h4 hp hc
    obtain ⟨w0, w3⟩ := r.which_bd
    have he : r.err s.opened = 0 := by unfold RdS.err MemS.cellE; rw [if_neg h4, hp, hc, if_pos hx]; exact hacc _ (by omega) (by omega)
    refine ⟨?_, he⟩
    unfold RdS.mem MemS.cellM MemS.load
    rw [if_neg h4, hp, hc, if_pos hx, if_pos (hacc _ (by omega) (by omega))]; rfl
  have e0 : (wl ve ab fx fy 3).getD (0 : Int).toNat 0 = ab := rfl
  have e1 : (wl ve ab fx fy 3).getD (1 : Int).toNat 0 = (fy : Int) := rfl
  rcases (show i = 0 ∨ i = 1 ∨ i = 2 by omega) with rfl | rfl | rfl
  · obtain ⟨hm, he⟩ := hmem (rq ab fy 0) (by show (0 : Int) ≠ 4; decide) rfl rfl
    have hn : (rq ab fy 0).next s.opened = rq ab fy 1 := by
      unfold RdS.next; rw [if_pos he]
      show (rq ab fy 0).took (s.opened.cellV 0 0 0) = _
      rw [hval 0 (by omega) (by omega), e0]
      unfold RdS.took; rw [if_pos (by rfl)]
      show RdS.mk 0 0 0 0 0 0 0 ab (if ab < ab then 3 else 1) ab 0 (wrap64 (0 + 1)) false = _
      rw [if_neg (by omega), show wrap64 (0 + 1) = 1 by unfold wrap64; omega]; rfl
    exact ⟨⟨by show (0 : Int) ≤ 0; decide, by show (0 : Int) ≤ 4; decide⟩, he, by unfold RdS.over; rw [if_pos he, hn]; rfl, hm, hn⟩
  · obtain ⟨hm, he⟩ := hmem (rq ab fy 1) (by show (1 : Int) ≠ 4; decide) rfl rfl
    have hn : (rq ab fy 1).next s.opened = rq ab fy 2 := by
      unfold RdS.next; rw [if_pos he]
      show (rq ab fy 1).took (s.opened.cellV 0 0 1) = _
      rw [hval 1 (by omega) (by omega), e1]
      unfold RdS.took; rw [if_neg (show ¬ (rq ab fy 1).pa = 0 by show ¬ (1 : Int) = 0; decide), if_pos (show (rq ab fy 1).pa = 1 from rfl)]
      show RdS.mk 0 0 0 0 0 0 0 ab 2 ab (fixB fy) (wrap64 (1 + 1)) false = _
      rw [hfy, show wrap64 (1 + 1) = 2 by unfold wrap64; omega]; rfl
    exact ⟨⟨by show (0 : Int) ≤ 1; decide, by show (1 : Int) ≤ 4; decide⟩, he, by unfold RdS.over; rw [if_pos he, hn]; rfl, hm, hn⟩
  · obtain ⟨hm, he⟩ := hmem (rq ab fy 2) (by show (2 : Int) ≠ 4; decide) rfl rfl
    have hn : (rq ab fy 2).next s.opened = rq ab fy 3 := by
      unfold RdS.next; rw [if_pos he]
      show (rq ab fy 2).took (s.opened.cellV 0 0 0) = _
      rw [hval 0 (by omega) (by omega), e0]
      unfold RdS.took; rw [if_neg (show ¬ (rq ab fy 2).pa = 0 by show ¬ (2 : Int) = 0; decide), if_neg (show ¬ (rq ab fy 2).pa = 1 by show ¬ (2 : Int) = 1; decide), if_pos (show (rq ab fy 2).pa = 2 from rfl)]
      show RdS.mk 0 0 0 0 0 0 0 ab (if ab = ab then 4 else 3) ab fy (wrap64 (2 + 1)) (ab != ab) = _
      rw [if_pos rfl, bne_self_eq_false, show wrap64 (2 + 1) = 3 by unfold wrap64; omega]; rfl
    exact ⟨⟨by show (0 : Int) ≤ 2; decide, by show (2 : Int) ≤ 4; decide⟩, he, by unfold RdS.over; rw [if_pos he, hn]; rfl, hm, hn⟩

end Go.Proofs.Ytobmgnoceacoaaa

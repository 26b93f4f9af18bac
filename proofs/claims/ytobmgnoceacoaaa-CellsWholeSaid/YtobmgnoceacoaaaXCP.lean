/- CellsCost: the plain part. -/
import Derived.Test.YtobmgnoceacoaaaXLV
import Derived.Deep.QuietTactic
import Derived.BigQuiet
import Derived.Deep.DeepCutAuto
import Derived.Deep.CutBlock
import Derived.Deep.RegionHeld3
import Derived.StillTailTactics
import Derived.IntWalk
namespace Go.Proofs.Ytobmgnoceacoaaa
open Go.RowKit
attribute [local go_sem] run_store_float

variable {s : MemS} {r : RdS} {q : WrS} {t : Int}
theorem c9_acc (hl : s.ws.length = 9) {i : Int} (h0 : 0 ≤ i) (h9 : i < 9) : s.acc i = if s.op then 0 else 31 := by
  unfold MemS.acc
  rw [if_neg (by omega)]
theorem c9_E (hl : s.ws.length = 9) (h0 : 0 ≤ t) (h3 : t < 3) {k : Int} (k0 : 0 ≤ k) (k3 : k < 3) : s.cellE 0 t k = if s.op then 0 else 31 := by
  unfold MemS.cellE
  rw [if_pos (xpErr_ok h0 (by omega) (by omega) (by omega))]
  exact c9_acc hl (by omega) (by omega)

/-- A reading that has had i accesses. -/
structure CrI (t : Int) (i : Nat) (r : RdS) (s : MemS) : Prop where
  p4 : r.p4 = 0
  c : r.c = t
  sp : r.sp = i
  pa : (i = 0 ∧ r.pa = 0) ∨ (i = 1 ∧ (r.pa = 1 ∨ r.pa = 3)) ∨ (i = 2 ∧ r.pa = 2) ∨ (i = 3 ∧ r.pa = 3)
  len : s.ws.length = 9
  op : s.op = false
theorem CrI.inv {i : Nat} (h : CrI t i r s) : r.Inv := by
  rcases h.pa with ⟨_, e⟩ | ⟨_, e | e⟩ | ⟨_, e⟩ | ⟨_, e⟩ <;> exact ⟨by omega, by omega⟩
theorem CrI.ne4 {i : Nat} (h : CrI t i r s) : r.pa ≠ 4 := by
  rcases h.pa with ⟨_, e⟩ | ⟨_, e | e⟩ | ⟨_, e⟩ | ⟨_, e⟩ <;> omega
theorem RdS.which_bd (r : RdS) : 0 ≤ r.which ∧ r.which < 3 := by
  unfold RdS.which
  split
  · decide
  · split <;> decide
theorem CrI.poke {i : Nat} (h : CrI t i r s) (j v : Int) : CrI t i r (s.poke j v) :=
  ⟨h.p4, h.c, h.sp, h.pa, by rw [len_poke]; exact h.len, by unfold MemS.poke; split <;> exact h.op⟩
theorem CrI.shut {i : Nat} (h : CrI t i r s) (h0 : 0 ≤ t) (h3 : t < 3) : r.err s = 31 ∧ r.over s = false ∧ r.mem s = s ∧ r.next s = r := by
  obtain ⟨w0, w3⟩ := r.which_bd
  have hE : s.cellE 0 t r.which = 31 := by rw [c9_E h.len h0 h3 w0 w3, h.op]; rfl
  have he : r.err s = 31 := by unfold RdS.err; rw [if_neg h.ne4, h.p4, h.c]; exact hE
  refine ⟨he, by unfold RdS.over; rw [he]; rfl, ?_, by unfold RdS.next; rw [he]; rfl⟩
  unfold RdS.mem MemS.cellM MemS.load
  rw [if_neg h.ne4, h.p4, h.c, if_pos (xpErr_ok h0 (by omega) (by omega) (by omega))]
  rw [if_neg (by rw [c9_acc h.len (by omega) (by omega), h.op]; decide)]
theorem CrI.step {i : Nat} (h : CrI t i r s) (h0 : 0 ≤ t) (h3 : t < 3) : r.err s.opened = 0 ∧ (r.mem s.opened).ct = wrap64 (s.ct + 1) ∧ (r.mem s.opened).ws = s.ws ∧ (r.next s.opened).sp = (i : Int) + 1 ∧
    ((r.over s.opened = true ∧ 0 < i ∧ (r.next s.opened).pa = 4) ∨ (r.over s.opened = false ∧ i < 3 ∧ CrI t (i + 1) (r.next s.opened) (r.mem s.opened))) := by
  obtain ⟨w0, w3⟩ := r.which_bd
  have hl : s.opened.ws.length = 9 := h.len
  have hE : s.opened.cellE 0 t r.which = 0 := by rw [c9_E hl h0 h3 w0 w3]; rfl
  have he : r.err s.opened = 0 := by unfold RdS.err; rw [if_neg h.ne4, h.p4, h.c]; exact hE
  have hm : r.mem s.opened = s.opened.touch := by
    unfold RdS.mem MemS.cellM MemS.load
    rw [if_neg h.ne4, h.p4, h.c, if_pos (xpErr_ok h0 (by omega) (by omega) (by omega)), if_pos (by rw [c9_acc hl (by omega) (by omega)]; rfl)]
  obtain ⟨x, hx⟩ : ∃ x, x = s.opened.cellV r.p4 r.c r.which := ⟨_, rfl⟩
  have hn : r.next s.opened = r.took x := by unfold RdS.next; rw [if_pos he, ← hx]
  have hw : wrap64 (r.sp + 1) = (i : Int) + 1 := by
    rw [h.sp]
    have : i ≤ 3 := by rcases h.pa with ⟨e, _⟩ | ⟨e, _⟩ | ⟨e, _⟩ | ⟨e, _⟩ <;> omega
    unfold wrap64; omega
  have ho : r.over s.opened = ((r.took x).pa == 4) := by unfold RdS.over; rw [if_pos he, hn]
  rw [hm, hn, ho]
  have next : ∀ {p : Int}, (r.took x).pa = p → (r.took x).sp = (i : Int) + 1 → (r.took x).p4 = 0 → (r.took x).c = t →
      ((i + 1 = 0 ∧ p = 0) ∨ (i + 1 = 1 ∧ (p = 1 ∨ p = 3)) ∨ (i + 1 = 2 ∧ p = 2) ∨ (i + 1 = 3 ∧ p = 3)) → CrI t (i + 1) (r.took x) s.opened.touch :=
    fun hp hs h4 hc hq => ⟨h4, hc, hs, by rw [hp]; exact hq, h.len, rfl⟩
  rcases h.pa with ⟨e, p⟩ | ⟨e, p | p⟩ | ⟨e, p⟩ | ⟨e, p⟩
  · have ht : r.took x = { r with ve := x, pa := if r.st < x then 3 else 1, sp := wrap64 (r.sp + 1) } := by unfold RdS.took; rw [if_pos p]
    rw [ht] at next ⊢
    refine ⟨he, rfl, rfl, hw, .inr ⟨?_, by omega, ?_⟩⟩
    · show ((if r.st < x then (3 : Int) else 1) == 4) = false
      split <;> rfl
    · exact next rfl hw h.p4 h.c (.inr (.inl ⟨by omega, by split <;> simp⟩))
  · have ht : r.took x = { r with va := fixB x.toNat, pa := 2, sp := wrap64 (r.sp + 1) } := by unfold RdS.took; rw [if_neg (by omega), if_pos p]
    rw [ht] at next ⊢
    exact ⟨he, rfl, rfl, hw, .inr ⟨rfl, by omega, next rfl hw h.p4 h.c (.inr (.inr (.inl ⟨by omega, rfl⟩)))⟩⟩
  · have ht : r.took x = { r with va := fixB x.toNat, pa := 4, sp := wrap64 (r.sp + 1) } := by unfold RdS.took; rw [if_neg (by omega), if_neg (by omega), if_neg (by omega)]
    rw [ht]
    exact ⟨he, rfl, rfl, hw, .inl ⟨rfl, by omega, rfl⟩⟩
  · have ht : r.took x = { r with tn := x != r.ve, pa := if x = r.ve then 4 else 3, sp := wrap64 (r.sp + 1) } := by unfold RdS.took; rw [if_neg (by omega), if_neg (by omega), if_pos p]
    rw [ht] at next ⊢
    by_cases hv : x = r.ve
    · rw [if_pos hv]
      exact ⟨he, rfl, rfl, hw, .inl ⟨rfl, by omega, rfl⟩⟩
    · rw [if_neg hv] at next ⊢
      exact ⟨he, rfl, rfl, hw, .inr ⟨rfl, by omega, next rfl hw h.p4 h.c (.inr (.inr (.inr ⟨by omega, rfl⟩)))⟩⟩
  · have ht : r.took x = { r with va := fixB x.toNat, pa := 4, sp := wrap64 (r.sp + 1) } := by unfold RdS.took; rw [if_neg (by omega), if_neg (by omega), if_neg (by omega)]
    rw [ht]
    exact ⟨he, rfl, rfl, hw, .inl ⟨rfl, by omega, rfl⟩⟩

/-- A writing that has had i accesses. -/
structure CwI (t : Int) (i : Nat) (ve fx : Int) (q : WrS) (s : MemS) : Prop where
  eq : q = WrS.mk 0 0 0 0 0 0 t fx ve fx i
  i3 : i ≤ 3
  len : s.ws.length = 9
  a1 : 1 ≤ i → s.at (3 * t + 2) = fx
  a2 : 2 ≤ i → s.at (3 * t) = ve
  a3 : 3 ≤ i → s.at (3 * t + 1) = fx
theorem CwI.inv {i : Nat} {ve fx : Int} (h : CwI t i ve fx q s) : q.Inv := by
  have := h.i3
  rw [h.eq]; exact ⟨by show 0 ≤ (i : Int); omega, by show (i : Int) ≤ 3; omega⟩
theorem at_put (hl : s.ws.length = 9) {i j : Int} (hi : 0 ≤ i) (h9 : i < 9) (hj : 0 ≤ j) (v : Int) : (s.opened.touch.put i v).at j = if j = i then v else s.at j := by
  unfold MemS.at MemS.put MemS.touch MemS.opened
  simp only [List.getD_eq_getElem?_getD]
  by_cases e : j = i
  · subst e
    rw [if_pos rfl, List.getElem?_set_self (by omega)]; rfl
  · rw [if_neg e, List.getElem?_set_ne (by omega)]
theorem CwI.step {i : Nat} {ve fx : Int} (h : CwI t i ve fx q s) (hi : i < 3) (h0 : 0 ≤ t) (h3 : t < 3) :
    q.err s.opened = 0 ∧ q.over s.opened = ((i : Int) == 2) ∧ (q.mem s.opened).ct = wrap64 (s.ct + 1) ∧ CwI t (i + 1) ve fx (q.next s.opened) (q.mem s.opened) := by
  have hl : s.opened.ws.length = 9 := h.len
  have hx := xpErr_ok (p4 := 0) h0 (by omega) (by omega) (by omega)
  have key : ∀ (k v : Int), 0 ≤ k → k < 3 → q.which = k → q.val = v → q.n ≠ 3 → q.p4 = 0 → q.c = t → q.err s.opened = 0 ∧ q.mem s.opened = s.opened.touch.put (3 * t + k) v := by
    intro k v k0 k3 hk hv hn hp hc
    have ha : s.opened.acc (0 + 3 * t + k) = 0 := by rw [c9_acc hl (by omega) (by omega)]; rfl
    refine ⟨?_, ?_⟩
    · unfold WrS.err MemS.cellE; rw [if_neg hn, hp, hc, hk, if_pos hx]; exact ha
    · unfold WrS.mem MemS.cellS MemS.store; rw [if_neg hn, hp, hc, hk, hv, if_pos hx, if_pos ha, show (0 : Int) + 3 * t + k = 3 * t + k by omega]
  have hq := h.eq
  rcases (show i = 0 ∨ i = 1 ∨ i = 2 by omega) with rfl | rfl | rfl
  · obtain ⟨e, m⟩ := key 2 fx (by omega) (by omega) (by rw [hq]; rfl) (by rw [hq]; rfl) (by rw [hq]; show (0 : Int) ≠ 3; decide) (by rw [hq]) (by rw [hq])
    have hn : q.next s.opened = WrS.mk 0 0 0 0 0 0 t fx ve fx 1 := by unfold WrS.next; rw [if_pos e, hq]; rfl
    rw [m, hn]
    refine ⟨e, by unfold WrS.over; rw [if_pos e, hq]; rfl, rfl, rfl, by omega, by simp [MemS.put, MemS.touch, MemS.opened, h.len], fun _ => ?_, fun h => absurd h (by decide), fun h => absurd h (by decide)⟩
    rw [at_put h.len (by omega) (by omega) (by omega), if_pos rfl]
  · obtain ⟨e, m⟩ := key 0 ve (by omega) (by omega) (by rw [hq]; rfl) (by rw [hq]; rfl) (by rw [hq]; show (1 : Int) ≠ 3; decide) (by rw [hq]) (by rw [hq])
    have hn : q.next s.opened = WrS.mk 0 0 0 0 0 0 t fx ve fx 2 := by unfold WrS.next; rw [if_pos e, hq]; rfl
    rw [m, hn, Int.add_zero]
    refine ⟨e, by unfold WrS.over; rw [if_pos e, hq]; rfl, rfl, rfl, by omega, by simp [MemS.put, MemS.touch, MemS.opened, h.len], fun _ => ?_, fun _ => ?_, fun h => absurd h (by decide)⟩
    · rw [at_put h.len (by omega) (by omega) (by omega), if_neg (by omega)]; exact h.a1 (by omega)
    · rw [at_put h.len (by omega) (by omega) (by omega), if_pos rfl]
  · obtain ⟨e, m⟩ := key 1 fx (by omega) (by omega) (by rw [hq]; rfl) (by rw [hq]; rfl) (by rw [hq]; show (2 : Int) ≠ 3; decide) (by rw [hq]) (by rw [hq])
    have hn : q.next s.opened = WrS.mk 0 0 0 0 0 0 t fx ve fx 3 := by unfold WrS.next; rw [if_pos e, hq]; rfl
    rw [m, hn]
    refine ⟨e, by unfold WrS.over; rw [if_pos e, hq]; rfl, rfl, rfl, by omega, by simp [MemS.put, MemS.touch, MemS.opened, h.len], fun _ => ?_, fun _ => ?_, fun _ => ?_⟩
    · rw [at_put h.len (by omega) (by omega) (by omega), if_neg (by omega)]; exact h.a1 (by omega)
    · rw [at_put h.len (by omega) (by omega) (by omega), if_neg (by omega)]; exact h.a2 (by omega)
    · rw [at_put h.len (by omega) (by omega) (by omega), if_pos rfl]

end Go.Proofs.Ytobmgnoceacoaaa

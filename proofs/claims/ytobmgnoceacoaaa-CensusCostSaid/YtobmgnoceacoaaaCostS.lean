/- CensusCost: the plain part of the scan. -/
import Derived.Test.YtobmgnoceacoaaaCostP
namespace Go.Proofs.Ytobmgnoceacoaaa
open Go.RowKit
/-- A scan that has had i accesses. -/
structure CostS (t : Int) (i : Nat) (c : ScanS) (s : MemS) : Prop where
  T : c.T = t + 1
  p3 : c.p3 = 1
  nx0 : 0 ≤ c.nx
  nx1 : c.nx ≤ t + 1
  po : 0 ≤ c.po
  sum : c.nx + c.po = i
  len : s.ws.length = 9
  inv : c.Inv
theorem CostS.poke {t : Int} {i : Nat} {c : ScanS} {s : MemS} (h : CostS t i c s) (j v : Int) : CostS t i c (s.poke j v) :=
  ⟨h.T, h.p3, h.nx0, h.nx1, h.po, h.sum, by rw [len_poke13]; exact h.len, h.inv⟩
theorem CostS.step {t : Int} {i : Nat} {c : ScanS} {s : MemS} (h : CostS t i c s) (h0 : 0 ≤ t) (h8 : t < 8) (hn : c.nx ≤ t) (hi : i < 140737488351232) :
    c.err s.opened = 0 ∧ c.over s.opened = ((c.next s.opened).nx == t + 1) ∧ CostS t (i + 1) (c.next s.opened) (c.mem s.opened) := by
  have hT := h.T
  have hx := h.nx0
  have hs := h.sum
  have hp0 := h.po
  have hp : plErr c.p3 c.nx = 0 := by rw [h.p3]; exact plErr_ok hx (by omega) (by omega) (by omega)
  have ha : s.opened.acc (c.p3 + c.nx) = 0 := by
    unfold MemS.acc MemS.opened
    have := h.len
    have := h.p3
    rw [if_neg (by simp only; omega)]; rfl
  have hT' : ¬ (c.T < 1 ∨ 8 < c.T) := by omega
  have he : c.err s.opened = 0 := by
    unfold ScanS.err
    rw [if_neg hT', if_neg (by omega)]
    unfold MemS.leaveE; rw [hp]; simpa using ha
  have hlen : (c.mem s.opened).ws.length = 9 := by
    unfold ScanS.mem
    rw [if_neg hT', if_neg (by omega), hp]; simp only [if_true]; rw [len_load13]; exact h.len
  have hinv := ScanS.next_inv h.inv s.opened
  refine ⟨he, ?_, ?_⟩
  · unfold ScanS.over ScanS.next
    rw [he]
    simp only [ne_eq, not_true, if_false, if_true]
    split
    · rw [hT]
    · symm; simp only [beq_eq_false_iff_ne]; omega
  · by_cases hq : c.passes s.opened = true
    · have hx' : c.next s.opened = { c with nx := c.nx + 1 } := by unfold ScanS.next; rw [if_neg (by omega), if_pos hq]
      rw [hx'] at hinv ⊢
      exact ⟨hT, h.p3, by show 0 ≤ c.nx + 1; omega, by show c.nx + 1 ≤ t + 1; omega, hp0, by show c.nx + 1 + c.po = _; omega, hlen, hinv⟩
    · have hx' : c.next s.opened = { c with po := wrap64 (c.po + 1) } := by unfold ScanS.next; rw [if_neg (by omega), if_neg hq]
      have hw : wrap64 (c.po + 1) = c.po + 1 := by unfold wrap64; omega
      rw [hx', hw] at hinv ⊢
      exact ⟨hT, h.p3, hx, by show c.nx ≤ t + 1; omega, by show 0 ≤ c.po + 1; omega, by show c.nx + (c.po + 1) = _; omega, hlen, hinv⟩

end Go.Proofs.Ytobmgnoceacoaaa

/- CensusCost: the plain part. -/
import Derived.Test.YtobmgnoceacoaaaLive13
import Derived.Test.YtobmgnoceacoaaaBegin13
import Derived.Deep.DeepCutAuto
import Derived.Deep.CutBlock
namespace Go.Proofs.Ytobmgnoceacoaaa
open Go.RowKit

/-- A coming that has had k accesses. -/
structure CostI (t : Int) (k : Nat) (c : ComS) (s : MemS) : Prop where
  n : c.n = k
  p2 : c.p2 = 0
  p3 : c.p3 = 1
  th : c.th = t
  len : s.ws.length = 9
  put : 2 ≤ k → s.at (1 + t) = IntKind.u64.wrap (c.cl + 1)
  inv : c.Inv

theorem CostI.poke {t : Int} {k : Nat} {c : ComS} {s : MemS} (h : CostI t k c s) (h0 : 0 ≤ t) (v : Int) : CostI t k c (s.poke 0 v) := by
  refine ⟨h.n, h.p2, h.p3, h.th, ?_, ?_, h.inv⟩
  · rw [len_poke13]; exact h.len
  · intro hk
    rw [← h.put hk]
    unfold MemS.poke MemS.at
    split
    · simp only [MemS.put, List.getD_eq_getElem?_getD]
      rw [List.getElem?_set_ne (by omega)]
    · rfl

theorem CostI.step {t : Int} {k : Nat} {c : ComS} {s : MemS} (h : CostI t k c s) (hk : k < 3) (h0 : 0 ≤ t) (h8 : t < 8) :
    c.err s.opened = 0 ∧ c.over s.opened = ((k : Int) == 2) ∧ (c.mem s.opened).ct = wrap64 (s.ct + 1) ∧ CostI t (k + 1) (c.next s.opened) (c.mem s.opened) := by
  have hp : plErr c.p3 c.th = 0 := by rw [h.p3, h.th]; exact plErr_ok h0 h8 (by omega) (by omega)
  have hn := h.n
  have ha : ∀ i : Int, 0 ≤ i → i < 9 → s.opened.acc i = 0 := by
    intro i hi hi'
    unfold MemS.acc MemS.opened
    have := h.len
    rw [if_neg (by simp only; omega)]; rfl
  have a2 : s.opened.acc c.p2 = 0 := ha _ (by rw [h.p2]; omega) (by rw [h.p2]; omega)
  have at1 : s.opened.acc (c.p3 + c.th) = 0 := ha _ (by rw [h.p3, h.th]; omega) (by rw [h.p3, h.th]; omega)
  have hth : ¬ (c.th < 0 ∨ 8 ≤ c.th) := by rw [h.th]; omega
  have he : c.err s.opened = 0 := by
    unfold ComS.err
    rw [if_neg (by omega), if_neg hth]
    split
    · unfold MemS.leaveE; rw [hp]; simpa using at1
    · exact a2
  refine ⟨he, ?_, ?_, ?_⟩
  · unfold ComS.over
    rw [he, hn]
    rcases Nat.lt_or_ge k 2 with h2 | h2
    · rw [decide_eq_false (by omega)]; symm; simp; omega
    · obtain rfl : k = 2 := by omega
      rfl
  · unfold ComS.mem
    rw [if_neg (by omega), if_neg hth]
    split
    · unfold MemS.store; simp only [at1, if_true]; rfl
    · unfold MemS.load; simp only [a2, if_true]; rfl
  · have hlen : (c.mem s.opened).ws.length = 9 := by
      unfold ComS.mem
      rw [if_neg (by omega), if_neg hth]
      split
      · rw [len_store13]; exact h.len
      · rw [len_load13]; exact h.len
    have hx : (c.next s.opened) = if c.n = 0 then { c with n := 1, cl := s.opened.got c.p2 } else if c.n = 1 then { c with n := 2 } else { c with n := 3, st := s.opened.got c.p2 } := by
      unfold ComS.next; rw [if_neg (by omega)]
    have hi := ComS.next_inv h.inv s.opened
    have hk' : k = 0 ∨ k = 1 ∨ k = 2 := by omega
    rcases hk' with rfl | rfl | rfl
    · have hx' : c.next s.opened = { c with n := 1, cl := s.opened.got c.p2 } := by rw [hx, if_pos (by omega)]
      rw [hx'] at hi ⊢
      exact ⟨rfl, h.p2, h.p3, h.th, hlen, fun h => by omega, hi⟩
    · have hx' : c.next s.opened = { c with n := 2 } := by rw [hx, if_neg (by omega), if_pos (by omega)]
      rw [hx'] at hi ⊢
      refine ⟨rfl, h.p2, h.p3, h.th, hlen, fun _ => ?_, hi⟩
      show (c.mem s.opened).at (1 + t) = IntKind.u64.wrap (c.cl + 1)
      unfold ComS.mem
      rw [if_neg (by omega), if_neg hth, if_pos (by omega), hp]
      unfold MemS.store
      simp only [at1, if_true]
      rw [h.p3, h.th]
      have := h.len
      unfold MemS.at MemS.put MemS.touch MemS.opened
      simp only [List.getD_eq_getElem?_getD]
      rw [List.getElem?_set_self (by omega)]
      rfl
    · have hx' : c.next s.opened = { c with n := 3, st := s.opened.got c.p2 } := by rw [hx, if_neg (by omega), if_neg (by omega)]
      rw [hx'] at hi ⊢
      refine ⟨rfl, h.p2, h.p3, h.th, hlen, fun _ => ?_, hi⟩
      show (c.mem s.opened).at (1 + t) = IntKind.u64.wrap (c.cl + 1)
      unfold ComS.mem
      rw [if_neg (by omega), if_neg hth, if_neg (by omega)]
      rw [← h.put (by omega)]
      unfold MemS.load; simp only [a2, if_true]; rfl


end Go.Proofs.Ytobmgnoceacoaaa

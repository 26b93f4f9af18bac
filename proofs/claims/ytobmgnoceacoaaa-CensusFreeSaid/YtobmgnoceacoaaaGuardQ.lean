/- CensusGuards, CensusFree: what each call makes of an opened memory of nine words. -/
import Derived.Test.YtobmgnoceacoaaaGuardH
namespace Go.Proofs.Ytobmgnoceacoaaa
open Go.RowKit
variable {s : MemS} {c : ComS} {q : ScanS} {t : Nat}

theorem acc9 (hl : s.ws.length = 9) {i : Int} (h0 : 0 ≤ i) (h9 : i < 9) : s.opened.acc i = 0 := by
  unfold MemS.acc MemS.opened
  rw [if_neg (by simp only; omega)]; rfl
theorem got9 (hl : s.ws.length = 9) (i : Nat) (h9 : i < 9) : s.opened.got i = s.ws.getD i 0 := by
  unfold MemS.got
  rw [if_pos (acc9 hl (by omega) (by omega))]
  rfl
theorem load9 (hl : s.ws.length = 9) {i : Int} (h0 : 0 ≤ i) (h9 : i < 9) : (s.opened.load i).ws = s.ws := by
  unfold MemS.load
  rw [if_pos (acc9 hl h0 h9)]
  rfl
theorem store9 (hl : s.ws.length = 9) (i : Nat) (h9 : i < 9) (v : Int) : (s.opened.store i v).ws = s.ws.set i v := by
  unfold MemS.store
  rw [if_pos (acc9 hl (by omega) (by omega))]
  rfl
theorem store9t (hl : s.ws.length = 9) (ht : t < 7) (v : Int) : (s.opened.store (1 + (t : Int)) v).ws = s.ws.set (1 + t) v := by
  have := store9 hl (1 + t) (by omega) v
  rwa [show ((1 + t : Nat) : Int) = 1 + (t : Int) by omega] at this
theorem got9t (hl : s.ws.length = 9) (ht : t < 7) : s.opened.got (1 + (t : Int)) = s.ws.getD (1 + t) 0 := by
  have := got9 hl (1 + t) (by omega)
  rwa [show ((1 + t : Nat) : Int) = 1 + (t : Int) by omega] at this
theorem plErr9 (ht : t < 7) : plErr 1 t = 0 := plErr_ok (by omega) (by omega) (by omega) (by omega)

theorem com0 (hl : s.ws.length = 9) (ht : t < 7) (hn : c.n = 0) (h2 : c.p2 = 0) (hth : c.th = t) :
    c.err s.opened = 0 ∧ c.over s.opened = false ∧ (c.mem s.opened).ws = s.ws ∧ c.next s.opened = { c with n := 1, cl := s.ws.getD 0 0 } := by
  have ha := acc9 hl (i := 0) (by omega) (by omega)
  have hth' : ¬ (c.th < 0 ∨ 8 ≤ c.th) := by omega
  have he : c.err s.opened = 0 := by unfold ComS.err; rw [if_neg (by omega), if_neg hth', if_neg (by omega), h2]; exact ha
  refine ⟨he, ?_, ?_, ?_⟩
  · unfold ComS.over; rw [decide_eq_false (by omega)]
  · unfold ComS.mem; rw [if_neg (by omega), if_neg hth', if_neg (by omega), h2]; exact load9 hl (by omega) (by omega)
  · unfold ComS.next; rw [if_neg (by omega), if_pos hn, h2]
    have := got9 hl 0 (by omega)
    simp only [Int.ofNat_zero] at this
    rw [this]
theorem com1 (hl : s.ws.length = 9) (ht : t < 7) (hn : c.n = 1) (h3 : c.p3 = 1) (hth : c.th = t) :
    c.err s.opened = 0 ∧ c.over s.opened = false ∧ (c.mem s.opened).ws = s.ws.set (1 + t) (IntKind.u64.wrap (c.cl + 1)) ∧ c.next s.opened = { c with n := 2 } := by
  have ha := acc9 hl (i := 1 + (t : Int)) (by omega) (by omega)
  have hth' : ¬ (c.th < 0 ∨ 8 ≤ c.th) := by omega
  have hp : plErr c.p3 c.th = 0 := by rw [h3, hth]; exact plErr9 ht
  have he : c.err s.opened = 0 := by unfold ComS.err MemS.leaveE; rw [if_neg (by omega), if_neg hth', if_pos hn, if_pos hp, h3, hth]; exact ha
  refine ⟨he, ?_, ?_, ?_⟩
  · unfold ComS.over; rw [decide_eq_false (by omega)]
  · unfold ComS.mem; rw [if_neg (by omega), if_neg hth', if_pos hn, if_pos hp, h3, hth]; exact store9t hl ht _
  · unfold ComS.next; rw [if_neg (by omega), if_neg (by omega), if_pos hn]
theorem com2 (hl : s.ws.length = 9) (ht : t < 7) (hn : c.n = 2) (h2 : c.p2 = 0) (hth : c.th = t) :
    c.err s.opened = 0 ∧ c.over s.opened = true ∧ (c.mem s.opened).ws = s.ws ∧ c.next s.opened = { c with n := 3, st := s.ws.getD 0 0 } := by
  have ha := acc9 hl (i := 0) (by omega) (by omega)
  have hth' : ¬ (c.th < 0 ∨ 8 ≤ c.th) := by omega
  have he : c.err s.opened = 0 := by unfold ComS.err; rw [if_neg (by omega), if_neg hth', if_neg (by omega), h2]; exact ha
  refine ⟨he, ?_, ?_, ?_⟩
  · unfold ComS.over; rw [decide_eq_true ⟨hn, he⟩]
  · unfold ComS.mem; rw [if_neg (by omega), if_neg hth', if_neg (by omega), h2]; exact load9 hl (by omega) (by omega)
  · unfold ComS.next; rw [if_neg (by omega), if_neg (by omega), if_neg (by omega), h2]
    have := got9 hl 0 (by omega)
    simp only [Int.natCast_zero] at this
    rw [this]
theorem leave9 (hl : s.ws.length = 9) (ht : t < 7) : s.opened.leaveE 1 t = 0 ∧ (s.opened.leave 1 t).ws = s.ws.set (1 + t) 0 := by
  constructor
  · unfold MemS.leaveE; rw [if_pos (plErr9 ht)]; exact acc9 hl (by omega) (by omega)
  · unfold MemS.leave; rw [if_pos (plErr9 ht)]; exact store9t hl ht _
theorem scan9 (hl : s.ws.length = 9) (hT : q.T = 7) (h3 : q.p3 = 1) (h0 : 0 ≤ q.nx) (h7 : q.nx < 7) :
    q.err s.opened = 0 ∧ (q.mem s.opened).ws = s.ws ∧ q.passes s.opened = decide (s.ws.getD (1 + q.nx.toNat) 0 = 0 ∨ q.nd < s.ws.getD (1 + q.nx.toNat) 0) := by
  have hT' : ¬ (q.T < 1 ∨ 8 < q.T) := by omega
  obtain ⟨t, ht⟩ : ∃ t : Nat, q.nx = t := ⟨q.nx.toNat, by omega⟩
  have ht7 : t < 7 := by omega
  have hp : plErr q.p3 q.nx = 0 := by rw [h3, ht]; exact plErr9 ht7
  have ha := acc9 hl (i := 1 + (t : Int)) (by omega) (by omega)
  refine ⟨?_, ?_, ?_⟩
  · unfold ScanS.err MemS.leaveE; rw [if_neg hT', if_neg (by omega), if_pos hp, h3, ht]; exact ha
  · unfold ScanS.mem; rw [if_neg hT', if_neg (by omega), if_pos hp, h3]; exact load9 hl (by omega) (by omega)
  · unfold ScanS.passes; rw [h3, ht, got9t hl ht7]; rfl
end Go.Proofs.Ytobmgnoceacoaaa

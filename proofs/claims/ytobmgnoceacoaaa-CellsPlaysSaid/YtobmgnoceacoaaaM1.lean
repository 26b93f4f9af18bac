/- The contracts of mem (and of the reference's memory): load, store, add, peek, poke, open, len, count. -/
import Derived.Test.YtobmgnoceacoaaaBase
namespace Go.Proofs.Ytobmgnoceacoaaa
open Go.RowKit

theorem acc_cases (s : MemS) (i : Int) : (i < 0 ∧ s.acc i = 30) ∨ (∃ k : Nat, i = k ∧ s.ws.length ≤ k ∧ s.acc i = 30) ∨ (∃ k : Nat, i = k ∧ k < s.ws.length ∧ s.op = false ∧ s.acc i = 31) ∨ (∃ k : Nat, i = k ∧ k < s.ws.length ∧ s.op = true ∧ s.acc i = 0) := by
  unfold MemS.acc
  by_cases h : i < 0
  · left; simp [h]
  · right
    obtain ⟨k, rfl⟩ := Int.eq_ofNat_of_zero_le (by omega : 0 ≤ i)
    by_cases h2 : s.ws.length ≤ k
    · left; exact ⟨k, rfl, h2, by rw [if_pos (by omega)]⟩
    · right
      cases ho : s.op
      · left; exact ⟨k, rfl, by omega, rfl, by rw [if_neg (by omega)]; simp⟩
      · right; exact ⟨k, rfl, by omega, rfl, by rw [if_neg (by omega)]; simp⟩
theorem bad_cases (s : MemS) (i : Int) : (i < 0 ∧ s.bad i = 30) ∨ (∃ k : Nat, i = k ∧ s.ws.length ≤ k ∧ s.bad i = 30) ∨ (∃ k : Nat, i = k ∧ k < s.ws.length ∧ s.bad i = 0) := by
  unfold MemS.bad
  by_cases h : i < 0
  · left; simp [h]
  · right
    obtain ⟨k, rfl⟩ := Int.eq_ofNat_of_zero_le (by omega : 0 ≤ i)
    by_cases h2 : s.ws.length ≤ k
    · left; exact ⟨k, rfl, h2, by rw [if_pos (by omega)]⟩
    · right; exact ⟨k, rfl, by omega, by rw [if_neg (by omega)]⟩

end Go.Proofs.Ytobmgnoceacoaaa

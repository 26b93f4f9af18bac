/- MemOne: the plain law: what a step does to a memory, and how many words it changes. -/
import Derived.Test.YtobmgnoceacoaaaM1
namespace Go.Proofs.Ytobmgnoceacoaaa
open Go.RowKit

/-- What one call leaves: x: its kind; L: what 'let' holds behind it; E: what it answers. -/
structure OneStep (x : Int) (s s' : MemS) (L E : Int) : Prop where
  len : s'.ws.length = s.ws.length
  same : x ≠ 3 → x ≠ 4 → x ≠ 6 → s'.ws = s.ws
  one : ∃ i v, s'.ws = s.ws.set i v
  ok : E = 0 → s'.ct = wrap64 (s.ct + 1) ∧ s'.op = false ∧ L = 1
  bad : E ≠ 0 → s'.ct = s.ct ∧ L = (if s'.op = true then 1 else 0)

def letOf (s : MemS) : Int := if s.op = true then 1 else 0

theorem set_same (l : List Int) : ∃ i v, l = l.set i v := ⟨l.length, 0, by rw [List.set_eq_of_length_le (Nat.le_refl _)]⟩

theorem one_open (s : MemS) : OneStep 1 s s.opened 1 31 :=
  ⟨rfl, fun _ _ _ => rfl, set_same _, fun h => by omega, fun _ => ⟨rfl, rfl⟩⟩
theorem one_none (x : Int) (s : MemS) : OneStep x s s (letOf s) 31 :=
  ⟨rfl, fun _ _ _ => rfl, set_same _, fun h => by omega, fun _ => ⟨rfl, rfl⟩⟩
theorem acc_op {s : MemS} {i : Int} (h : s.acc i = 0) : s.op = true := by
  rcases acc_cases s i with ⟨_, hc⟩ | ⟨k, _, _, hc⟩ | ⟨k, _, _, ho, hc⟩ | ⟨k, _, _, ho, hc⟩
  all_goals first | exact ho | omega
theorem one_load (s : MemS) (i : Int) : OneStep 2 s (s.load i) (letOf s) (s.acc i) := by
  unfold MemS.load
  by_cases h : s.acc i = 0
  · rw [if_pos h]
    exact ⟨rfl, fun _ _ _ => rfl, set_same _, fun _ => ⟨rfl, rfl, by rw [letOf, acc_op h]; rfl⟩, fun h' => absurd h h'⟩
  · rw [if_neg h]
    exact ⟨rfl, fun _ _ _ => rfl, set_same _, fun h' => absurd h' h, fun _ => ⟨rfl, rfl⟩⟩
theorem one_store (s : MemS) (i v : Int) : OneStep 3 s (s.store i v) (letOf s) (s.acc i) := by
  unfold MemS.store
  by_cases h : s.acc i = 0
  · rw [if_pos h]
    exact ⟨by simp [MemS.put, MemS.touch], fun h => absurd rfl h, ⟨_, _, rfl⟩, fun _ => ⟨rfl, rfl, by rw [letOf, acc_op h]; rfl⟩, fun h' => absurd h h'⟩
  · rw [if_neg h]
    exact ⟨rfl, fun _ _ _ => rfl, set_same _, fun h' => absurd h' h, fun _ => ⟨rfl, rfl⟩⟩
theorem one_add (s : MemS) (i v : Int) : OneStep 4 s (s.add i v) (letOf s) (s.acc i) := by
  unfold MemS.add
  by_cases h : s.acc i = 0
  · rw [if_pos h]
    exact ⟨by simp [MemS.put, MemS.touch], fun _ h => absurd rfl h, ⟨_, _, rfl⟩, fun _ => ⟨rfl, rfl, by rw [letOf, acc_op h]; rfl⟩, fun h' => absurd h h'⟩
  · rw [if_neg h]
    exact ⟨rfl, fun _ _ _ => rfl, set_same _, fun h' => absurd h' h, fun _ => ⟨rfl, rfl⟩⟩
theorem one_poke (s : MemS) (i v : Int) : OneStep 6 s (s.poke i v) (letOf s) 31 := by
  unfold MemS.poke
  by_cases h : s.bad i = 0
  · rw [if_pos h]
    exact ⟨by simp [MemS.put], fun _ _ h => absurd rfl h, ⟨_, _, rfl⟩, fun h => by omega, fun _ => ⟨rfl, rfl⟩⟩
  · rw [if_neg h]
    exact ⟨rfl, fun _ _ _ => rfl, set_same _, fun h => by omega, fun _ => ⟨rfl, rfl⟩⟩

/-- How many of the first j places differ. -/
def cntD (l l' : List Int) : Nat → Nat
  | 0 => 0
  | j + 1 => cntD l l' j + if l.getD j 0 = l'.getD j 0 then 0 else 1

theorem cntD_same (l : List Int) (j : Nat) : cntD l l j = 0 := by
  induction j with
  | zero => rfl
  | succ j ih => simp [cntD, ih]
theorem cntD_set (l : List Int) (i : Nat) (v : Int) (j : Nat) : cntD l (l.set i v) j ≤ if i < j then 1 else 0 := by
  induction j with
  | zero => simp [cntD]
  | succ j ih =>
    have hg : (l.set i v).getD j 0 = if i = j ∧ j < l.length then v else l.getD j 0 := by
      simp only [List.getD_eq_getElem?_getD, List.getElem?_set]
      by_cases h : i = j
      · subst h
        by_cases h2 : i < l.length
        · simp [h2]
        · simp [h2]
      · simp [h]
    unfold cntD
    by_cases h : i = j
    · subst h
      rw [if_neg (by omega)] at ih
      rw [if_pos (by omega : i < i + 1)]
      have h0 : (if l.getD i 0 = (l.set i v).getD i 0 then 0 else 1) ≤ 1 := by split <;> omega
      omega
    · have he : l.getD j 0 = (l.set i v).getD j 0 := by rw [hg, if_neg (by simp [h])]
      rw [if_pos he]
      by_cases h2 : i < j
      · rw [if_pos h2] at ih; rw [if_pos (by omega)]; omega
      · rw [if_neg h2] at ih; rw [if_neg (by omega)]; omega
theorem OneStep.cnt {x : Int} {s s' : MemS} {L E : Int} (h : OneStep x s s' L E) (j : Nat) : cntD s.ws s'.ws j ≤ 1 ∧ (x ≠ 3 → x ≠ 4 → x ≠ 6 → cntD s.ws s'.ws j = 0) := by
  obtain ⟨i, v, hw⟩ := h.one
  refine ⟨?_, fun h3 h4 h6 => by rw [h.same h3 h4 h6, cntD_same]⟩
  have := cntD_set s.ws i v j
  rw [← hw] at this
  split at this <;> omega
theorem cntD_succ (l l' : List Int) (j : Nat) : (cntD l l' (j + 1) : Int) = cntD l l' j + if l.getD j 0 = l'.getD j 0 then 0 else 1 := by
  simp only [cntD]; split <;> simp
theorem OneStep.letOk {x : Int} {s s' : MemS} {L E : Int} (h : OneStep x s s' L E) : (E = 0 → L - 1 = letOf s') ∧ (E ≠ 0 → L = letOf s') := by
  refine ⟨fun he => ?_, fun he => (h.bad he).2⟩
  obtain ⟨_, ho, hl⟩ := h.ok he
  rw [letOf, ho, hl]; rfl
end Go.Proofs.Ytobmgnoceacoaaa

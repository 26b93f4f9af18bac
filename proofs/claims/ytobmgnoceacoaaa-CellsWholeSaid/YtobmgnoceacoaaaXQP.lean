/- CellsQuiet: the plain part. -/
import Derived.Test.YtobmgnoceacoaaaXLV
import Derived.Deep.QuietTactic
import Derived.BigQuiet
import Derived.Deep.DeepCutAuto
import Derived.Deep.CutBlock
import Derived.Deep.RegionHeld3
import Derived.StillTailTactics
import Derived.IntWalk
namespace Go.Proofs.Ytobmgnoceacoaaa
open Go.RowKit
attribute [local go_sem] run_store_float

variable {V N U st : Int} {w0 w w' : World} {a b l tb : Nat} {s s' : MemS} {r r' : RdS}
theorem ws3_acc (h : s.ws = [V, N, U]) {i : Int} (h0 : 0 ≤ i) (h3 : i < 3) : s.opened.acc i = 0 := by
  unfold MemS.acc MemS.opened
  rw [if_neg (by simp only [h]; simp; omega)]; rfl
theorem ws3_E (h : s.ws = [V, N, U]) {k : Int} (h0 : 0 ≤ k) (h3 : k < 3) : s.opened.cellE 0 0 k = 0 := by
  unfold MemS.cellE
  rw [if_pos (by decide)]
  exact ws3_acc h (by omega) (by omega)
theorem ws3_M (h : s.ws = [V, N, U]) {k : Int} (h0 : 0 ≤ k) (h3 : k < 3) : (s.opened.cellM 0 0 k).ws = [V, N, U] := by
  unfold MemS.cellM
  rw [if_pos (by decide)]
  unfold MemS.load
  rw [if_pos (ws3_acc h (by omega) (by omega))]
  exact h
theorem ws3_V (h : s.ws = [V, N, U]) (k : Nat) (h3 : k < 3) : s.opened.cellV 0 0 k = [V, N, U].getD k 0 := by
  unfold MemS.cellV
  rw [if_pos (by decide)]
  unfold MemS.got
  rw [if_pos (ws3_acc h (by omega) (by omega))]
  unfold MemS.at MemS.opened
  simp only [h]
  congr 1
  omega

/-- A reading of a cell that does not change, step by step. -/
def qR (V N U st : Int) : Nat → RdS
  | 0 => RdS.mk 0 0 0 0 0 0 0 st 0 0 0 0 false
  | 1 => RdS.mk 0 0 0 0 0 0 0 st (if st < V then 3 else 1) V 0 1 false
  | 2 => if st < V then RdS.mk 0 0 0 0 0 0 0 st 4 V (fixB U.toNat) 2 false else RdS.mk 0 0 0 0 0 0 0 st 2 V (fixB N.toNat) 2 false
  | _ => RdS.mk 0 0 0 0 0 0 0 st 4 V (fixB N.toNat) 3 false
def qN (V st : Int) : Nat := if st < V then 2 else 3
theorem rd_inv (r : RdS) (p : Int) (hp : r.pa = p) (h0 : 0 ≤ p) (h4 : p ≤ 4) : r.Inv := ⟨by omega, by omega⟩
theorem qR_inv (V N U st : Int) : ∀ i, (qR V N U st i).Inv
  | 0 => rd_inv _ 0 rfl (by decide) (by decide)
  | 1 => rd_inv _ (if st < V then (3 : Int) else 1) rfl (by split <;> decide) (by split <;> decide)
  | 2 => by
    show RdS.Inv (if st < V then _ else _)
    split
    · exact rd_inv _ 4 rfl (by decide) (by decide)
    · exact rd_inv _ 2 rfl (by decide) (by decide)
  | _ + 3 => rd_inv _ 4 rfl (by decide) (by decide)
theorem qR_step (h : s.ws = [V, N, U]) (i : Nat) (hi : i < qN V st) : (qR V N U st i).err s.opened = 0 ∧ (qR V N U st i).over s.opened = decide (i + 1 = qN V st) ∧ (qR V N U st i).next s.opened = qR V N U st (i + 1) ∧ ((qR V N U st i).mem s.opened).ws = [V, N, U] := by
  have E : ∀ (r : RdS) (p k : Int), r.pa = p → p ≠ 4 → r.p4 = 0 → r.c = 0 → r.which = k → 0 ≤ k → k < 3 → r.err s.opened = 0 ∧ (r.mem s.opened).ws = [V, N, U] := by
    intro r p k hp4 h4 hp hc hk h0 h3
    rw [← hp4] at h4
    refine ⟨?_, ?_⟩
    · unfold RdS.err; rw [if_neg h4, hp, hc, hk]; exact ws3_E h h0 h3
    · unfold RdS.mem; rw [if_neg h4, hp, hc, hk]; exact ws3_M h h0 h3
  have X : ∀ (r r' : RdS) (k : Nat), r.err s.opened = 0 → r.p4 = 0 → r.c = 0 → r.which = k → k < 3 → r.took ([V, N, U].getD k 0) = r' → r.next s.opened = r' ∧ r.over s.opened = (r'.pa == 4) := by
    intro r r' k he hp hc hk h3 ht
    have hn : r.next s.opened = r' := by unfold RdS.next; rw [if_pos he, hp, hc, hk, ws3_V h k h3]; exact ht
    exact ⟨hn, by unfold RdS.over; rw [if_pos he, hn]⟩
  by_cases hg : st < V
  · have hq : qN V st = 2 := if_pos hg
    rw [hq] at hi ⊢
    rcases (show i = 0 ∨ i = 1 by omega) with rfl | rfl
    · obtain ⟨e, m⟩ := E (qR V N U st 0) 0 0 rfl (by decide) rfl rfl rfl (by decide) (by decide)
      obtain ⟨x, o⟩ := X (qR V N U st 0) (qR V N U st 1) 0 e rfl rfl rfl (by decide) (by simp [RdS.took, qR, hg, wrap64])
      exact ⟨e, by rw [o]; simp [qR, hg], x, m⟩
    · have q1 : qR V N U st 1 = RdS.mk 0 0 0 0 0 0 0 st 3 V 0 1 false := by simp [qR, hg]
      have q2 : qR V N U st 2 = RdS.mk 0 0 0 0 0 0 0 st 4 V (fixB U.toNat) 2 false := by simp [qR, hg]
      rw [q1, show (1 : Nat) + 1 = 2 from rfl, q2]
      obtain ⟨e, m⟩ := E (RdS.mk 0 0 0 0 0 0 0 st 3 V 0 1 false) 3 2 rfl (by decide) rfl rfl rfl (by decide) (by decide)
      obtain ⟨x, o⟩ := X (RdS.mk 0 0 0 0 0 0 0 st 3 V 0 1 false) (RdS.mk 0 0 0 0 0 0 0 st 4 V (fixB U.toNat) 2 false) 2 e rfl rfl rfl (by decide) (by simp [RdS.took, wrap64])
      exact ⟨e, by rw [o]; rfl, x, m⟩
  · have hq : qN V st = 3 := if_neg hg
    rw [hq] at hi ⊢
    rcases (show i = 0 ∨ i = 1 ∨ i = 2 by omega) with rfl | rfl | rfl
    · obtain ⟨e, m⟩ := E (qR V N U st 0) 0 0 rfl (by decide) rfl rfl rfl (by decide) (by decide)
      obtain ⟨x, o⟩ := X (qR V N U st 0) (qR V N U st 1) 0 e rfl rfl rfl (by decide) (by simp [RdS.took, qR, hg, wrap64])
      exact ⟨e, by rw [o]; simp [qR, hg], x, m⟩
    · have q1 : qR V N U st 1 = RdS.mk 0 0 0 0 0 0 0 st 1 V 0 1 false := by simp [qR, hg]
      have q2 : qR V N U st 2 = RdS.mk 0 0 0 0 0 0 0 st 2 V (fixB N.toNat) 2 false := by simp [qR, hg]
      rw [q1, show (1 : Nat) + 1 = 2 from rfl, q2]
      obtain ⟨e, m⟩ := E (RdS.mk 0 0 0 0 0 0 0 st 1 V 0 1 false) 1 1 rfl (by decide) rfl rfl rfl (by decide) (by decide)
      obtain ⟨x, o⟩ := X (RdS.mk 0 0 0 0 0 0 0 st 1 V 0 1 false) (RdS.mk 0 0 0 0 0 0 0 st 2 V (fixB N.toNat) 2 false) 1 e rfl rfl rfl (by decide) (by simp [RdS.took, wrap64])
      exact ⟨e, by rw [o]; rfl, x, m⟩
    · have q2 : qR V N U st 2 = RdS.mk 0 0 0 0 0 0 0 st 2 V (fixB N.toNat) 2 false := by simp [qR, hg]
      have q3 : qR V N U st 3 = RdS.mk 0 0 0 0 0 0 0 st 4 V (fixB N.toNat) 3 false := rfl
      rw [q2, show (2 : Nat) + 1 = 3 from rfl, q3]
      obtain ⟨e, m⟩ := E (RdS.mk 0 0 0 0 0 0 0 st 2 V (fixB N.toNat) 2 false) 2 0 rfl (by decide) rfl rfl rfl (by decide) (by decide)
      obtain ⟨x, o⟩ := X (RdS.mk 0 0 0 0 0 0 0 st 2 V (fixB N.toNat) 2 false) (RdS.mk 0 0 0 0 0 0 0 st 4 V (fixB N.toNat) 3 false) 0 e rfl rfl rfl (by decide) (by simp [RdS.took, wrap64])
      exact ⟨e, by rw [o]; rfl, x, m⟩
theorem qR_end (V N U st : Int) : qR V N U st (qN V st) = RdS.mk 0 0 0 0 0 0 0 st 4 V (atB V N U st) (if st < V then 2 else 3) false := by
  unfold qN atB
  by_cases hg : st < V
  · simp [qR, hg]
  · simp [qR, hg]

end Go.Proofs.Ytobmgnoceacoaaa

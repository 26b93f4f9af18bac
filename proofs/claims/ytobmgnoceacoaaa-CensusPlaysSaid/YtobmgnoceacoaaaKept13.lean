/- Layer 13: what a step leaves. -/
import Derived.Test.YtobmgnoceacoaaaW13
namespace Go.Proofs.Ytobmgnoceacoaaa
/-- What a step of layer 13 leaves. -/
def Kept (w0 : World) (x a b c d : Nat) (n : Nat) (e : Ending) (w' : World) : Prop :=
  e = .returned (.bool true) ∧ ∃ k kr l lr s co sc, W13 w0 w' x a b c d k kr l lr s co sc ∧ s.ws.length = n
theorem len_leave (s : MemS) (p th : Int) : (s.leave p th).ws.length = s.ws.length := by unfold MemS.leave; split <;> simp [len_store]
theorem nm2 {n p q : Nat} (h1 : n ≠ p) (h2 : n ≠ q) : n ∉ [p, q] := by simp [h1, h2]
theorem nm3 {n p q r : Nat} (h1 : n ≠ p) (h2 : n ≠ q) (h3 : n ≠ r) : n ∉ [p, q, r] := by simp [h1, h2, h3]
end Go.Proofs.Ytobmgnoceacoaaa

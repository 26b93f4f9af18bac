/- CellsPlays: a reading of the program's and one of the document's go alike. -/
import Derived.Test.YtobmgnoceacoaaaYG
import Derived.Deep.QuietTactic
import Derived.BigQuiet
import Derived.Deep.DeepCutAuto
import Derived.Deep.CutBlock
import Derived.Deep.RegionHeld3
import Derived.StillTailTactics
import Derived.IntWalk
namespace Go.Proofs.Ytobmgnoceacoaaa
open Go.RowKit
attribute [local go_sem] run_store_float

variable {w0 w w1 w' : World} {lab lab' : Nat → Nat} {x a b c d k g n : Nat} {r0 r1 d0 d1 u0 u1 e0 e1 v : Value} {s t s' : MemS} {R0 R1 : Option RdS} {D0 D1 : Option (RdS × List Int)} {U0 U1 E0 E1 : Option WrS} {r r' : RdS} {q q' : WrS} {u : Value} {L L' : List Int}
/-- What the program's reading is, when the document's has loaded these words. -/
def RInv (r : RdS) : List Int → Prop
  | [] => r.pa = 0 ∧ r.sp = 0 ∧ r.tn = false
  | [a] => r.sp = 1 ∧ r.ve = a ∧ r.tn = false ∧ r.pa = if r.st < a then 3 else 1
  | [a, b] => r.sp = 2 ∧ r.ve = a ∧ r.tn = false ∧ r.va = fixB b.toNat ∧ r.pa = if a ≤ r.st then 2 else 4
  | [a, b, c] => r.sp = 3 ∧ r.ve = a ∧ r.tn = (c != a) ∧ r.va = fixB b.toNat ∧ r.pa = if c = a then 4 else 3
  | [a, _, c, d] => r.sp = 4 ∧ r.tn = (c != a) ∧ r.va = fixB d.toNat ∧ r.pa = 4
  | _ => False
theorem RInv.len (h : RInv r L) : L.length ≤ 4 := by
  match L, h with
  | [], _ => simp
  | [_], _ => simp
  | [_, _], _ => simp
  | [_, _, _], _ => simp
  | [_, _, _, _], _ => simp
theorem RInv.inv (h : RInv r L) : r.Inv := by
  match L, h with
  | [], h => exact ⟨by have := h.1; omega, by have := h.1; omega⟩
  | [a], h => obtain ⟨_, _, _, h⟩ := h; constructor <;> (split at h <;> omega)
  | [a, b], h => obtain ⟨_, _, _, _, h⟩ := h; constructor <;> (split at h <;> omega)
  | [a, b, c], h => obtain ⟨_, _, _, _, h⟩ := h; constructor <;> (split at h <;> omega)
  | [a, b, c, d], h => exact ⟨by have := h.2.2.2; omega, by have := h.2.2.2; omega⟩
theorem RInv.steps (h : RInv r L) : (L.length : Int) = r.sp := by
  match L, h with
  | [], h => exact h.2.1.symm
  | [_], h => exact h.1.symm
  | [_, _], h => exact h.1.symm
  | [_, _, _], h => exact h.1.symm
  | [_, _, _, _], h => exact h.1.symm
theorem RInv.torn (h : RInv r L) : tornR L = r.tn := by
  match L, h with
  | [], h => exact h.2.2.symm
  | [_], h => exact h.2.2.1.symm
  | [_, _], h => exact h.2.2.1.symm
  | [_, _, _], h => exact h.2.2.1.symm
  | [_, _, _, _], h => exact h.2.1.symm
/-- Which word comes next, on both sides. -/
theorem RInv.next (h : RInv r L) : (r.pa = 4 ∧ nextR r.st L = -1) ∨ (r.pa ≠ 4 ∧ 0 ≤ nextR r.st L ∧ r.which = nextR r.st L) := by
  match L, h with
  | [], h =>
    obtain ⟨p, _, _⟩ := h
    exact .inr ⟨by omega, by show (0 : Int) ≤ 0; decide, by unfold RdS.which; rw [if_neg (by omega), if_neg (by omega)]; rfl⟩
  | [a], h =>
    obtain ⟨_, _, _, p⟩ := h
    right
    by_cases hc : r.st < a
    · rw [if_pos hc] at p
      have e : nextR r.st [a] = 2 := if_pos hc
      rw [e]; exact ⟨by omega, by decide, by unfold RdS.which; rw [if_neg (by omega), if_pos p]⟩
    · rw [if_neg hc] at p
      have e : nextR r.st [a] = 1 := if_neg hc
      rw [e]; exact ⟨by omega, by decide, by unfold RdS.which; rw [if_pos p]⟩
  | [a, b], h =>
    obtain ⟨_, _, _, _, p⟩ := h
    by_cases hc : a ≤ r.st
    · rw [if_pos hc] at p
      have e : nextR r.st [a, b] = 0 := if_pos hc
      rw [e]; exact .inr ⟨by omega, by decide, by unfold RdS.which; rw [if_neg (by omega), if_neg (by omega)]⟩
    · rw [if_neg hc] at p
      have e : nextR r.st [a, b] = -1 := if_neg hc
      exact .inl ⟨p, e⟩
  | [a, b, c], h =>
    obtain ⟨_, _, _, _, p⟩ := h
    by_cases hc : c = a
    · rw [if_pos hc] at p
      have e : nextR r.st [a, b, c] = -1 := if_neg (fun h => h hc)
      exact .inl ⟨p, e⟩
    · rw [if_neg hc] at p
      have e : nextR r.st [a, b, c] = 2 := if_pos hc
      rw [e]; exact .inr ⟨by omega, by decide, by unfold RdS.which; rw [if_neg (by omega), if_pos p]⟩
  | [a, b, c, d], h => exact .inl ⟨h.2.2.2, rfl⟩
theorem RInv.value (h : RInv r L) : valueR r.st L = r.value := by
  rcases h.next with ⟨p, e⟩ | ⟨p, e, _⟩
  · unfold valueR RdS.value
    rw [e, if_neg (by decide), if_pos p]
    match L, h, e with
    | [], _, e => exact absurd e (by show ¬ (0 : Int) = -1; decide)
    | [a], h, e => exact absurd e (by show ¬ (if r.st < a then (2 : Int) else 1) = -1; split <;> decide)
    | [_, _], h, _ => exact h.2.2.2.1.symm
    | [_, _, _], h, _ => exact h.2.2.2.1.symm
    | [_, _, _, _], h, _ => exact h.2.2.1.symm
  · unfold valueR RdS.value
    rw [if_pos e, if_neg p]
theorem RInv.err (h : RInv r L) (s : MemS) : refErr r L s = r.err s ∧ refMem r L s = r.mem s := by
  rcases h.next with ⟨p, e⟩ | ⟨p, e, f⟩
  · have e1 : refErr r L s = 3 := if_pos (by omega)
    have e2 : r.err s = 3 := if_pos p
    have e3 : refMem r L s = s := if_pos (by omega)
    have e4 : r.mem s = s := if_pos p
    rw [e1, e2, e3, e4]; exact ⟨rfl, rfl⟩
  · have e1 : refErr r L s = s.cellE r.p4 r.c (nextR r.st L) := if_neg (by omega)
    have e2 : r.err s = s.cellE r.p4 r.c r.which := if_neg p
    have e3 : refMem r L s = s.cellM r.p4 r.c (nextR r.st L) := if_neg (by omega)
    have e4 : r.mem s = s.cellM r.p4 r.c r.which := if_neg p
    rw [e1, e2, e3, e4, f]; exact ⟨rfl, rfl⟩
theorem took_wrap (h : r.sp = ((n : Nat) : Int)) (hn : n ≤ 4) : wrap64 (r.sp + 1) = ((n + 1 : Nat) : Int) := by
  rw [h]; unfold wrap64; omega
theorem RInv.took (h : RInv r L) (hp : r.pa ≠ 4) (v : Int) : RInv (r.took v) (L ++ [v]) := by
  match L, h with
  | [], h =>
    obtain ⟨p, hs, ht⟩ := h
    have e : r.took v = { r with ve := v, pa := if r.st < v then 3 else 1, sp := wrap64 (r.sp + 1) } := by unfold RdS.took; rw [if_pos p]
    rw [e]
    exact ⟨took_wrap (n := 0) hs (by decide), rfl, ht, rfl⟩
  | [a], h =>
    obtain ⟨hs, hv, ht, p⟩ := h
    by_cases hc : r.st < a
    · rw [if_pos hc] at p
      have e : r.took v = { r with va := fixB v.toNat, pa := 4, sp := wrap64 (r.sp + 1) } := by unfold RdS.took; rw [if_neg (by omega), if_neg (by omega), if_neg (by omega)]
      rw [e]
      exact ⟨took_wrap (n := 1) hs (by decide), hv, ht, rfl, by show (4 : Int) = if a ≤ r.st then 2 else 4; rw [if_neg (by omega)]⟩
    · rw [if_neg hc] at p
      have e : r.took v = { r with va := fixB v.toNat, pa := 2, sp := wrap64 (r.sp + 1) } := by unfold RdS.took; rw [if_neg (by omega), if_pos p]
      rw [e]
      exact ⟨took_wrap (n := 1) hs (by decide), hv, ht, rfl, by show (2 : Int) = if a ≤ r.st then 2 else 4; rw [if_pos (by omega)]⟩
  | [a, b], h =>
    obtain ⟨hs, hv, ht, hb, p⟩ := h
    by_cases hc : a ≤ r.st
    · rw [if_pos hc] at p
      have e : r.took v = { r with tn := v != r.ve, pa := if v = r.ve then 4 else 3, sp := wrap64 (r.sp + 1) } := by unfold RdS.took; rw [if_neg (by omega), if_neg (by omega), if_pos p]
      rw [e]
      exact ⟨took_wrap (n := 2) hs (by decide), hv, by show (v != r.ve) = (v != a); rw [hv], hb, by show (if v = r.ve then (4 : Int) else 3) = _; rw [hv]⟩
    · rw [if_neg hc] at p; exact absurd p hp
  | [a, b, c], h =>
    obtain ⟨hs, hv, ht, hb, p⟩ := h
    by_cases hc : c = a
    · rw [if_pos hc] at p; exact absurd p hp
    · rw [if_neg hc] at p
      have e : r.took v = { r with va := fixB v.toNat, pa := 4, sp := wrap64 (r.sp + 1) } := by unfold RdS.took; rw [if_neg (by omega), if_neg (by omega), if_neg (by omega)]
      rw [e]
      exact ⟨took_wrap (n := 3) hs (by decide), ht, rfl, rfl⟩
  | [_, _, _, _], h => exact absurd h.2.2.2 hp
theorem RInv.step (h : RInv r L) (s : MemS) : RInv (r.next s) (refNext r L s) ∧ refOver r L s = r.over s := by
  obtain ⟨he, _⟩ := h.err s
  unfold RdS.next refNext refOver RdS.over
  rw [he]
  by_cases hz : r.err s = 0
  · rw [if_pos hz, if_pos hz, if_pos hz, if_pos hz]
    have hp : r.pa ≠ 4 := by intro hp; unfold RdS.err at hz; rw [if_pos hp] at hz; exact absurd hz (by decide)
    rcases h.next with ⟨p, _⟩ | ⟨_, e, f⟩
    · exact absurd p hp
    · have h2 := h.took hp (s.cellV r.p4 r.c (nextR r.st L))
      have hn : r.next s = r.took (s.cellV r.p4 r.c r.which) := if_pos hz
      have hr : refNext r L s = L ++ [s.cellV r.p4 r.c (nextR r.st L)] := if_pos (he.trans hz)
      rw [hn, f, hr]
      refine ⟨h2, ?_⟩
      have hst : (r.took (s.cellV r.p4 r.c (nextR r.st L))).st = r.st := by unfold RdS.took; split <;> (try split) <;> (try split) <;> rfl
      have h3 := h2.next
      rw [hst] at h3
      rcases h3 with ⟨p, e3⟩ | ⟨p, e3, _⟩
      · rw [e3, p]; rfl
      · rw [decide_eq_false (by omega)]; exact (beq_eq_false_iff_ne.2 p).symm
  · rw [if_neg hz, if_neg hz, if_neg hz, if_neg hz]
    exact ⟨h, rfl⟩
theorem refArr_next (r : RdS) (s : MemS) (u : Value) : refArr (r.next s) u = refArr r u := by
  unfold RdS.next
  split
  · unfold RdS.took; split <;> (try split) <;> (try split) <;> rfl
  · rfl
theorem RdRef.next (h : RdRef w k r u L) (s : MemS) : RdRef w k (r.next s) u L := ⟨by rw [refArr_next]; exact h.hd, h.own⟩
/-- Both sides of a reading; of a writing. -/
def CplR : Option RdS → Option (RdS × List Int) → Prop
  | none, none => True
  | some r, some (r', L) => r' = r ∧ RInv r L
  | _, _ => False
def CplW : Option WrS → Option WrS → Prop
  | none, none => True
  | some q, some q' => q' = q ∧ q.Inv
  | _, _ => False

end Go.Proofs.Ytobmgnoceacoaaa

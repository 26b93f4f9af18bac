/- CellsPlays: the world of both sides. -/
import Derived.Test.YtobmgnoceacoaaaYF
import Derived.Deep.QuietTactic
import Derived.BigQuiet
import Derived.Deep.DeepCutAuto
import Derived.Deep.CutBlock
import Derived.Deep.RegionHeld3
import Derived.StillTailTactics
import Derived.IntWalk
namespace Go.Proofs.Ytobmgnoceacoaaa
open Go.RowKit
attribute [local go_sem] run_store_float

/-! Each block of the world has an owner: 0 the program's memory, 1 the document's, 2 the world's struct, 3 4 the program's readings, 5 6 the document's, 7 8 the program's writings, 9 10 the document's, 11 what was there before. -/
variable {w0 w w1 w' : World} {lab lab' : Nat → Nat} {x a b c d k g n : Nat} {r0 r1 d0 d1 u0 u1 e0 e1 v : Value} {s t s' : MemS} {R0 R1 : Option RdS} {D0 D1 : Option (RdS × List Int)} {U0 U1 E0 E1 : Option WrS} {r r' : RdS} {q q' : WrS} {u : Value} {L L' : List Int}
def PR (w : World) (lab : Nat → Nat) (i : Nat) (v : Value) : Option RdS → Prop
  | none => v = .pointer none
  | some r => ∃ k, v = .pointer (some ⟨k, 0, none⟩) ∧ w.heap[k]? = some (.cells r.arr 177 (0, 0)) ∧ lab k = i
def RR (w : World) (lab : Nat → Nat) (i : Nat) (v : Value) : Option (RdS × List Int) → Prop
  | none => v = .pointer none
  | some (r, L) => ∃ k u, v = .pointer (some ⟨k, 0, none⟩) ∧ RdRef w k r u L ∧ lab k = i ∧ ∀ g, u.ownBlock = some g → lab g = i
def PW (w : World) (lab : Nat → Nat) (i : Nat) (v : Value) : Option WrS → Prop
  | none => v = .pointer none
  | some q => ∃ k, v = .pointer (some ⟨k, 0, none⟩) ∧ w.heap[k]? = some (.cells q.arr 180 (0, 0)) ∧ lab k = i
def RW (w : World) (lab : Nat → Nat) (i : Nat) (v : Value) : Option WrS → Prop
  | none => v = .pointer none
  | some q => ∃ k g, v = .pointer (some ⟨k, 0, none⟩) ∧ WrRef w k g q ∧ lab k = i ∧ lab g = i
/-- The blocks that were there keep their owner. -/
def Agree (w : World) (lab lab' : Nat → Nat) : Prop := ∀ n, n < w.heap.size → lab' n = lab n
/-- Only blocks of these owners may have changed. -/
def Only (S : List Nat) (w : World) (lab : Nat → Nat) (J : List Nat) : Prop := ∀ n ∈ S, n < w.heap.size → lab n ∈ J
theorem Only.nin {S J : List Nat} {i : Nat} (h : Only S w lab J) (hi : i ∉ J) (hn : lab n = i) (hl : n < w.heap.size) : n ∉ S := fun hs => hi (hn ▸ h n hs hl)
theorem PR.carry {S J : List Nat} {i : Nat} (h : PR w lab i v R0) (m : Mod S w w') (hs : Only S w lab J) (hi : i ∉ J) (ha : Agree w lab lab') : PR w' lab' i v R0 := by
  cases R0 with
  | none => exact h
  | some r =>
    obtain ⟨k, h1, h2, h3⟩ := h
    exact ⟨k, h1, m.at h2 (hs.nin hi h3 (lt_of_block h2)), (ha k (lt_of_block h2)).trans h3⟩
theorem RdRef.ltu (h : RdRef w k r u L) {g : Nat} (hg : u.ownBlock = some g) : g < w.heap.size := by obtain ⟨_, hc⟩ := own_ty h hg; exact lt_of_block hc
theorem RR.carry {S J : List Nat} {i : Nat} (h : RR w lab i v D0) (m : Mod S w w') (hs : Only S w lab J) (hi : i ∉ J) (ha : Agree w lab lab') : RR w' lab' i v D0 := by
  match D0, h with
  | none, h => exact h
  | some (r, L), h =>
    obtain ⟨k, u, h1, h2, h3, h4⟩ := h
    exact ⟨k, u, h1, h2.mod m (hs.nin hi h3 (lt_of_block h2.hd)) (fun g hg => hs.nin hi (h4 g hg) (h2.ltu hg)), (ha k (lt_of_block h2.hd)).trans h3, fun g hg => (ha g (h2.ltu hg)).trans (h4 g hg)⟩
theorem PW.carry {S J : List Nat} {i : Nat} (h : PW w lab i v U0) (m : Mod S w w') (hs : Only S w lab J) (hi : i ∉ J) (ha : Agree w lab lab') : PW w' lab' i v U0 := by
  cases U0 with
  | none => exact h
  | some r =>
    obtain ⟨k, h1, h2, h3⟩ := h
    exact ⟨k, h1, m.at h2 (hs.nin hi h3 (lt_of_block h2)), (ha k (lt_of_block h2)).trans h3⟩
theorem RW.carry {S J : List Nat} {i : Nat} (h : RW w lab i v U0) (m : Mod S w w') (hs : Only S w lab J) (hi : i ∉ J) (ha : Agree w lab lab') : RW w' lab' i v U0 := by
  cases U0 with
  | none => exact h
  | some r =>
    obtain ⟨k, g, h1, h2, h3, h4⟩ := h
    exact ⟨k, g, h1, h2.mod m (hs.nin hi h3 (lt_of_block h2.hd)) (hs.nin hi h4 (lt_of_block h2.wd)), (ha k (lt_of_block h2.hd)).trans h3, (ha g (lt_of_block h2.wd)).trans h4⟩

/-- The world. -/
structure W11 (w0 w : World) (lab : Nat → Nat) (x a b c d : Nat) (r0 r1 d0 d1 u0 u1 e0 e1 : Value) (s t : MemS) (R0 R1 : Option RdS) (D0 D1 : Option (RdS × List Int)) (U0 U1 E0 E1 : Option WrS) : Prop where
  hx : w.heap[x]? = some (.cells #[.pointer (some ⟨a, 0, none⟩), .pointer (some ⟨c, 0, none⟩), r0, r1, d0, d1, u0, u1, e0, e1] 136 (0, 0))
  m : MemAt 142 w a b s
  r : MemAt 148 w c d t
  lx : lab x = 2
  la : lab a = 0
  lb : lab b = 0
  lc : lab c = 1
  ld : lab d = 1
  c_r0 : PR w lab 3 r0 R0
  c_r1 : PR w lab 4 r1 R1
  c_d0 : RR w lab 5 d0 D0
  c_d1 : RR w lab 6 d1 D1
  c_u0 : PW w lab 7 u0 U0
  c_u1 : PW w lab 8 u1 U1
  c_e0 : RW w lab 9 e0 E0
  c_e1 : RW w lab 10 e1 E1
  old : ∀ n, n < w0.heap.size → lab n = 11
  fr : Mod [] w0 w
theorem W11.ge (h : W11 w0 w lab x a b c d r0 r1 d0 d1 u0 u1 e0 e1 s t R0 R1 D0 D1 U0 U1 E0 E1) (hn : lab n ≠ 11) : w0.heap.size ≤ n := by
  by_cases hl : n < w0.heap.size
  · exact absurd (h.old n hl) hn
  · omega
theorem W11.gx (h : W11 w0 w lab x a b c d r0 r1 d0 d1 u0 u1 e0 e1 s t R0 R1 D0 D1 U0 U1 E0 E1) : w0.heap.size ≤ x := h.ge (by rw [h.lx]; decide)
theorem W11.ga (h : W11 w0 w lab x a b c d r0 r1 d0 d1 u0 u1 e0 e1 s t R0 R1 D0 D1 U0 U1 E0 E1) : w0.heap.size ≤ a := h.ge (by rw [h.la]; decide)
theorem W11.gb (h : W11 w0 w lab x a b c d r0 r1 d0 d1 u0 u1 e0 e1 s t R0 R1 D0 D1 U0 U1 E0 E1) : w0.heap.size ≤ b := h.ge (by rw [h.lb]; decide)
theorem W11.gc (h : W11 w0 w lab x a b c d r0 r1 d0 d1 u0 u1 e0 e1 s t R0 R1 D0 D1 U0 U1 E0 E1) : w0.heap.size ≤ c := h.ge (by rw [h.lc]; decide)
theorem W11.gd (h : W11 w0 w lab x a b c d r0 r1 d0 d1 u0 u1 e0 e1 s t R0 R1 D0 D1 U0 U1 E0 E1) : w0.heap.size ≤ d := h.ge (by rw [h.ld]; decide)
theorem agree_self : Agree w lab lab := fun _ _ => rfl
def relab (lab : Nat → Nat) (z i : Nat) (n : Nat) : Nat := if z ≤ n then i else lab n
theorem agree_relab (i : Nat) : Agree w lab (relab lab w.heap.size i) := fun n hn => if_neg (by omega)
theorem relab_new {z i : Nat} (h : z ≤ n) : relab lab z i n = i := if_pos h

theorem W11.mod0 (h : W11 w0 w lab x a b c d r0 r1 d0 d1 u0 u1 e0 e1 s t R0 R1 D0 D1 U0 U1 E0 E1) (q : Mod [] w w') : W11 w0 w' lab x a b c d r0 r1 d0 d1 u0 u1 e0 e1 s t R0 R1 D0 D1 U0 U1 E0 E1 := by
  have HA : Agree w lab (lab) := agree_self
  have HO : Only [] w lab [] := by intro n hn; simp at hn
  exact ⟨q.at h.hx (HO.nin (i := 2) (by decide) h.lx (lt_of_block h.hx)), h.m.mod q (HO.nin (i := 0) (by decide) h.la h.m.lta) (HO.nin (i := 0) (by decide) h.lb h.m.ltb), h.r.mod q (HO.nin (i := 1) (by decide) h.lc h.r.lta) (HO.nin (i := 1) (by decide) h.ld h.r.ltb), (HA _ (lt_of_block h.hx)).trans h.lx, (HA _ (h.m.lta)).trans h.la, (HA _ (h.m.ltb)).trans h.lb, (HA _ (h.r.lta)).trans h.lc, (HA _ (h.r.ltb)).trans h.ld, h.c_r0.carry q HO (by decide) HA, h.c_r1.carry q HO (by decide) HA, h.c_d0.carry q HO (by decide) HA, h.c_d1.carry q HO (by decide) HA, h.c_u0.carry q HO (by decide) HA, h.c_u1.carry q HO (by decide) HA, h.c_e0.carry q HO (by decide) HA, h.c_e1.carry q HO (by decide) HA, fun n hn => (HA n (Nat.lt_of_lt_of_le hn h.fr.size)).trans (h.old n hn), h.fr.then q (fun n hn => by by_cases hl : n < w.heap.size; exact .inr (h.ge (by have := HO n hn hl; intro e; rw [e] at this; exact absurd this (by decide))); exact .inr (Nat.le_trans h.fr.size (by omega)))⟩

theorem W11.fresh (h : W11 w0 w lab x a b c d r0 r1 d0 d1 u0 u1 e0 e1 s t R0 R1 D0 D1 U0 U1 E0 E1) (q : Mod [] w w') (i : Nat) : W11 w0 w' (relab lab w.heap.size i) x a b c d r0 r1 d0 d1 u0 u1 e0 e1 s t R0 R1 D0 D1 U0 U1 E0 E1 := by
  have HA : Agree w lab (relab lab w.heap.size i) := agree_relab i
  have HO : Only [] w lab [] := by intro n hn; simp at hn
  exact ⟨q.at h.hx (HO.nin (i := 2) (by decide) h.lx (lt_of_block h.hx)), h.m.mod q (HO.nin (i := 0) (by decide) h.la h.m.lta) (HO.nin (i := 0) (by decide) h.lb h.m.ltb), h.r.mod q (HO.nin (i := 1) (by decide) h.lc h.r.lta) (HO.nin (i := 1) (by decide) h.ld h.r.ltb), (HA _ (lt_of_block h.hx)).trans h.lx, (HA _ (h.m.lta)).trans h.la, (HA _ (h.m.ltb)).trans h.lb, (HA _ (h.r.lta)).trans h.lc, (HA _ (h.r.ltb)).trans h.ld, h.c_r0.carry q HO (by decide) HA, h.c_r1.carry q HO (by decide) HA, h.c_d0.carry q HO (by decide) HA, h.c_d1.carry q HO (by decide) HA, h.c_u0.carry q HO (by decide) HA, h.c_u1.carry q HO (by decide) HA, h.c_e0.carry q HO (by decide) HA, h.c_e1.carry q HO (by decide) HA, fun n hn => (HA n (Nat.lt_of_lt_of_le hn h.fr.size)).trans (h.old n hn), h.fr.then q (fun n hn => by by_cases hl : n < w.heap.size; exact .inr (h.ge (by have := HO n hn hl; intro e; rw [e] at this; exact absurd this (by decide))); exact .inr (Nat.le_trans h.fr.size (by omega)))⟩

theorem W11.memP (h : W11 w0 w lab x a b c d r0 r1 d0 d1 u0 u1 e0 e1 s t R0 R1 D0 D1 U0 U1 E0 E1) (m : MemAt 142 w' a b s') (q : Mod [a, b] w w') : W11 w0 w' lab x a b c d r0 r1 d0 d1 u0 u1 e0 e1 s' t R0 R1 D0 D1 U0 U1 E0 E1 := by
  have HOn : Only [a, b] w lab [0] := by
    intro n hn _
    simp only [List.mem_cons, List.not_mem_nil, or_false] at hn
    rcases hn with rfl | rfl
    · rw [h.la]; decide
    · rw [h.lb]; decide
  have HA : Agree w lab (lab) := agree_self
  have HO : Only [a, b] w lab [0] := HOn
  exact ⟨q.at h.hx (HO.nin (i := 2) (by decide) h.lx (lt_of_block h.hx)), m, h.r.mod q (HO.nin (i := 1) (by decide) h.lc h.r.lta) (HO.nin (i := 1) (by decide) h.ld h.r.ltb), (HA _ (lt_of_block h.hx)).trans h.lx, (HA _ (h.m.lta)).trans h.la, (HA _ (h.m.ltb)).trans h.lb, (HA _ (h.r.lta)).trans h.lc, (HA _ (h.r.ltb)).trans h.ld, h.c_r0.carry q HO (by decide) HA, h.c_r1.carry q HO (by decide) HA, h.c_d0.carry q HO (by decide) HA, h.c_d1.carry q HO (by decide) HA, h.c_u0.carry q HO (by decide) HA, h.c_u1.carry q HO (by decide) HA, h.c_e0.carry q HO (by decide) HA, h.c_e1.carry q HO (by decide) HA, fun n hn => (HA n (Nat.lt_of_lt_of_le hn h.fr.size)).trans (h.old n hn), h.fr.then q (fun n hn => by by_cases hl : n < w.heap.size; exact .inr (h.ge (by have := HO n hn hl; intro e; rw [e] at this; exact absurd this (by decide))); exact .inr (Nat.le_trans h.fr.size (by omega)))⟩

theorem W11.memR (h : W11 w0 w lab x a b c d r0 r1 d0 d1 u0 u1 e0 e1 s t R0 R1 D0 D1 U0 U1 E0 E1) (m : MemAt 148 w' c d s') (q : Mod [c, d] w w') : W11 w0 w' lab x a b c d r0 r1 d0 d1 u0 u1 e0 e1 s s' R0 R1 D0 D1 U0 U1 E0 E1 := by
  have HOn : Only [c, d] w lab [1] := by
    intro n hn _
    simp only [List.mem_cons, List.not_mem_nil, or_false] at hn
    rcases hn with rfl | rfl
    · rw [h.lc]; decide
    · rw [h.ld]; decide
  have HA : Agree w lab (lab) := agree_self
  have HO : Only [c, d] w lab [1] := HOn
  exact ⟨q.at h.hx (HO.nin (i := 2) (by decide) h.lx (lt_of_block h.hx)), h.m.mod q (HO.nin (i := 0) (by decide) h.la h.m.lta) (HO.nin (i := 0) (by decide) h.lb h.m.ltb), m, (HA _ (lt_of_block h.hx)).trans h.lx, (HA _ (h.m.lta)).trans h.la, (HA _ (h.m.ltb)).trans h.lb, (HA _ (h.r.lta)).trans h.lc, (HA _ (h.r.ltb)).trans h.ld, h.c_r0.carry q HO (by decide) HA, h.c_r1.carry q HO (by decide) HA, h.c_d0.carry q HO (by decide) HA, h.c_d1.carry q HO (by decide) HA, h.c_u0.carry q HO (by decide) HA, h.c_u1.carry q HO (by decide) HA, h.c_e0.carry q HO (by decide) HA, h.c_e1.carry q HO (by decide) HA, fun n hn => (HA n (Nat.lt_of_lt_of_le hn h.fr.size)).trans (h.old n hn), h.fr.then q (fun n hn => by by_cases hl : n < w.heap.size; exact .inr (h.ge (by have := HO n hn hl; intro e; rw [e] at this; exact absurd this (by decide))); exact .inr (Nat.le_trans h.fr.size (by omega)))⟩

theorem W11.rdP0 (h : W11 w0 w lab x a b c d (.pointer (some ⟨k, 0, none⟩)) r1 d0 d1 u0 u1 e0 e1 s t R0 R1 D0 D1 U0 U1 E0 E1) (lk : lab k = 3) (m : MemAt 142 w' a b s') (hk : w'.heap[k]? = some (.cells r'.arr 177 (0, 0))) (q : Mod [a, b, k] w w') : W11 w0 w' lab x a b c d (.pointer (some ⟨k, 0, none⟩)) r1 d0 d1 u0 u1 e0 e1 s' t (some r') R1 D0 D1 U0 U1 E0 E1 := by
  have HOn : Only [a, b, k] w lab [0, 3] := by
    intro n hn _
    simp only [List.mem_cons, List.not_mem_nil, or_false] at hn
    rcases hn with rfl | rfl | rfl
    · rw [h.la]; decide
    · rw [h.lb]; decide
    · rw [lk]; decide
  have HA : Agree w lab (lab) := agree_self
  have HO : Only [a, b, k] w lab [0, 3] := HOn
  exact ⟨q.at h.hx (HO.nin (i := 2) (by decide) h.lx (lt_of_block h.hx)), m, h.r.mod q (HO.nin (i := 1) (by decide) h.lc h.r.lta) (HO.nin (i := 1) (by decide) h.ld h.r.ltb), (HA _ (lt_of_block h.hx)).trans h.lx, (HA _ (h.m.lta)).trans h.la, (HA _ (h.m.ltb)).trans h.lb, (HA _ (h.r.lta)).trans h.lc, (HA _ (h.r.ltb)).trans h.ld, ⟨k, rfl, hk, lk⟩, h.c_r1.carry q HO (by decide) HA, h.c_d0.carry q HO (by decide) HA, h.c_d1.carry q HO (by decide) HA, h.c_u0.carry q HO (by decide) HA, h.c_u1.carry q HO (by decide) HA, h.c_e0.carry q HO (by decide) HA, h.c_e1.carry q HO (by decide) HA, fun n hn => (HA n (Nat.lt_of_lt_of_le hn h.fr.size)).trans (h.old n hn), h.fr.then q (fun n hn => by by_cases hl : n < w.heap.size; exact .inr (h.ge (by have := HO n hn hl; intro e; rw [e] at this; exact absurd this (by decide))); exact .inr (Nat.le_trans h.fr.size (by omega)))⟩

theorem W11.wrP0 (h : W11 w0 w lab x a b c d r0 r1 d0 d1 (.pointer (some ⟨k, 0, none⟩)) u1 e0 e1 s t R0 R1 D0 D1 U0 U1 E0 E1) (lk : lab k = 7) (m : MemAt 142 w' a b s') (hk : w'.heap[k]? = some (.cells q'.arr 180 (0, 0))) (q : Mod [a, b, k] w w') : W11 w0 w' lab x a b c d r0 r1 d0 d1 (.pointer (some ⟨k, 0, none⟩)) u1 e0 e1 s' t R0 R1 D0 D1 (some q') U1 E0 E1 := by
  have HOn : Only [a, b, k] w lab [0, 7] := by
    intro n hn _
    simp only [List.mem_cons, List.not_mem_nil, or_false] at hn
    rcases hn with rfl | rfl | rfl
    · rw [h.la]; decide
    · rw [h.lb]; decide
    · rw [lk]; decide
  have HA : Agree w lab (lab) := agree_self
  have HO : Only [a, b, k] w lab [0, 7] := HOn
  exact ⟨q.at h.hx (HO.nin (i := 2) (by decide) h.lx (lt_of_block h.hx)), m, h.r.mod q (HO.nin (i := 1) (by decide) h.lc h.r.lta) (HO.nin (i := 1) (by decide) h.ld h.r.ltb), (HA _ (lt_of_block h.hx)).trans h.lx, (HA _ (h.m.lta)).trans h.la, (HA _ (h.m.ltb)).trans h.lb, (HA _ (h.r.lta)).trans h.lc, (HA _ (h.r.ltb)).trans h.ld, h.c_r0.carry q HO (by decide) HA, h.c_r1.carry q HO (by decide) HA, h.c_d0.carry q HO (by decide) HA, h.c_d1.carry q HO (by decide) HA, ⟨k, rfl, hk, lk⟩, h.c_u1.carry q HO (by decide) HA, h.c_e0.carry q HO (by decide) HA, h.c_e1.carry q HO (by decide) HA, fun n hn => (HA n (Nat.lt_of_lt_of_le hn h.fr.size)).trans (h.old n hn), h.fr.then q (fun n hn => by by_cases hl : n < w.heap.size; exact .inr (h.ge (by have := HO n hn hl; intro e; rw [e] at this; exact absurd this (by decide))); exact .inr (Nat.le_trans h.fr.size (by omega)))⟩

theorem W11.wrR0 (h : W11 w0 w lab x a b c d r0 r1 d0 d1 u0 u1 (.pointer (some ⟨k, 0, none⟩)) e1 s t R0 R1 D0 D1 U0 U1 E0 E1) (lk : lab k = 9) (lg : lab g = 9) (m : MemAt 148 w' c d s') (hk : WrRef w' k g q') (q : Mod [c, d, k] w w') : W11 w0 w' lab x a b c d r0 r1 d0 d1 u0 u1 (.pointer (some ⟨k, 0, none⟩)) e1 s s' R0 R1 D0 D1 U0 U1 (some q') E1 := by
  have HOn : Only [c, d, k] w lab [1, 9] := by
    intro n hn _
    simp only [List.mem_cons, List.not_mem_nil, or_false] at hn
    rcases hn with rfl | rfl | rfl
    · rw [h.lc]; decide
    · rw [h.ld]; decide
    · rw [lk]; decide
  have HA : Agree w lab (lab) := agree_self
  have HO : Only [c, d, k] w lab [1, 9] := HOn
  exact ⟨q.at h.hx (HO.nin (i := 2) (by decide) h.lx (lt_of_block h.hx)), h.m.mod q (HO.nin (i := 0) (by decide) h.la h.m.lta) (HO.nin (i := 0) (by decide) h.lb h.m.ltb), m, (HA _ (lt_of_block h.hx)).trans h.lx, (HA _ (h.m.lta)).trans h.la, (HA _ (h.m.ltb)).trans h.lb, (HA _ (h.r.lta)).trans h.lc, (HA _ (h.r.ltb)).trans h.ld, h.c_r0.carry q HO (by decide) HA, h.c_r1.carry q HO (by decide) HA, h.c_d0.carry q HO (by decide) HA, h.c_d1.carry q HO (by decide) HA, h.c_u0.carry q HO (by decide) HA, h.c_u1.carry q HO (by decide) HA, ⟨k, g, rfl, hk, lk, lg⟩, h.c_e1.carry q HO (by decide) HA, fun n hn => (HA n (Nat.lt_of_lt_of_le hn h.fr.size)).trans (h.old n hn), h.fr.then q (fun n hn => by by_cases hl : n < w.heap.size; exact .inr (h.ge (by have := HO n hn hl; intro e; rw [e] at this; exact absurd this (by decide))); exact .inr (Nat.le_trans h.fr.size (by omega)))⟩

theorem W11.rdR0 (h : W11 w0 w lab x a b c d r0 r1 (.pointer (some ⟨k, 0, none⟩)) d1 u0 u1 e0 e1 s t R0 R1 D0 D1 U0 U1 E0 E1) (lk : lab k = 5) (lu : ∀ g, u.ownBlock = some g → lab g = 5) (hr0 : RdRef w k r u L) (hq : RefStepped w w' c d k u s' r L') : W11 w0 w' (relab lab w.heap.size 5) x a b c d r0 r1 (.pointer (some ⟨k, 0, none⟩)) d1 u0 u1 e0 e1 s s' R0 R1 (some (r, L')) D1 U0 U1 E0 E1 := by
  obtain ⟨u', hr, m, hon, q⟩ := hq
  have HOn : Only (c :: d :: k :: u.ownBlock.toList) w lab [1, 5] := by
    intro n hn _
    simp only [List.mem_cons, Option.mem_toList] at hn
    rcases hn with rfl | rfl | rfl | hn
    · rw [h.lc]; decide
    · rw [h.ld]; decide
    · rw [lk]; decide
    · rw [lu n hn]; decide
  have hkl := lt_of_block hr0.hd
  have hu' : ∀ g, u'.ownBlock = some g → relab lab w.heap.size 5 g = 5 := by
    intro g hg
    by_cases hz : w.heap.size ≤ g
    · exact relab_new hz
    · rcases hon with e | ⟨g', e, hg'⟩
      · exact (if_neg hz).trans (lu g (e ▸ hg))
      · rw [e] at hg; simp at hg; omega
  have HA : Agree w lab (relab lab w.heap.size 5) := agree_relab 5
  have HO : Only (c :: d :: k :: u.ownBlock.toList) w lab [1, 5] := HOn
  exact ⟨q.at h.hx (HO.nin (i := 2) (by decide) h.lx (lt_of_block h.hx)), h.m.mod q (HO.nin (i := 0) (by decide) h.la h.m.lta) (HO.nin (i := 0) (by decide) h.lb h.m.ltb), m, (HA _ (lt_of_block h.hx)).trans h.lx, (HA _ (h.m.lta)).trans h.la, (HA _ (h.m.ltb)).trans h.lb, (HA _ (h.r.lta)).trans h.lc, (HA _ (h.r.ltb)).trans h.ld, h.c_r0.carry q HO (by decide) HA, h.c_r1.carry q HO (by decide) HA, ⟨k, u', rfl, hr, (agree_relab 5 k hkl).trans lk, hu'⟩, h.c_d1.carry q HO (by decide) HA, h.c_u0.carry q HO (by decide) HA, h.c_u1.carry q HO (by decide) HA, h.c_e0.carry q HO (by decide) HA, h.c_e1.carry q HO (by decide) HA, fun n hn => (HA n (Nat.lt_of_lt_of_le hn h.fr.size)).trans (h.old n hn), h.fr.then q (fun n hn => by by_cases hl : n < w.heap.size; exact .inr (h.ge (by have := HO n hn hl; intro e; rw [e] at this; exact absurd this (by decide))); exact .inr (Nat.le_trans h.fr.size (by omega)))⟩

theorem W11.rdP1 (h : W11 w0 w lab x a b c d r0 (.pointer (some ⟨k, 0, none⟩)) d0 d1 u0 u1 e0 e1 s t R0 R1 D0 D1 U0 U1 E0 E1) (lk : lab k = 4) (m : MemAt 142 w' a b s') (hk : w'.heap[k]? = some (.cells r'.arr 177 (0, 0))) (q : Mod [a, b, k] w w') : W11 w0 w' lab x a b c d r0 (.pointer (some ⟨k, 0, none⟩)) d0 d1 u0 u1 e0 e1 s' t R0 (some r') D0 D1 U0 U1 E0 E1 := by
  have HOn : Only [a, b, k] w lab [0, 4] := by
    intro n hn _
    simp only [List.mem_cons, List.not_mem_nil, or_false] at hn
    rcases hn with rfl | rfl | rfl
    · rw [h.la]; decide
    · rw [h.lb]; decide
    · rw [lk]; decide
  have HA : Agree w lab (lab) := agree_self
  have HO : Only [a, b, k] w lab [0, 4] := HOn
  exact ⟨q.at h.hx (HO.nin (i := 2) (by decide) h.lx (lt_of_block h.hx)), m, h.r.mod q (HO.nin (i := 1) (by decide) h.lc h.r.lta) (HO.nin (i := 1) (by decide) h.ld h.r.ltb), (HA _ (lt_of_block h.hx)).trans h.lx, (HA _ (h.m.lta)).trans h.la, (HA _ (h.m.ltb)).trans h.lb, (HA _ (h.r.lta)).trans h.lc, (HA _ (h.r.ltb)).trans h.ld, h.c_r0.carry q HO (by decide) HA, ⟨k, rfl, hk, lk⟩, h.c_d0.carry q HO (by decide) HA, h.c_d1.carry q HO (by decide) HA, h.c_u0.carry q HO (by decide) HA, h.c_u1.carry q HO (by decide) HA, h.c_e0.carry q HO (by decide) HA, h.c_e1.carry q HO (by decide) HA, fun n hn => (HA n (Nat.lt_of_lt_of_le hn h.fr.size)).trans (h.old n hn), h.fr.then q (fun n hn => by by_cases hl : n < w.heap.size; exact .inr (h.ge (by have := HO n hn hl; intro e; rw [e] at this; exact absurd this (by decide))); exact .inr (Nat.le_trans h.fr.size (by omega)))⟩

theorem W11.wrP1 (h : W11 w0 w lab x a b c d r0 r1 d0 d1 u0 (.pointer (some ⟨k, 0, none⟩)) e0 e1 s t R0 R1 D0 D1 U0 U1 E0 E1) (lk : lab k = 8) (m : MemAt 142 w' a b s') (hk : w'.heap[k]? = some (.cells q'.arr 180 (0, 0))) (q : Mod [a, b, k] w w') : W11 w0 w' lab x a b c d r0 r1 d0 d1 u0 (.pointer (some ⟨k, 0, none⟩)) e0 e1 s' t R0 R1 D0 D1 U0 (some q') E0 E1 := by
  have HOn : Only [a, b, k] w lab [0, 8] := by
    intro n hn _
    simp only [List.mem_cons, List.not_mem_nil, or_false] at hn
    rcases hn with rfl | rfl | rfl
    · rw [h.la]; decide
    · rw [h.lb]; decide
    · rw [lk]; decide
  have HA : Agree w lab (lab) := agree_self
  have HO : Only [a, b, k] w lab [0, 8] := HOn
  exact ⟨q.at h.hx (HO.nin (i := 2) (by decide) h.lx (lt_of_block h.hx)), m, h.r.mod q (HO.nin (i := 1) (by decide) h.lc h.r.lta) (HO.nin (i := 1) (by decide) h.ld h.r.ltb), (HA _ (lt_of_block h.hx)).trans h.lx, (HA _ (h.m.lta)).trans h.la, (HA _ (h.m.ltb)).trans h.lb, (HA _ (h.r.lta)).trans h.lc, (HA _ (h.r.ltb)).trans h.ld, h.c_r0.carry q HO (by decide) HA, h.c_r1.carry q HO (by decide) HA, h.c_d0.carry q HO (by decide) HA, h.c_d1.carry q HO (by decide) HA, h.c_u0.carry q HO (by decide) HA, ⟨k, rfl, hk, lk⟩, h.c_e0.carry q HO (by decide) HA, h.c_e1.carry q HO (by decide) HA, fun n hn => (HA n (Nat.lt_of_lt_of_le hn h.fr.size)).trans (h.old n hn), h.fr.then q (fun n hn => by by_cases hl : n < w.heap.size; exact .inr (h.ge (by have := HO n hn hl; intro e; rw [e] at this; exact absurd this (by decide))); exact .inr (Nat.le_trans h.fr.size (by omega)))⟩

theorem W11.wrR1 (h : W11 w0 w lab x a b c d r0 r1 d0 d1 u0 u1 e0 (.pointer (some ⟨k, 0, none⟩)) s t R0 R1 D0 D1 U0 U1 E0 E1) (lk : lab k = 10) (lg : lab g = 10) (m : MemAt 148 w' c d s') (hk : WrRef w' k g q') (q : Mod [c, d, k] w w') : W11 w0 w' lab x a b c d r0 r1 d0 d1 u0 u1 e0 (.pointer (some ⟨k, 0, none⟩)) s s' R0 R1 D0 D1 U0 U1 E0 (some q') := by
  have HOn : Only [c, d, k] w lab [1, 10] := by
    intro n hn _
    simp only [List.mem_cons, List.not_mem_nil, or_false] at hn
    rcases hn with rfl | rfl | rfl
    · rw [h.lc]; decide
    · rw [h.ld]; decide
    · rw [lk]; decide
  have HA : Agree w lab (lab) := agree_self
  have HO : Only [c, d, k] w lab [1, 10] := HOn
  exact ⟨q.at h.hx (HO.nin (i := 2) (by decide) h.lx (lt_of_block h.hx)), h.m.mod q (HO.nin (i := 0) (by decide) h.la h.m.lta) (HO.nin (i := 0) (by decide) h.lb h.m.ltb), m, (HA _ (lt_of_block h.hx)).trans h.lx, (HA _ (h.m.lta)).trans h.la, (HA _ (h.m.ltb)).trans h.lb, (HA _ (h.r.lta)).trans h.lc, (HA _ (h.r.ltb)).trans h.ld, h.c_r0.carry q HO (by decide) HA, h.c_r1.carry q HO (by decide) HA, h.c_d0.carry q HO (by decide) HA, h.c_d1.carry q HO (by decide) HA, h.c_u0.carry q HO (by decide) HA, h.c_u1.carry q HO (by decide) HA, h.c_e0.carry q HO (by decide) HA, ⟨k, g, rfl, hk, lk, lg⟩, fun n hn => (HA n (Nat.lt_of_lt_of_le hn h.fr.size)).trans (h.old n hn), h.fr.then q (fun n hn => by by_cases hl : n < w.heap.size; exact .inr (h.ge (by have := HO n hn hl; intro e; rw [e] at this; exact absurd this (by decide))); exact .inr (Nat.le_trans h.fr.size (by omega)))⟩

theorem W11.rdR1 (h : W11 w0 w lab x a b c d r0 r1 d0 (.pointer (some ⟨k, 0, none⟩)) u0 u1 e0 e1 s t R0 R1 D0 D1 U0 U1 E0 E1) (lk : lab k = 6) (lu : ∀ g, u.ownBlock = some g → lab g = 6) (hr0 : RdRef w k r u L) (hq : RefStepped w w' c d k u s' r L') : W11 w0 w' (relab lab w.heap.size 6) x a b c d r0 r1 d0 (.pointer (some ⟨k, 0, none⟩)) u0 u1 e0 e1 s s' R0 R1 D0 (some (r, L')) U0 U1 E0 E1 := by
  obtain ⟨u', hr, m, hon, q⟩ := hq
  have HOn : Only (c :: d :: k :: u.ownBlock.toList) w lab [1, 6] := by
    intro n hn _
    simp only [List.mem_cons, Option.mem_toList] at hn
    rcases hn with rfl | rfl | rfl | hn
    · rw [h.lc]; decide
    · rw [h.ld]; decide
    · rw [lk]; decide
    · rw [lu n hn]; decide
  have hkl := lt_of_block hr0.hd
  have hu' : ∀ g, u'.ownBlock = some g → relab lab w.heap.size 6 g = 6 := by
    intro g hg
    by_cases hz : w.heap.size ≤ g
    · exact relab_new hz
    · rcases hon with e | ⟨g', e, hg'⟩
      · exact (if_neg hz).trans (lu g (e ▸ hg))
      · rw [e] at hg; simp at hg; omega
  have HA : Agree w lab (relab lab w.heap.size 6) := agree_relab 6
  have HO : Only (c :: d :: k :: u.ownBlock.toList) w lab [1, 6] := HOn
  exact ⟨q.at h.hx (HO.nin (i := 2) (by decide) h.lx (lt_of_block h.hx)), h.m.mod q (HO.nin (i := 0) (by decide) h.la h.m.lta) (HO.nin (i := 0) (by decide) h.lb h.m.ltb), m, (HA _ (lt_of_block h.hx)).trans h.lx, (HA _ (h.m.lta)).trans h.la, (HA _ (h.m.ltb)).trans h.lb, (HA _ (h.r.lta)).trans h.lc, (HA _ (h.r.ltb)).trans h.ld, h.c_r0.carry q HO (by decide) HA, h.c_r1.carry q HO (by decide) HA, h.c_d0.carry q HO (by decide) HA, ⟨k, u', rfl, hr, (agree_relab 6 k hkl).trans lk, hu'⟩, h.c_u0.carry q HO (by decide) HA, h.c_u1.carry q HO (by decide) HA, h.c_e0.carry q HO (by decide) HA, h.c_e1.carry q HO (by decide) HA, fun n hn => (HA n (Nat.lt_of_lt_of_le hn h.fr.size)).trans (h.old n hn), h.fr.then q (fun n hn => by by_cases hl : n < w.heap.size; exact .inr (h.ge (by have := HO n hn hl; intro e; rw [e] at this; exact absurd this (by decide))); exact .inr (Nat.le_trans h.fr.size (by omega)))⟩

theorem W11.put_r0 (h : W11 w0 w lab x a b c d r0 r1 d0 d1 u0 u1 e0 e1 s t R0 R1 D0 D1 U0 U1 E0 E1) {Z : Option RdS} (hv : PR w lab 3 v Z) : W11 w0 (w.setCell ⟨x, 2, none⟩ v) lab x a b c d v r1 d0 d1 u0 u1 e0 e1 s t Z R1 D0 D1 U0 U1 E0 E1 := by
  have q : Mod [x] w (w.setCell ⟨x, 2, none⟩ v) := (Mod.refl _ _).setCell _ _ (.inl (by simp))
  have HOn : Only [x] w lab [2] := by
    intro n hn _
    simp only [List.mem_cons, List.not_mem_nil, or_false] at hn
    rcases hn with rfl
    · rw [h.lx]; decide
  have HA : Agree w lab (lab) := agree_self
  have HO : Only [x] w lab [2] := HOn
  exact ⟨blk_setCell_same _ h.hx, h.m.mod q (HO.nin (i := 0) (by decide) h.la h.m.lta) (HO.nin (i := 0) (by decide) h.lb h.m.ltb), h.r.mod q (HO.nin (i := 1) (by decide) h.lc h.r.lta) (HO.nin (i := 1) (by decide) h.ld h.r.ltb), (HA _ (lt_of_block h.hx)).trans h.lx, (HA _ (h.m.lta)).trans h.la, (HA _ (h.m.ltb)).trans h.lb, (HA _ (h.r.lta)).trans h.lc, (HA _ (h.r.ltb)).trans h.ld, hv.carry q HO (by decide) HA, h.c_r1.carry q HO (by decide) HA, h.c_d0.carry q HO (by decide) HA, h.c_d1.carry q HO (by decide) HA, h.c_u0.carry q HO (by decide) HA, h.c_u1.carry q HO (by decide) HA, h.c_e0.carry q HO (by decide) HA, h.c_e1.carry q HO (by decide) HA, fun n hn => (HA n (Nat.lt_of_lt_of_le hn h.fr.size)).trans (h.old n hn), h.fr.then q (fun n hn => by by_cases hl : n < w.heap.size; exact .inr (h.ge (by have := HO n hn hl; intro e; rw [e] at this; exact absurd this (by decide))); exact .inr (Nat.le_trans h.fr.size (by omega)))⟩

theorem W11.put_r1 (h : W11 w0 w lab x a b c d r0 r1 d0 d1 u0 u1 e0 e1 s t R0 R1 D0 D1 U0 U1 E0 E1) {Z : Option RdS} (hv : PR w lab 4 v Z) : W11 w0 (w.setCell ⟨x, 3, none⟩ v) lab x a b c d r0 v d0 d1 u0 u1 e0 e1 s t R0 Z D0 D1 U0 U1 E0 E1 := by
  have q : Mod [x] w (w.setCell ⟨x, 3, none⟩ v) := (Mod.refl _ _).setCell _ _ (.inl (by simp))
  have HOn : Only [x] w lab [2] := by
    intro n hn _
    simp only [List.mem_cons, List.not_mem_nil, or_false] at hn
    rcases hn with rfl
    · rw [h.lx]; decide
  have HA : Agree w lab (lab) := agree_self
  have HO : Only [x] w lab [2] := HOn
  exact ⟨blk_setCell_same _ h.hx, h.m.mod q (HO.nin (i := 0) (by decide) h.la h.m.lta) (HO.nin (i := 0) (by decide) h.lb h.m.ltb), h.r.mod q (HO.nin (i := 1) (by decide) h.lc h.r.lta) (HO.nin (i := 1) (by decide) h.ld h.r.ltb), (HA _ (lt_of_block h.hx)).trans h.lx, (HA _ (h.m.lta)).trans h.la, (HA _ (h.m.ltb)).trans h.lb, (HA _ (h.r.lta)).trans h.lc, (HA _ (h.r.ltb)).trans h.ld, h.c_r0.carry q HO (by decide) HA, hv.carry q HO (by decide) HA, h.c_d0.carry q HO (by decide) HA, h.c_d1.carry q HO (by decide) HA, h.c_u0.carry q HO (by decide) HA, h.c_u1.carry q HO (by decide) HA, h.c_e0.carry q HO (by decide) HA, h.c_e1.carry q HO (by decide) HA, fun n hn => (HA n (Nat.lt_of_lt_of_le hn h.fr.size)).trans (h.old n hn), h.fr.then q (fun n hn => by by_cases hl : n < w.heap.size; exact .inr (h.ge (by have := HO n hn hl; intro e; rw [e] at this; exact absurd this (by decide))); exact .inr (Nat.le_trans h.fr.size (by omega)))⟩

theorem W11.put_d0 (h : W11 w0 w lab x a b c d r0 r1 d0 d1 u0 u1 e0 e1 s t R0 R1 D0 D1 U0 U1 E0 E1) {Z : Option (RdS × List Int)} (hv : RR w lab 5 v Z) : W11 w0 (w.setCell ⟨x, 4, none⟩ v) lab x a b c d r0 r1 v d1 u0 u1 e0 e1 s t R0 R1 Z D1 U0 U1 E0 E1 := by
  have q : Mod [x] w (w.setCell ⟨x, 4, none⟩ v) := (Mod.refl _ _).setCell _ _ (.inl (by simp))
  have HOn : Only [x] w lab [2] := by
    intro n hn _
    simp only [List.mem_cons, List.not_mem_nil, or_false] at hn
    rcases hn with rfl
    · rw [h.lx]; decide
  have HA : Agree w lab (lab) := agree_self
  have HO : Only [x] w lab [2] := HOn
  exact ⟨blk_setCell_same _ h.hx, h.m.mod q (HO.nin (i := 0) (by decide) h.la h.m.lta) (HO.nin (i := 0) (by decide) h.lb h.m.ltb), h.r.mod q (HO.nin (i := 1) (by decide) h.lc h.r.lta) (HO.nin (i := 1) (by decide) h.ld h.r.ltb), (HA _ (lt_of_block h.hx)).trans h.lx, (HA _ (h.m.lta)).trans h.la, (HA _ (h.m.ltb)).trans h.lb, (HA _ (h.r.lta)).trans h.lc, (HA _ (h.r.ltb)).trans h.ld, h.c_r0.carry q HO (by decide) HA, h.c_r1.carry q HO (by decide) HA, hv.carry q HO (by decide) HA, h.c_d1.carry q HO (by decide) HA, h.c_u0.carry q HO (by decide) HA, h.c_u1.carry q HO (by decide) HA, h.c_e0.carry q HO (by decide) HA, h.c_e1.carry q HO (by decide) HA, fun n hn => (HA n (Nat.lt_of_lt_of_le hn h.fr.size)).trans (h.old n hn), h.fr.then q (fun n hn => by by_cases hl : n < w.heap.size; exact .inr (h.ge (by have := HO n hn hl; intro e; rw [e] at this; exact absurd this (by decide))); exact .inr (Nat.le_trans h.fr.size (by omega)))⟩

theorem W11.put_d1 (h : W11 w0 w lab x a b c d r0 r1 d0 d1 u0 u1 e0 e1 s t R0 R1 D0 D1 U0 U1 E0 E1) {Z : Option (RdS × List Int)} (hv : RR w lab 6 v Z) : W11 w0 (w.setCell ⟨x, 5, none⟩ v) lab x a b c d r0 r1 d0 v u0 u1 e0 e1 s t R0 R1 D0 Z U0 U1 E0 E1 := by
  have q : Mod [x] w (w.setCell ⟨x, 5, none⟩ v) := (Mod.refl _ _).setCell _ _ (.inl (by simp))
  have HOn : Only [x] w lab [2] := by
    intro n hn _
    simp only [List.mem_cons, List.not_mem_nil, or_false] at hn
    rcases hn with rfl
    · rw [h.lx]; decide
  have HA : Agree w lab (lab) := agree_self
  have HO : Only [x] w lab [2] := HOn
  exact ⟨blk_setCell_same _ h.hx, h.m.mod q (HO.nin (i := 0) (by decide) h.la h.m.lta) (HO.nin (i := 0) (by decide) h.lb h.m.ltb), h.r.mod q (HO.nin (i := 1) (by decide) h.lc h.r.lta) (HO.nin (i := 1) (by decide) h.ld h.r.ltb), (HA _ (lt_of_block h.hx)).trans h.lx, (HA _ (h.m.lta)).trans h.la, (HA _ (h.m.ltb)).trans h.lb, (HA _ (h.r.lta)).trans h.lc, (HA _ (h.r.ltb)).trans h.ld, h.c_r0.carry q HO (by decide) HA, h.c_r1.carry q HO (by decide) HA, h.c_d0.carry q HO (by decide) HA, hv.carry q HO (by decide) HA, h.c_u0.carry q HO (by decide) HA, h.c_u1.carry q HO (by decide) HA, h.c_e0.carry q HO (by decide) HA, h.c_e1.carry q HO (by decide) HA, fun n hn => (HA n (Nat.lt_of_lt_of_le hn h.fr.size)).trans (h.old n hn), h.fr.then q (fun n hn => by by_cases hl : n < w.heap.size; exact .inr (h.ge (by have := HO n hn hl; intro e; rw [e] at this; exact absurd this (by decide))); exact .inr (Nat.le_trans h.fr.size (by omega)))⟩

theorem W11.put_u0 (h : W11 w0 w lab x a b c d r0 r1 d0 d1 u0 u1 e0 e1 s t R0 R1 D0 D1 U0 U1 E0 E1) {Z : Option WrS} (hv : PW w lab 7 v Z) : W11 w0 (w.setCell ⟨x, 6, none⟩ v) lab x a b c d r0 r1 d0 d1 v u1 e0 e1 s t R0 R1 D0 D1 Z U1 E0 E1 := by
  have q : Mod [x] w (w.setCell ⟨x, 6, none⟩ v) := (Mod.refl _ _).setCell _ _ (.inl (by simp))
  have HOn : Only [x] w lab [2] := by
    intro n hn _
    simp only [List.mem_cons, List.not_mem_nil, or_false] at hn
    rcases hn with rfl
    · rw [h.lx]; decide
  have HA : Agree w lab (lab) := agree_self
  have HO : Only [x] w lab [2] := HOn
  exact ⟨blk_setCell_same _ h.hx, h.m.mod q (HO.nin (i := 0) (by decide) h.la h.m.lta) (HO.nin (i := 0) (by decide) h.lb h.m.ltb), h.r.mod q (HO.nin (i := 1) (by decide) h.lc h.r.lta) (HO.nin (i := 1) (by decide) h.ld h.r.ltb), (HA _ (lt_of_block h.hx)).trans h.lx, (HA _ (h.m.lta)).trans h.la, (HA _ (h.m.ltb)).trans h.lb, (HA _ (h.r.lta)).trans h.lc, (HA _ (h.r.ltb)).trans h.ld, h.c_r0.carry q HO (by decide) HA, h.c_r1.carry q HO (by decide) HA, h.c_d0.carry q HO (by decide) HA, h.c_d1.carry q HO (by decide) HA, hv.carry q HO (by decide) HA, h.c_u1.carry q HO (by decide) HA, h.c_e0.carry q HO (by decide) HA, h.c_e1.carry q HO (by decide) HA, fun n hn => (HA n (Nat.lt_of_lt_of_le hn h.fr.size)).trans (h.old n hn), h.fr.then q (fun n hn => by by_cases hl : n < w.heap.size; exact .inr (h.ge (by have := HO n hn hl; intro e; rw [e] at this; exact absurd this (by decide))); exact .inr (Nat.le_trans h.fr.size (by omega)))⟩

theorem W11.put_u1 (h : W11 w0 w lab x a b c d r0 r1 d0 d1 u0 u1 e0 e1 s t R0 R1 D0 D1 U0 U1 E0 E1) {Z : Option WrS} (hv : PW w lab 8 v Z) : W11 w0 (w.setCell ⟨x, 7, none⟩ v) lab x a b c d r0 r1 d0 d1 u0 v e0 e1 s t R0 R1 D0 D1 U0 Z E0 E1 := by
  have q : Mod [x] w (w.setCell ⟨x, 7, none⟩ v) := (Mod.refl _ _).setCell _ _ (.inl (by simp))
  have HOn : Only [x] w lab [2] := by
    intro n hn _
    simp only [List.mem_cons, List.not_mem_nil, or_false] at hn
    rcases hn with rfl
    · rw [h.lx]; decide
  have HA : Agree w lab (lab) := agree_self
  have HO : Only [x] w lab [2] := HOn
  exact ⟨blk_setCell_same _ h.hx, h.m.mod q (HO.nin (i := 0) (by decide) h.la h.m.lta) (HO.nin (i := 0) (by decide) h.lb h.m.ltb), h.r.mod q (HO.nin (i := 1) (by decide) h.lc h.r.lta) (HO.nin (i := 1) (by decide) h.ld h.r.ltb), (HA _ (lt_of_block h.hx)).trans h.lx, (HA _ (h.m.lta)).trans h.la, (HA _ (h.m.ltb)).trans h.lb, (HA _ (h.r.lta)).trans h.lc, (HA _ (h.r.ltb)).trans h.ld, h.c_r0.carry q HO (by decide) HA, h.c_r1.carry q HO (by decide) HA, h.c_d0.carry q HO (by decide) HA, h.c_d1.carry q HO (by decide) HA, h.c_u0.carry q HO (by decide) HA, hv.carry q HO (by decide) HA, h.c_e0.carry q HO (by decide) HA, h.c_e1.carry q HO (by decide) HA, fun n hn => (HA n (Nat.lt_of_lt_of_le hn h.fr.size)).trans (h.old n hn), h.fr.then q (fun n hn => by by_cases hl : n < w.heap.size; exact .inr (h.ge (by have := HO n hn hl; intro e; rw [e] at this; exact absurd this (by decide))); exact .inr (Nat.le_trans h.fr.size (by omega)))⟩

theorem W11.put_e0 (h : W11 w0 w lab x a b c d r0 r1 d0 d1 u0 u1 e0 e1 s t R0 R1 D0 D1 U0 U1 E0 E1) {Z : Option WrS} (hv : RW w lab 9 v Z) : W11 w0 (w.setCell ⟨x, 8, none⟩ v) lab x a b c d r0 r1 d0 d1 u0 u1 v e1 s t R0 R1 D0 D1 U0 U1 Z E1 := by
  have q : Mod [x] w (w.setCell ⟨x, 8, none⟩ v) := (Mod.refl _ _).setCell _ _ (.inl (by simp))
  have HOn : Only [x] w lab [2] := by
    intro n hn _
    simp only [List.mem_cons, List.not_mem_nil, or_false] at hn
    rcases hn with rfl
    · rw [h.lx]; decide
  have HA : Agree w lab (lab) := agree_self
  have HO : Only [x] w lab [2] := HOn
  exact ⟨blk_setCell_same _ h.hx, h.m.mod q (HO.nin (i := 0) (by decide) h.la h.m.lta) (HO.nin (i := 0) (by decide) h.lb h.m.ltb), h.r.mod q (HO.nin (i := 1) (by decide) h.lc h.r.lta) (HO.nin (i := 1) (by decide) h.ld h.r.ltb), (HA _ (lt_of_block h.hx)).trans h.lx, (HA _ (h.m.lta)).trans h.la, (HA _ (h.m.ltb)).trans h.lb, (HA _ (h.r.lta)).trans h.lc, (HA _ (h.r.ltb)).trans h.ld, h.c_r0.carry q HO (by decide) HA, h.c_r1.carry q HO (by decide) HA, h.c_d0.carry q HO (by decide) HA, h.c_d1.carry q HO (by decide) HA, h.c_u0.carry q HO (by decide) HA, h.c_u1.carry q HO (by decide) HA, hv.carry q HO (by decide) HA, h.c_e1.carry q HO (by decide) HA, fun n hn => (HA n (Nat.lt_of_lt_of_le hn h.fr.size)).trans (h.old n hn), h.fr.then q (fun n hn => by by_cases hl : n < w.heap.size; exact .inr (h.ge (by have := HO n hn hl; intro e; rw [e] at this; exact absurd this (by decide))); exact .inr (Nat.le_trans h.fr.size (by omega)))⟩

theorem W11.put_e1 (h : W11 w0 w lab x a b c d r0 r1 d0 d1 u0 u1 e0 e1 s t R0 R1 D0 D1 U0 U1 E0 E1) {Z : Option WrS} (hv : RW w lab 10 v Z) : W11 w0 (w.setCell ⟨x, 9, none⟩ v) lab x a b c d r0 r1 d0 d1 u0 u1 e0 v s t R0 R1 D0 D1 U0 U1 E0 Z := by
  have q : Mod [x] w (w.setCell ⟨x, 9, none⟩ v) := (Mod.refl _ _).setCell _ _ (.inl (by simp))
  have HOn : Only [x] w lab [2] := by
    intro n hn _
    simp only [List.mem_cons, List.not_mem_nil, or_false] at hn
    rcases hn with rfl
    · rw [h.lx]; decide
  have HA : Agree w lab (lab) := agree_self
  have HO : Only [x] w lab [2] := HOn
  exact ⟨blk_setCell_same _ h.hx, h.m.mod q (HO.nin (i := 0) (by decide) h.la h.m.lta) (HO.nin (i := 0) (by decide) h.lb h.m.ltb), h.r.mod q (HO.nin (i := 1) (by decide) h.lc h.r.lta) (HO.nin (i := 1) (by decide) h.ld h.r.ltb), (HA _ (lt_of_block h.hx)).trans h.lx, (HA _ (h.m.lta)).trans h.la, (HA _ (h.m.ltb)).trans h.lb, (HA _ (h.r.lta)).trans h.lc, (HA _ (h.r.ltb)).trans h.ld, h.c_r0.carry q HO (by decide) HA, h.c_r1.carry q HO (by decide) HA, h.c_d0.carry q HO (by decide) HA, h.c_d1.carry q HO (by decide) HA, h.c_u0.carry q HO (by decide) HA, h.c_u1.carry q HO (by decide) HA, h.c_e0.carry q HO (by decide) HA, hv.carry q HO (by decide) HA, fun n hn => (HA n (Nat.lt_of_lt_of_le hn h.fr.size)).trans (h.old n hn), h.fr.then q (fun n hn => by by_cases hl : n < w.heap.size; exact .inr (h.ge (by have := HO n hn hl; intro e; rw [e] at this; exact absurd this (by decide))); exact .inr (Nat.le_trans h.fr.size (by omega)))⟩

end Go.Proofs.Ytobmgnoceacoaaa

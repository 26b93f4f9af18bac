/- CensusGuards, CensusFree: readers and an updater as pure things, and what holds of them. -/
import Derived.Test.YtobmgnoceacoaaaCostP
namespace Go.Proofs.Ytobmgnoceacoaaa
open Go.RowKit

def upd {α : Type} (f : Nat → α) (t : Nat) (v : α) : Nat → α := fun u => if u = t then v else f u
theorem upd_same {α : Type} (f : Nat → α) (t : Nat) (v : α) : upd f t v t = v := if_pos rfl
theorem upd_other {α : Type} (f : Nat → α) {t u : Nat} (v : α) (h : u ≠ t) : upd f t v u = f u := if_neg h

/-- Readers and an updater over a memory. -/
structure GS where
  mem : MemS
  pt : Nat → Int
  cb : Nat → Option Nat
  cs : Nat → ComS
  part : Int
  s : Int
  sb : Option Nat
  sc : ScanS
def GS.V (G : GS) : Int := G.mem.ws.getD 0 0
def GS.wd (G : GS) (t : Nat) : Int := G.mem.ws.getD (1 + t) 0

/-- A reader. -/
structure RInv (V : Int) (t : Nat) (p : Int) (b : Option Nat) (c : ComS) (x : Int) : Prop where
  lo : 0 ≤ p
  hi : p ≤ 3
  cb : 0 < p → ∃ k, b = some k
  n : 0 < p → c.n = p
  p2 : 0 < p → c.p2 = 0
  p3 : 0 < p → c.p3 = 1
  th : 0 < p → c.th = t
  inv : 0 < p → c.Inv
  c0 : 0 < p → 0 ≤ c.cl
  c1 : 0 < p → c.cl ≤ V
  w0 : p < 2 → x = 0
  w1 : 2 ≤ p → x = c.cl + 1
  st : p = 3 → c.cl ≤ c.st ∧ c.st ≤ V

structure GInv (n : Nat) (G : GS) : Prop where
  len : G.mem.ws.length = 9
  v0 : 0 ≤ G.V
  v1 : G.V ≤ n
  rd : ∀ t, t < 7 → RInv G.V t (G.pt t) (G.cb t) (G.cs t) (G.wd t)
  part : G.part = 0 ∨ G.part = 1 ∨ G.part = 2
  s : 0 < G.part → G.s = G.V
  sb : G.part = 1 → ∃ k, G.sb = some k
  sc : G.part = 1 → G.sc.T = 7 ∧ G.sc.p3 = 1 ∧ G.sc.nd = G.V ∧ 0 ≤ G.sc.nx ∧ G.sc.nx < 7
  f1 : G.part = 1 → ∀ t : Nat, t < 7 → (t : Int) < G.sc.nx → G.pt t = 3 → (G.cs t).st = G.V
  f2 : G.part = 2 → ∀ t : Nat, t < 7 → G.pt t = 3 → (G.cs t).st = G.V

theorem GInv.ws {n : Nat} {G : GS} (h : GInv n G) {m : MemS} (hw : m.ws = G.mem.ws) : GInv n { G with mem := m } := by
  have hV : GS.V { G with mem := m } = G.V := by unfold GS.V; simp only [hw]
  have hW : ∀ t, GS.wd { G with mem := m } t = G.wd t := fun t => by unfold GS.wd; simp only [hw]
  refine ⟨by simp only [hw]; exact h.len, by rw [hV]; exact h.v0, by rw [hV]; exact h.v1, fun t ht => ?_, h.part, ?_, h.sb, ?_, ?_, ?_⟩
  · rw [hV, hW]; exact h.rd t ht
  · rw [hV]; exact h.s
  · rw [hV]; exact h.sc
  · rw [hV]; exact h.f1
  · rw [hV]; exact h.f2
theorem GInv.mono {n m : Nat} {G : GS} (h : GInv n G) (hm : n ≤ m) : GInv m G :=
  ⟨h.len, h.v0, by have := h.v1; omega, h.rd, h.part, h.s, h.sb, h.sc, h.f1, h.f2⟩

theorem set_wd {G : GS} (hl : G.mem.ws.length = 9) {t : Nat} (ht : t < 7) (x : Int) (u : Nat) (hu : u < 7) : (G.mem.ws.set (1 + t) x).getD (1 + u) 0 = if u = t then x else G.wd u := by
  unfold GS.wd
  simp only [List.getD_eq_getElem?_getD]
  by_cases h : u = t
  · subst h
    rw [if_pos rfl, List.getElem?_set_self (by omega)]; rfl
  · rw [if_neg h, List.getElem?_set_ne (by omega)]
theorem set_V {G : GS} {t : Nat} (x : Int) : (G.mem.ws.set (1 + t) x).getD 0 0 = G.V := by
  unfold GS.V
  simp only [List.getD_eq_getElem?_getD]
  rw [List.getElem?_set_ne (by omega)]
theorem set_wd0 {G : GS} (x : Int) (u : Nat) : (G.mem.ws.set 0 x).getD (1 + u) 0 = G.wd u := by
  unfold GS.wd
  simp only [List.getD_eq_getElem?_getD]
  rw [List.getElem?_set_ne (by omega)]
theorem set_V0 {G : GS} (hl : G.mem.ws.length = 9) (x : Int) : (G.mem.ws.set 0 x).getD 0 0 = x := by
  simp only [List.getD_eq_getElem?_getD]
  rw [List.getElem?_set_self (by omega)]; rfl

/-- A reader t turns: its part, its coming, its word; whoever is in has the stamp. -/
theorem GInv.read {n : Nat} {G G' : GS} (h : GInv n G) {t : Nat} (ht : t < 7) (hV : G'.V = G.V) (hlen : G'.mem.ws.length = 9) (hw : ∀ u, u < 7 → u ≠ t → G'.wd u = G.wd u)
    (hpt : ∀ u, u ≠ t → G'.pt u = G.pt u) (hcb : ∀ u, u ≠ t → G'.cb u = G.cb u) (hcs : ∀ u, u ≠ t → G'.cs u = G.cs u) (hp : G'.part = G.part) (hs : G'.s = G.s) (hsb : G'.sb = G.sb) (hsc : G'.sc = G.sc)
    (hr : RInv G.V t (G'.pt t) (G'.cb t) (G'.cs t) (G'.wd t)) (hf : G'.pt t = 3 → (G'.cs t).st = G.V) : GInv n G' := by
  refine ⟨hlen, by rw [hV]; exact h.v0, by rw [hV]; exact h.v1, fun u hu => ?_, by rw [hp]; exact h.part, by rw [hp, hs, hV]; exact h.s, by rw [hp, hsb]; exact h.sb, by rw [hp, hsc, hV]; exact h.sc, ?_, ?_⟩
  · rw [hV]
    by_cases e : u = t
    · subst e; exact hr
    · rw [hw u hu e, hpt u e, hcb u e, hcs u e]; exact h.rd u hu
  · rw [hp, hsc, hV]
    intro h1 u hu hx h3
    by_cases e : u = t
    · subst e; exact hf h3
    · rw [hcs u e]; rw [hpt u e] at h3; exact h.f1 h1 u hu hx h3
  · rw [hp, hV]
    intro h1 u hu h3
    by_cases e : u = t
    · subst e; exact hf h3
    · rw [hcs u e]; rw [hpt u e] at h3; exact h.f2 h1 u hu h3

/-- The updater loads the stamp. -/
theorem GInv.load {n : Nat} {G : GS} (h : GInv n G) (k : Nat) {m : MemS} (hm : m.ws = G.mem.ws) : GInv n { G with mem := m, part := 1, s := G.V, sb := some k, sc := ScanS.mk 0 0 0 1 0 0 7 G.V 0 0 } := by
  have h' := h.ws hm
  have hV : GS.V { G with mem := m, part := 1, s := G.V, sb := some k, sc := ScanS.mk 0 0 0 1 0 0 7 G.V 0 0 } = G.V := by unfold GS.V; simp only [hm]
  refine ⟨h'.len, h'.v0, h'.v1, h'.rd, .inr (.inl rfl), fun _ => hV.symm, fun _ => ⟨k, rfl⟩, fun _ => ⟨rfl, rfl, hV.symm, Int.le_refl _, (by decide : (0 : Int) < 7)⟩, fun _ u _ hx => ?_, fun h => by simp at h⟩
  simp only at hx; omega

/-- The updater publishes. -/
theorem GInv.publish {n : Nat} {G : GS} (h : GInv n G) {m : MemS} (hm : m.ws = G.mem.ws.set 0 (G.V + 1)) : GInv (n + 1) { G with mem := m, part := 0 } := by
  have hV : GS.V { G with mem := m, part := 0 } = G.V + 1 := by unfold GS.V; simp only [hm]; exact set_V0 h.len _
  have hW : ∀ u, GS.wd { G with mem := m, part := 0 } u = G.wd u := fun u => by unfold GS.wd; simp only [hm]; exact set_wd0 _ u
  have h0 := h.v0
  have h1 := h.v1
  refine ⟨by simp only [hm, List.length_set]; exact h.len, by rw [hV]; omega, by rw [hV]; omega, fun t ht => ?_, .inl rfl, fun h => by simp at h, fun h => by simp at h, fun h => by simp at h, fun h => by simp at h, fun h => by simp at h⟩
  rw [hV, hW]
  have r := h.rd t ht
  exact ⟨r.lo, r.hi, r.cb, r.n, r.p2, r.p3, r.th, r.inv, r.c0, fun hp => by have := r.c1 hp; show (G.cs t).cl ≤ G.V + 1; omega, r.w0, r.w1, fun hp => by have := r.st hp; show (G.cs t).cl ≤ (G.cs t).st ∧ (G.cs t).st ≤ G.V + 1; omega⟩

/-- The updater polls. -/
theorem GInv.poll {n : Nat} {G : GS} (h : GInv n G) {m : MemS} (hm : m.ws = G.mem.ws) (x : Int) : GInv n { G with mem := m, sc := { G.sc with po := x } } := by
  have h' := h.ws hm
  exact ⟨h'.len, h'.v0, h'.v1, h'.rd, h'.part, h'.s, h'.sb, h'.sc, h'.f1, h'.f2⟩

/-- The updater is done with a thread. -/
theorem GInv.fine {n : Nat} {G : GS} (h : GInv n G) (hp : G.part = 1) (t : Nat) (ht : t < 7) (hx : (t : Int) ≤ G.sc.nx) (hw : (t : Int) = G.sc.nx → G.wd t = 0 ∨ G.V < G.wd t) (h3 : G.pt t = 3) : (G.cs t).st = G.V := by
  by_cases e : (t : Int) = G.sc.nx
  · have r := h.rd t ht
    have w := r.w1 (by omega)
    have c := r.c0 (by omega)
    have s := r.st h3
    rcases hw e with hw | hw <;> omega
  · exact h.f1 hp t ht (by omega) h3
theorem GInv.pass {n : Nat} {G : GS} (h : GInv n G) (hp : G.part = 1) {m : MemS} (hm : m.ws = G.mem.ws) (hx : G.sc.nx + 1 < 7) (hw : ∀ t : Nat, (t : Int) = G.sc.nx → G.wd t = 0 ∨ G.V < G.wd t) :
    GInv n { G with mem := m, sc := { G.sc with nx := G.sc.nx + 1 } } := by
  have h' := h.ws hm
  have q := h'.sc hp
  have hV : GS.V { G with mem := m } = G.V := by unfold GS.V; simp only [hm]
  refine ⟨h'.len, h'.v0, h'.v1, h'.rd, h'.part, h'.s, h'.sb, fun _ => ⟨q.1, q.2.1, q.2.2.1, ?_, hx⟩, fun _ t ht hlt h3 => ?_, fun h2 => ?_⟩
  · have := q.2.2.2.1; show 0 ≤ G.sc.nx + 1; simp only at this; omega
  · have hlt' : (t : Int) < G.sc.nx + 1 := hlt
    exact (h.fine hp t ht (by omega) (hw t) h3).trans hV.symm
  · rw [show ({ G with mem := m, sc := { G.sc with nx := G.sc.nx + 1 } } : GS).part = G.part from rfl, hp] at h2; omega
theorem GInv.ends {n : Nat} {G : GS} (h : GInv n G) (hp : G.part = 1) {m : MemS} (hm : m.ws = G.mem.ws) (hx : G.sc.nx + 1 = 7) (hw : ∀ t : Nat, (t : Int) = G.sc.nx → G.wd t = 0 ∨ G.V < G.wd t) :
    GInv n { G with mem := m, sc := { G.sc with nx := G.sc.nx + 1 }, part := 2 } := by
  have h' := h.ws hm
  have hV : GS.V { G with mem := m } = G.V := by unfold GS.V; simp only [hm]
  refine ⟨h'.len, h'.v0, h'.v1, h'.rd, .inr (.inr rfl), fun _ => h'.s (by rw [show ({ G with mem := m } : GS).part = G.part from rfl, hp]; decide), fun h => by simp at h, fun h => by simp at h, fun h => by simp at h, fun _ t ht h3 => ?_⟩
  exact (h.fine hp t ht (by omega) (hw t) h3).trans hV.symm
end Go.Proofs.Ytobmgnoceacoaaa

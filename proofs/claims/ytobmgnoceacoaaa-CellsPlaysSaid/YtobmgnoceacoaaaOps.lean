/- Slices of structs of whole numbers that came in: scripts. -/
import Derived.Test.YtobmgnoceacoaaaBase
import Derived.Deep.Draws
namespace Go.Proofs.Ytobmgnoceacoaaa
open Go.RowKit

/-- The cells of an element: whole numbers of these kinds. -/
def opCells : List IntKind → List Int → List Value
  | k :: ks, x :: xs => .int k x :: opCells ks xs
  | _, _ => []

/-- A slice of structs of whole numbers of the kinds ks that came in; 'ops': the numbers, element by element. -/
def Script (w : World) (ks : List IntKind) (a : Option Addr) (len : Nat) (ops : List (List Int)) : Prop :=
  ops.length = len ∧ len ≤ 140737488351232 ∧ (∀ l ∈ ops, l.length = ks.length) ∧
  (len = 0 ∨ ∃ b off, a = some ⟨b, off, none⟩ ∧ b < w.heap.size ∧ ∀ i, i < len → ∀ j v, (opCells ks (ops.getD i []))[j]? = some v → w.cell? ⟨b, off + i * ks.length + j, none⟩ = some v)

theorem Script.cell {w w' : World} {ks : List IntKind} {len i : Nat} {b off : Nat} {ops : List (List Int)}
    (h : ∀ i, i < len → ∀ j v, (opCells ks (ops.getD i []))[j]? = some v → w.cell? ⟨b, off + i * ks.length + j, none⟩ = some v)
    (hb : b < w.heap.size) (hm : Mod [] w w') (hi : i < len) (j : Nat) (v : Value) (hv : (opCells ks (ops.getD i []))[j]? = some v) : w'.cell? ⟨b, off + i * ks.length + j, none⟩ = some v :=
  (World.cell?_of_block (w := w) (a := ⟨b, off + i * ks.length + j, none⟩) (hm.block b hb (by simp))).trans (h i hi j v hv)

theorem list3 {l : List Int} (h : l.length = 3) : ∃ x y z, l = [x, y, z] := by
  match l, h with
  | [x, y, z], _ => exact ⟨x, y, z, rfl⟩
theorem list4 {l : List Int} (h : l.length = 4) : ∃ x y z u, l = [x, y, z, u] := by
  match l, h with
  | [x, y, z, u], _ => exact ⟨x, y, z, u, rfl⟩
theorem list5 {l : List Int} (h : l.length = 5) : ∃ x y z u v, l = [x, y, z, u, v] := by
  match l, h with
  | [x, y, z, u, v], _ => exact ⟨x, y, z, u, v, rfl⟩

/-- The k-th element of a script of three fields. -/
theorem Script.get3 {w : World} {k0 k1 k2 : IntKind} {a : Option Addr} {len : Nat} {ops : List (List Int)} (h : Script w [k0, k1, k2] a len ops) {k : Nat} (hk : k < len) :
    ∃ b off x y z, a = some ⟨b, off, none⟩ ∧ ops.getD k [] = [x, y, z] ∧ ∀ w', Mod [] w w' →
      w'.cell? ⟨b, off + k * 3, none⟩ = some (.int k0 x) ∧ w'.cell? ⟨b, off + k * 3 + 1, none⟩ = some (.int k1 y) ∧ w'.cell? ⟨b, off + k * 3 + 2, none⟩ = some (.int k2 z) := by
  obtain ⟨h1, _, h3, h4⟩ := h
  obtain h0 | ⟨b, off, rfl, hb, hc⟩ := h4
  · omega
  have hm : ops.getD k [] ∈ ops := by
    rw [List.getD_eq_getElem?_getD, List.getElem?_eq_getElem (by omega)]; exact List.getElem_mem _
  obtain ⟨x, y, z, hx⟩ := list3 (h3 _ hm)
  refine ⟨b, off, x, y, z, rfl, hx, fun w' hm' => ⟨?_, ?_, ?_⟩⟩
  · exact Script.cell hc hb hm' hk 0 _ (by rw [hx]; rfl)
  · exact Script.cell hc hb hm' hk 1 _ (by rw [hx]; rfl)
  · exact Script.cell hc hb hm' hk 2 _ (by rw [hx]; rfl)

theorem Script.get4 {w : World} {k0 k1 k2 k3 : IntKind} {a : Option Addr} {len : Nat} {ops : List (List Int)} (h : Script w [k0, k1, k2, k3] a len ops) {k : Nat} (hk : k < len) :
    ∃ b off x y z u, a = some ⟨b, off, none⟩ ∧ ops.getD k [] = [x, y, z, u] ∧ ∀ w', Mod [] w w' →
      w'.cell? ⟨b, off + k * 4, none⟩ = some (.int k0 x) ∧ w'.cell? ⟨b, off + k * 4 + 1, none⟩ = some (.int k1 y) ∧ w'.cell? ⟨b, off + k * 4 + 2, none⟩ = some (.int k2 z) ∧ w'.cell? ⟨b, off + k * 4 + 3, none⟩ = some (.int k3 u) := by
  obtain ⟨h1, _, h3, h4⟩ := h
  obtain h0 | ⟨b, off, rfl, hb, hc⟩ := h4
  · omega
  have hm : ops.getD k [] ∈ ops := by
    rw [List.getD_eq_getElem?_getD, List.getElem?_eq_getElem (by omega)]; exact List.getElem_mem _
  obtain ⟨x, y, z, u, hx⟩ := list4 (h3 _ hm)
  refine ⟨b, off, x, y, z, u, rfl, hx, fun w' hm' => ⟨?_, ?_, ?_, ?_⟩⟩
  · exact Script.cell hc hb hm' hk 0 _ (by rw [hx]; rfl)
  · exact Script.cell hc hb hm' hk 1 _ (by rw [hx]; rfl)
  · exact Script.cell hc hb hm' hk 2 _ (by rw [hx]; rfl)
  · exact Script.cell hc hb hm' hk 3 _ (by rw [hx]; rfl)

theorem Script.get5 {w : World} {k0 k1 k2 k3 k4 : IntKind} {a : Option Addr} {len : Nat} {ops : List (List Int)} (h : Script w [k0, k1, k2, k3, k4] a len ops) {k : Nat} (hk : k < len) :
    ∃ b off x y z u v, a = some ⟨b, off, none⟩ ∧ ops.getD k [] = [x, y, z, u, v] ∧ ∀ w', Mod [] w w' →
      w'.cell? ⟨b, off + k * 5, none⟩ = some (.int k0 x) ∧ w'.cell? ⟨b, off + k * 5 + 1, none⟩ = some (.int k1 y) ∧ w'.cell? ⟨b, off + k * 5 + 2, none⟩ = some (.int k2 z) ∧ w'.cell? ⟨b, off + k * 5 + 3, none⟩ = some (.int k3 u) ∧ w'.cell? ⟨b, off + k * 5 + 4, none⟩ = some (.int k4 v) := by
  obtain ⟨h1, _, h3, h4⟩ := h
  obtain h0 | ⟨b, off, rfl, hb, hc⟩ := h4
  · omega
  have hm : ops.getD k [] ∈ ops := by
    rw [List.getD_eq_getElem?_getD, List.getElem?_eq_getElem (by omega)]; exact List.getElem_mem _
  obtain ⟨x, y, z, u, v, hx⟩ := list5 (h3 _ hm)
  refine ⟨b, off, x, y, z, u, v, rfl, hx, fun w' hm' => ⟨?_, ?_, ?_, ?_, ?_⟩⟩
  · exact Script.cell hc hb hm' hk 0 _ (by rw [hx]; rfl)
  · exact Script.cell hc hb hm' hk 1 _ (by rw [hx]; rfl)
  · exact Script.cell hc hb hm' hk 2 _ (by rw [hx]; rfl)
  · exact Script.cell hc hb hm' hk 3 _ (by rw [hx]; rfl)
  · exact Script.cell hc hb hm' hk 4 _ (by rw [hx]; rfl)

/-- A loop's variable of m cells of type t: not made yet, or a block of the call's own, apart from the memory's blocks. -/
def LoopVar (w : World) (t : TypeId) (m : Nat) (S : List Nat) (B : Nat) (o : Value) : Prop :=
  o = undef ∨ ∃ q c, o = .pointer (some ⟨q, 0, none⟩) ∧ c.size = m ∧ w.heap[q]? = some (.cells c t (0, 0)) ∧ q ∉ S ∧ B ≤ q
theorem LoopVar.mod {w w' : World} {t : TypeId} {m : Nat} {S R : List Nat} {B : Nat} {o : Value} (h : LoopVar w t m S B o) (hm : Mod R w w') (hr : ∀ q, q ∉ S → q ∉ R) : LoopVar w' t m S B o := by
  rcases h with h | ⟨q, c, h1, h2, h3, h4, h5⟩
  · exact .inl h
  · exact .inr ⟨q, c, h1, h2, hm.at h3 (hr q h4), h4, h5⟩
theorem MemAt.drewN {t : TypeId} {w : World} {a b : Nat} {s : MemS} (h : MemAt t w a b s) (n : Nat) : MemAt t (w.drewN n) a b s := ⟨h.hd, h.ws, h.ne, h.len⟩
theorem Mod.drewN {S : List Nat} {a b : World} (h : Mod S a b) (n : Nat) : Mod S a (b.drewN n) := ⟨h.os, h.tape, h.output, h.size, h.block⟩
end Go.Proofs.Ytobmgnoceacoaaa

/- A slice of whole numbers that came in, opened. -/
import Derived.Test.YtobmgnoceacoaaaOps
import Derived.ProofKit
import Derived.SizedLaws
import Derived.ChangeSlices
namespace Go.Proofs.Ytobmgnoceacoaaa
open Go.ChangeShapes Go.WideShapes Go.ChangeAt Go.RowKit

/-- A slice of whole numbers of the kind k that came in: its first len numbers. -/
def Nums (w : World) (k : IntKind) (a : Option Addr) (len : Nat) (zs : List Int) : Prop :=
  zs.length = len ∧ len ≤ 140737488351232 ∧ (∀ i, i < len → k.min ≤ zs.getD i 0 ∧ zs.getD i 0 ≤ k.max) ∧
  (len = 0 ∨ ∃ b off, a = some ⟨b, off, none⟩ ∧ b < w.heap.size ∧ ∀ i, i < len → w.cell? ⟨b, off + i, none⟩ = some (.int k (zs.getD i 0)))

theorem Nums.get {w : World} {k : IntKind} {a : Option Addr} {len : Nat} {zs : List Int} (h : Nums w k a len zs) {i : Nat} (hi : i < len) :
    ∃ b off z, a = some ⟨b, off, none⟩ ∧ zs.getD i 0 = z ∧ k.min ≤ z ∧ z ≤ k.max ∧ ∀ w', Mod [] w w' → w'.cell? ⟨b, off + i, none⟩ = some (.int k z) := by
  obtain ⟨_, _, h3, h4⟩ := h
  rcases h4 with h4 | ⟨b, off, rfl, hb, hc⟩
  · omega
  · exact ⟨b, off, _, rfl, rfl, (h3 i hi).1, (h3 i hi).2, fun w' hm => (World.cell?_of_block (w := w) (a := ⟨b, off + i, none⟩) (hm.block b hb (by simp))).trans (hc i hi)⟩

section
variable {H : Type} {enc : TypeId × Value → H} {P : Program} {w : World}

theorem open_nums {t e : TypeId} {k : IntKind} {v : Value} {d : DataW H} {p : List MemPlace} (ht : P.underlying t = some (.slice e)) (he : P.underlying e = some (.int k)) (hc : P.cellsOf e = 1) (hby : 0 < P.bytesOf e)
    (hv : Value.okWide P w .any 0 t v) (h : DataW.Trod enc P w 0 (fun _ => true) true t v d p) {ts : List TypeId} {ds : List (DataW H)} {j : Nat}
    (hsz : (DataW.weightsEach P ts ds).all (· ≤ reachBytes) = true) (hj : ts[j]? = some t) (hd : ds[j]? = some d) :
    ∃ a len cap zs, v = .slice a len cap ∧ Nums w k a len zs := by
  obtain ⟨a, len, cap, rfl⟩ := okWide_slice ht hv
  obtain ⟨fuel, hfu⟩ := h
  rcases open_ints ht he hc hfu with ⟨hcs, _⟩ | ⟨a', len', cap', zs, hcs, _, hl, hm, hmm, hx, hcell, hwf⟩
  · simp [Value.cells] at hcs
    obtain ⟨rfl, rfl, rfl⟩ := hcs
    exact ⟨none, 0, 0, [], rfl, rfl, by omega, by simp, .inl rfl⟩
  · simp [Value.cells] at hcs
    obtain ⟨rfl, rfl, rfl⟩ := hcs
    simp only [if_true] at hmm
    simp only [Prod.mk.injEq] at hx
    obtain ⟨rfl, rfl⟩ := hx
    have hsl := sized_slice hsz hj hd ht
    have hlen : len ≤ 140737488351232 := by
      have h1 : len * P.bytesOf e ≤ 140737488351232 := by
        refine Nat.le_trans (Nat.mul_le_mul_right _ ?_) hsl
        simp [lits]; omega
      exact Nat.le_trans (Nat.le_mul_of_pos_right _ hby) h1
    have hg : ∀ i, i < len → (zs.take len).getD i 0 = zs.getD i 0 := fun i hi => by simp [hi]
    refine ⟨some a', len, cap, zs.take len, rfl, by simp; omega, hlen, fun i hi => ?_, ?_⟩
    · rw [hg i hi]
      have hi' : i < zs.length := by omega
      have hmem : zs.getD i 0 ∈ zs := by simp [hi']
      have := hwf _ hmem
      simpa [Lit.wf] using this
    · by_cases h0 : len = 0
      · exact .inl h0
      · right
        obtain ⟨b, off, spot⟩ := a'
        have hc0 := hcell 0 (by omega)
        have hspot : spot = none := by
          have := World.cell?_spot hc0
          simpa [Addr.add] using this
        subst hspot
        have hblk : b < w.heap.size := by
          have := World.block_lt_of_cell? w _ hc0
          simpa [Addr.add] using this
        refine ⟨b, off, rfl, hblk, fun i hi => ?_⟩
        have := hcell i (by omega)
        rw [hg i hi]
        rwa [show (⟨b, off, none⟩ : Addr).add i = ⟨b, off + i, none⟩ by unfold Addr.add; split <;> simp_all] at this
end
end Go.Proofs.Ytobmgnoceacoaaa

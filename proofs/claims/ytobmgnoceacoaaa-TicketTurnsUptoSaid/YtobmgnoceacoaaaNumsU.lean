/- A slice of whole numbers that came in, opened under a bound on what comes in. -/
import Derived.Test.YtobmgnoceacoaaaNums
namespace Go.Proofs.Ytobmgnoceacoaaa
open Go.ChangeShapes Go.WideShapes Go.ChangeAt Go.RowKit

theorem bulk_one {H : Type} (d : DataW H) : 1 ≤ Rows.uptoBulk d := by
  cases d with
  | lit l => cases l <;> simp [Rows.uptoBulk]
  | nil => simp [Rows.uptoBulk]
  | ptr d => simp [Rows.uptoBulk]
  | slice elems spare => simp [Rows.uptoBulk]
  | agg parts => simp [Rows.uptoBulk]
  | iface t d => simp [Rows.uptoBulk]
  | map entries => simp [Rows.uptoBulk]
  | held h => simp [Rows.uptoBulk]
theorem bulk_length {H : Type} (l : List (DataW H)) : l.length ≤ Rows.uptoBulkAll l := by
  induction l with
  | nil => simp [Rows.uptoBulkAll]
  | cons x r ih => have := bulk_one x; simp only [Rows.uptoBulkAll, List.length_cons]; omega
theorem bulk_part {H : Type} {d : DataW H} {l : List (DataW H)} (h : d ∈ l) : Rows.uptoBulk d ≤ Rows.uptoBulkAll l := by
  induction l with
  | nil => cases h
  | cons x r ih =>
    simp only [Rows.uptoBulkAll]
    cases List.mem_cons.1 h with
    | inl e => subst e; omega
    | inr e => have := ih e; omega

section
variable {H : Type} {enc : TypeId × Value → H} {P : Program} {w : World}

theorem open_numsU {t e : TypeId} {k : IntKind} {v : Value} {d : DataW H} {p : List MemPlace} (ht : P.underlying t = some (.slice e)) (he : P.underlying e = some (.int k)) (hc : P.cellsOf e = 1)
    (hv : Value.okWide P w .any 0 t v) (h : DataW.Trod enc P w 0 (fun _ => true) true t v d p) {ds : List (DataW H)} (hd : d ∈ ds) (hk : Rows.uptoSmall H ds = true) :
    ∃ a len cap zs, v = .slice a len cap ∧ Nums w k a len zs ∧ len ≤ 1048576 := by
  have hbulk : Rows.uptoBulk d ≤ 1048576 := Nat.le_trans (bulk_part hd) (of_decide_eq_true hk)
  obtain ⟨a, len, cap, rfl⟩ := okWide_slice ht hv
  obtain ⟨fuel, hfu⟩ := h
  rcases open_ints ht he hc hfu with ⟨hcs, _⟩ | ⟨a', len', cap', zs, hcs, _, hl, hm, hmm, hx, hcell, hwf⟩
  · simp [Value.cells] at hcs
    obtain ⟨rfl, rfl, rfl⟩ := hcs
    exact ⟨none, 0, 0, [], rfl, ⟨rfl, by omega, by simp, .inl rfl⟩, by omega⟩
  · simp [Value.cells] at hcs
    obtain ⟨rfl, rfl, rfl⟩ := hcs
    simp only [if_true] at hmm
    simp only [Prod.mk.injEq] at hx
    obtain ⟨rfl, rfl⟩ := hx
    have hlen : len ≤ 1048576 := by
      have h1 := bulk_length (lits (H := H) k (zs.take len))
      have h2 : (lits (H := H) k (zs.take len)).length = len := by simp [lits]; omega
      simp only [Rows.uptoBulk] at hbulk
      omega
    have hg : ∀ i, i < len → (zs.take len).getD i 0 = zs.getD i 0 := fun i hi => by simp [hi]
    refine ⟨some a', len, cap, zs.take len, rfl, ⟨by simp; omega, by omega, fun i hi => ?_, ?_⟩, hlen⟩
    · rw [hg i hi]
      have hi' : i < zs.length := by omega
      have hmem : zs.getD i 0 ∈ zs := by simp [hi']
      have := hwf _ hmem
      simpa [Lit.wf] using this
    · by_cases h0 : len = 0
      · exact .inl h0
      · right
        obtain ⟨b, off, spot⟩ := a'
        have hc0 := hcell 0 (by omega)
        have hspot : spot = none := by
          have := World.cell?_spot hc0
          simpa [Addr.add] using this
        subst hspot
        have hblk : b < w.heap.size := by
          have := World.block_lt_of_cell? w _ hc0
          simpa [Addr.add] using this
        refine ⟨b, off, rfl, hblk, fun i hi => ?_⟩
        have := hcell i (by omega)
        rw [hg i hi]
        rwa [show (⟨b, off, none⟩ : Addr).add i = ⟨b, off + i, none⟩ by unfold Addr.add; split <;> simp_all] at this
end
end Go.Proofs.Ytobmgnoceacoaaa

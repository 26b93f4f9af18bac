/- A slice of whole numbers that came in inside a struct, opened: no bound of bytes; a struct of one-cell fields by value. -/
import Derived.Test.YtobmgnoceacoaaaOps
import Derived.ProofKit
import Derived.SizedLaws
import Derived.ChangeSlices
import Derived.Lib.SmallJoins
import Derived.Deep.Fields
namespace Go.Proofs.Ytobmgnoceacoaaa
open Go.Joins Go.ChangeShapes Go.WideShapes Go.ChangeAt Go.RowKit Go.Deep

/-- A slice of whole numbers of the kind k that came in: its first len numbers. -/
def NumsN (w : World) (k : IntKind) (a : Option Addr) (len : Nat) (zs : List Int) : Prop :=
  zs.length = len ∧ len ≤ 9223372036854775807 ∧ (∀ i, i < len → k.min ≤ zs.getD i 0 ∧ zs.getD i 0 ≤ k.max) ∧
  (len = 0 ∨ ∃ b off, a = some ⟨b, off, none⟩ ∧ b < w.heap.size ∧ ∀ i, i < len → w.cell? ⟨b, off + i, none⟩ = some (.int k (zs.getD i 0)))
theorem NumsN.get {w : World} {k : IntKind} {a : Option Addr} {len : Nat} {zs : List Int} (h : NumsN w k a len zs) {i : Nat} (hi : i < len) :
    ∃ b off z, a = some ⟨b, off, none⟩ ∧ zs.getD i 0 = z ∧ k.min ≤ z ∧ z ≤ k.max ∧ ∀ w', Mod [] w w' → w'.cell? ⟨b, off + i, none⟩ = some (.int k z) := by
  obtain ⟨_, _, h3, h4⟩ := h
  rcases h4 with h4 | ⟨b, off, rfl, hb, hc⟩
  · omega
  · exact ⟨b, off, _, rfl, rfl, (h3 i hi).1, (h3 i hi).2, fun w' hm => (World.cell?_of_block (w := w) (a := ⟨b, off + i, none⟩) (hm.block b hb (by simp))).trans (hc i hi)⟩


section
variable {H : Type} {enc : TypeId × Value → H} {P : Program} {w : World}
theorem open_numsN {t e : TypeId} {k : IntKind} {n : Nat} {v : Value} {x : DataW H × List MemPlace} (ht : P.underlying t = some (.slice e)) (he : P.underlying e = some (.int k)) (hc : P.cellsOf e = 1)
    (hx : DataW.trod enc P w 0 (fun _ => true) true n t [v] = some x) :
    ∃ a len cap zs, v = .slice a len cap ∧ NumsN w k a len zs := by
  rcases open_ints ht he hc hx with ⟨hcs, _⟩ | ⟨a', len, cap, zs, hcs, _, hl, hm, hmm, hx, hcell, hwf⟩
  · simp at hcs
    subst hcs
    exact ⟨none, 0, 0, [], rfl, rfl, by omega, by simp, .inl rfl⟩
  · simp at hcs
    subst hcs
    simp only [if_true] at hmm
    have hg : ∀ i, i < len → (zs.take len).getD i 0 = zs.getD i 0 := fun i hi => by simp [hi]
    refine ⟨some a', len, cap, zs.take len, rfl, by simp; omega, by unfold maxLen at hm; omega, fun i hi => ?_, ?_⟩
    · rw [hg i hi]
      have hi' : i < zs.length := by omega
      have hmem : zs.getD i 0 ∈ zs := by simp [hi']
      have := hwf _ hmem
      simpa [Lit.wf] using this
    · by_cases h0 : len = 0
      · exact .inl h0
      · right
        obtain ⟨b, off, spot⟩ := a'
        have hc0 := hcell 0 (by omega)
        have hspot : spot = none := by
          have := World.cell?_spot hc0
          simpa [Addr.add] using this
        subst hspot
        have hblk : b < w.heap.size := by
          have := World.block_lt_of_cell? w _ hc0
          simpa [Addr.add] using this
        refine ⟨b, off, rfl, hblk, fun i hi => ?_⟩
        have := hcell i (by omega)
        rw [hg i hi]
        rwa [show (⟨b, off, none⟩ : Addr).add i = ⟨b, off + i, none⟩ by unfold Addr.add; split <;> simp_all] at this
end
section
variable {H : Type} {enc : TypeId × Value → H} {P : Program} {w : World} {base : Nat} {spare : Nat → Bool} {held : Bool}
/-- A struct of one-cell fields by value, of any number: its cells, and each field's own reading. -/
theorem open_fields {r : Reach} {b0 : Nat} {t : TypeId} {fs : Array Field} {v : Value} {d : DataW H} {p : List MemPlace} (hs : P.underlying t = some (.struct fs)) (hone : oneCellFields P fs = true)
    (hv : Value.okWide P w r b0 t v) (h : DataW.Trod enc P w base spare held t v d p) :
    ∃ (cs : Array Value) (n : Nat), v = .agg cs ∧ cs.size = P.cellsOf t ∧ ∀ i f, fs[i]? = some f → i < cs.size → ∃ c y, cs[i]? = some c ∧ DataW.trod enc P w base spare held n f.type [c] = some y := by
  obtain ⟨cs, rfl, hsz⟩ := okWide_struct hs hv
  obtain ⟨fuel, hf⟩ := h
  obtain ⟨xs, n, _, _, _, hlen, hg⟩ := DataW.trod_struct hs hf
  refine ⟨cs, n, rfl, hsz, fun i f hi hlt => ?_⟩
  obtain ⟨o, k⟩ := hone_of hone i f hi
  have h1 := hg i f hi
  have hx : i < xs.length := by rw [hlen]; exact (Array.getElem?_eq_some_iff.1 hi).1
  have h2 : (Value.cells (.agg cs)).toList.drop i = cs[i] :: (Value.cells (.agg cs)).toList.drop (i + 1) := by
    simp only [Value.cells]
    rw [← Array.getElem_toList]
    exact List.drop_eq_getElem_cons (by simpa using hlt)
  rw [o, k, h2, List.getElem?_eq_getElem hx] at h1
  exact ⟨cs[i], xs[i], by simp [hlt], h1⟩
theorem arr5 {cs : Array Value} {a b c d e : Value} (h : cs.size = 5) (h0 : cs[0]? = some a) (h1 : cs[1]? = some b) (h2 : cs[2]? = some c) (h3 : cs[3]? = some d) (h4 : cs[4]? = some e) : cs = #[a, b, c, d, e] := by
  obtain ⟨l⟩ := cs
  match l, h with
  | [_, _, _, _, _], _ => simp at h0 h1 h2 h3 h4; simp [h0, h1, h2, h3, h4]
theorem arr6 {cs : Array Value} {a b c d e f : Value} (h : cs.size = 6) (h0 : cs[0]? = some a) (h1 : cs[1]? = some b) (h2 : cs[2]? = some c) (h3 : cs[3]? = some d) (h4 : cs[4]? = some e) (h5 : cs[5]? = some f) : cs = #[a, b, c, d, e, f] := by
  obtain ⟨l⟩ := cs
  match l, h with
  | [_, _, _, _, _, _], _ => simp at h0 h1 h2 h3 h4 h5; simp [h0, h1, h2, h3, h4, h5]
end
end Go.Proofs.Ytobmgnoceacoaaa

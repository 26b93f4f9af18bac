/- A slice of truths that came in inside a struct, opened, with the bound of bytes. -/
import Derived.Test.YtobmgnoceacoaaaXN
import Derived.Test.YtobmgnoceacoaaaOpen
namespace Go.Proofs.Ytobmgnoceacoaaa
open Go.Joins Go.ChangeShapes Go.WideShapes Go.ChangeAt Go.RowKit Go.Deep

/-- A slice of truths that came in. -/
def BoolsN (w : World) (a : Option Addr) (len : Nat) : Prop :=
  len ≤ 140737488351232 ∧ (len = 0 ∨ ∃ b off, a = some ⟨b, off, none⟩ ∧ b < w.heap.size ∧ ∀ i, i < len → ∃ v, w.cell? ⟨b, off + i, none⟩ = some (.bool v))
theorem BoolsN.get {w : World} {a : Option Addr} {len : Nat} (h : BoolsN w a len) {i : Nat} (hi : i < len) :
    ∃ b off v, a = some ⟨b, off, none⟩ ∧ ∀ w', Mod [] w w' → w'.cell? ⟨b, off + i, none⟩ = some (.bool v) := by
  obtain ⟨_, h4⟩ := h
  rcases h4 with h4 | ⟨b, off, rfl, hb, hc⟩
  · omega
  · obtain ⟨v, hv⟩ := hc i hi
    exact ⟨b, off, v, rfl, fun w' hm => (World.cell?_of_block (w := w) (a := ⟨b, off + i, none⟩) (hm.block b hb (by simp))).trans hv⟩
section
variable {H : Type} {enc : TypeId × Value → H} {P : Program} {w : World}
theorem sized_field {ts : List TypeId} {ds : List (DataW H)} (hsz : (DataW.weightsEach P ts ds).all (· ≤ reachBytes) = true) {j : Nat} {t e : TypeId} {fs : Array Field} {f : Field} {parts elems sp : List (DataW H)} {i : Nat}
    (hj : ts[j]? = some t) (hd : ds[j]? = some (.agg parts)) (hu : P.underlying t = some (.struct fs)) (hf : fs[i]? = some f) (hp : parts[i]? = some (.slice elems sp)) (he : P.underlying f.type = some (.slice e)) :
    (elems.length + sp.length) * P.bytesOf e ≤ reachBytes := by
  have := List.all_eq_true.1 hsz _ (DataW.weights_mem_each hj hd ((elems.length + sp.length) * P.bytesOf e) (by
    simp only [DataW.weights, hu]
    exact DataW.weights_mem_each (t := f.type) (by simp [hf]) hp _ (by simp [DataW.weights, he])))
  simpa using this
variable {base : Nat} {spare : Nat → Bool} {held : Bool}
theorem open_fieldsS {r : Reach} {b0 : Nat} {t : TypeId} {fs : Array Field} {v : Value} {d : DataW H} {p : List MemPlace} (hs : P.underlying t = some (.struct fs)) (hone : oneCellFields P fs = true)
    (hv : Value.okWide P w r b0 t v) (h : DataW.Trod enc P w base spare held t v d p) :
    ∃ (cs : Array Value) (n : Nat) (parts : List (DataW H)), v = .agg cs ∧ d = .agg parts ∧ cs.size = P.cellsOf t ∧ ∀ i f, fs[i]? = some f → i < cs.size → ∃ c y, cs[i]? = some c ∧ parts[i]? = some y.1 ∧ DataW.trod enc P w base spare held n f.type [c] = some y := by
  obtain ⟨cs, rfl, hsz⟩ := okWide_struct hs hv
  obtain ⟨fuel, hf⟩ := h
  obtain ⟨xs, n, _, hx, _, hlen, hg⟩ := DataW.trod_struct hs hf
  simp only [Prod.mk.injEq] at hx
  refine ⟨cs, n, xs.map (·.1), rfl, hx.1, hsz, fun i f hi hlt => ?_⟩
  obtain ⟨o, k⟩ := hone_of hone i f hi
  have h1 := hg i f hi
  have hx : i < xs.length := by rw [hlen]; exact (Array.getElem?_eq_some_iff.1 hi).1
  have h2 : (Value.cells (.agg cs)).toList.drop i = cs[i] :: (Value.cells (.agg cs)).toList.drop (i + 1) := by
    simp only [Value.cells]
    rw [← Array.getElem_toList]
    exact List.drop_eq_getElem_cons (by simpa using hlt)
  rw [o, k, h2, List.getElem?_eq_getElem hx] at h1
  exact ⟨cs[i], xs[i], by simp [hlt], by simp [hx], h1⟩
theorem open_boolsN {t e : TypeId} {n : Nat} {v : Value} {x : DataW H × List MemPlace} (ht : P.underlying t = some (.slice e)) (he : P.underlying e = some .bool) (hc : P.cellsOf e = 1) (hby : 0 < P.bytesOf e)
    (hx : DataW.trod enc P w 0 (fun _ => true) true n t [v] = some x) (hb : ∀ elems sp, x.1 = .slice elems sp → (elems.length + sp.length) * P.bytesOf e ≤ reachBytes) :
    ∃ a len cap, v = .slice a len cap ∧ BoolsN w a len := by
  rcases Deep.open_slice ht hx with ⟨hcs, _⟩ | ⟨a', len', cap', m, n, D, Pl, hcs, _, hl, hm, hmm, hxe, hcell⟩
  · simp at hcs
    subst hcs
    exact ⟨none, 0, 0, rfl, by omega, .inl rfl⟩
  · simp at hcs
    subst hcs
    simp only [if_true] at hmm
    subst hmm
    have hsl := hb _ _ (by rw [hxe])
    simp only [List.length_map, List.length_range, reachBytes] at hsl
    have hb : len' * P.bytesOf e ≤ 140737488351232 := Nat.le_trans (Nat.mul_le_mul_right _ (by omega)) hsl
    have hlen : len' ≤ 140737488351232 := Nat.le_trans (Nat.le_mul_of_pos_right _ hby) hb
    refine ⟨some a', len', m, rfl, hlen, ?_⟩
    have hX : ∀ i, i < len' → ∃ v, w.cell? (a'.add i) = some (.bool v) := by
      intro i hi
      obtain ⟨cs', h1, h2⟩ := hcell i (by omega)
      obtain ⟨v, rfl, _⟩ := DataW.trod_bool he h2
      rw [hc] at h1
      have := cells_get h1 0 (by omega)
      refine ⟨v, ?_⟩
      obtain ⟨b, off, spot⟩ := a'
      simp only [Nat.mul_one] at this
      rw [← show ((Addr.add ⟨b, off, spot⟩ i).add 0) = Addr.add ⟨b, off, spot⟩ i by unfold Addr.add; simp]
      exact this
    by_cases h0 : len' = 0
    · exact .inl h0
    · right
      obtain ⟨b, off, spot⟩ := a'
      obtain ⟨v0, hg⟩ := hX 0 (by omega)
      have hspot : spot = none := by
        have := World.cell?_spot hg
        simpa [Addr.add] using this
      subst hspot
      have hblk : b < w.heap.size := by
        have := World.block_lt_of_cell? w _ hg
        simpa [Addr.add] using this
      refine ⟨b, off, rfl, hblk, fun i hi => ?_⟩
      obtain ⟨v, hv⟩ := hX i hi
      rw [addr_add] at hv
      exact ⟨v, hv⟩
end
end Go.Proofs.Ytobmgnoceacoaaa

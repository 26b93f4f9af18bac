/- A script that came in, opened: its structs' whole numbers. -/
import Derived.Test.YtobmgnoceacoaaaOps
import Derived.ProofKit
import Derived.SizedLaws
import Derived.Deep.Slices
namespace Go.Proofs.Ytobmgnoceacoaaa
open Go.ChangeShapes Go.WideShapes Go.ChangeAt Go.RowKit

section
variable {H : Type} {enc : TypeId × Value → H} {P : Program} {w : World}

/-- A struct type whose fields are whole numbers of the kinds ks, one cell each, in order. -/
def IntFields (P : Program) (e : TypeId) (ks : List IntKind) : Prop :=
  ∃ fs : Array Field, P.underlying e = some (.struct fs) ∧ P.cellsOf e = ks.length ∧ fs.size = ks.length ∧
    ∀ (i : Nat) (k : IntKind), ks[i]? = some k → ∃ f : Field, fs[i]? = some f ∧ f.offset = i ∧ P.underlying f.type = some (.int k) ∧ P.cellsOf f.type = 1

theorem opCells_len : ∀ (ks : List IntKind) (xs : List Int), xs.length = ks.length → (opCells ks xs).length = ks.length
  | [], [], _ => rfl
  | k :: ks, x :: xs, h => by simp [opCells, opCells_len ks xs (by simpa using h)]

theorem opCells_exists : ∀ (ks : List IntKind) (cs : List Value), cs.length = ks.length → (∀ (i : Nat) (k : IntKind), ks[i]? = some k → ∃ n : Int, cs[i]? = some (Value.int k n)) → ∃ xs : List Int, xs.length = ks.length ∧ cs = opCells ks xs
  | [], [], _, _ => ⟨[], rfl, rfl⟩
  | k :: ks, c :: cs, hl, h => by
    obtain ⟨n, hn⟩ := h 0 k rfl
    obtain ⟨xs, hx, hc⟩ := opCells_exists ks cs (by simpa using hl) (fun i k' hk => h (i + 1) k' (by simpa using hk))
    simp at hn
    exact ⟨n :: xs, by simp [hx], by rw [hn, hc]; rfl⟩

theorem open_struct {base : Nat} {spare : Nat → Bool} {held : Bool} {e : TypeId} {ks : List IntKind} (hf : IntFields P e ks) {fuel : Nat} {cs : List Value} {x : DataW H × List MemPlace} (h : DataW.trod enc P w base spare held fuel e cs = some x) :
    ∃ xs : List Int, xs.length = ks.length ∧ cs = opCells ks xs := by
  obtain ⟨fs, hu, hc, hs, hk⟩ := hf
  obtain ⟨ys, n, _, rfl, hl, hlen, hfi⟩ := DataW.trod_struct hu h
  refine opCells_exists ks cs (by rw [hl, hc]) (fun i k hki => ?_)
  obtain ⟨f, hfs, ho, hT, hcT⟩ := hk i k hki
  have h1 := hfi i f hfs
  rw [ho, hcT] at h1
  have hi : i < fs.size := by
    rcases Nat.lt_or_ge i fs.size with h' | h'
    · exact h'
    · simp [Array.getElem?_eq_none h'] at hfs
  rw [List.getElem?_eq_getElem (by omega)] at h1
  obtain ⟨m, hm, _, _⟩ := DataW.trod_int hT h1
  refine ⟨m, ?_⟩
  have h2 : ((cs.drop i).take 1)[0]? = some (.int k m) := by rw [hm]; rfl
  simpa [List.getElem?_take, List.getElem?_drop] using h2

theorem cells_get {base : Nat} {a : Addr} {n : Nat} {cs : List Value} (h : w.cells? base a n = some cs) (j : Nat) (hj : j < n) : w.cell? (a.add j) = cs[j]? := by
  unfold World.cells? at h
  split at h
  · exact mapM_some_get h j j (by simp [hj])
  · cases h

theorem addr_add {b off j : Nat} : (⟨b, off, none⟩ : Addr).add j = ⟨b, off + j, none⟩ := by unfold Addr.add; split <;> simp_all

/-- A slice of such structs that came in. -/
theorem open_script {t e : TypeId} {ks : List IntKind} {v : Value} {d : DataW H} {p : List MemPlace} (ht : P.underlying t = some (.slice e)) (hf : IntFields P e ks) (hk0 : 0 < ks.length) (hby : 0 < P.bytesOf e)
    (hv : Value.okWide P w .any 0 t v) (h : DataW.Trod enc P w 0 (fun _ => true) true t v d p) {ts : List TypeId} {ds : List (DataW H)} {j : Nat}
    (hsz : (DataW.weightsEach P ts ds).all (· ≤ reachBytes) = true) (hj : ts[j]? = some t) (hd : ds[j]? = some d) :
    ∃ a len cap ops, v = .slice a len cap ∧ Script w ks a len ops ∧ len * P.bytesOf e ≤ 140737488351232 := by
  obtain ⟨a, len, cap, rfl⟩ := okWide_slice ht hv
  obtain ⟨fuel, hfu⟩ := h
  rcases Deep.open_slice ht hfu with ⟨hcs, _⟩ | ⟨a', len', cap', m, n, D, Pl, hcs, _, hl, hm, hmm, hx, hcell⟩
  · simp [Value.cells] at hcs
    obtain ⟨rfl, rfl, rfl⟩ := hcs
    exact ⟨none, 0, 0, [], rfl, ⟨rfl, by omega, by simp, .inl rfl⟩, by omega⟩
  · simp [Value.cells] at hcs
    obtain ⟨rfl, rfl, rfl⟩ := hcs
    simp only [if_true] at hmm
    subst hmm
    simp only [Prod.mk.injEq] at hx
    obtain ⟨rfl, rfl⟩ := hx
    have hsl := sized_slice hsz hj hd ht
    simp only [List.length_map, List.length_range, reachBytes] at hsl
    have hb : len * P.bytesOf e ≤ 140737488351232 := Nat.le_trans (Nat.mul_le_mul_right _ (by omega)) hsl
    have hlen : len ≤ 140737488351232 := Nat.le_trans (Nat.le_mul_of_pos_right _ hby) hb
    refine ⟨some a', len, m, ?_⟩
    obtain ⟨fs, hu, hc, hs, hk⟩ := id hf
    obtain ⟨X, hX⟩ := Deep.choose_lt (α := List Int) (n := len) (p := fun i xs => xs.length = ks.length ∧ w.cells? 0 (a'.add (i * ks.length)) ks.length = some (opCells ks xs)) (fun i hi => by
      obtain ⟨cs', h1, h2⟩ := hcell i (by omega)
      obtain ⟨xs, hxl, hxe⟩ := open_struct hf h2
      rw [hc] at h1
      exact ⟨xs, hxl, by rw [h1, hxe]⟩)
    refine ⟨(List.range len).map X, rfl, ⟨by simp, hlen, ?_, ?_⟩, hb⟩
    · intro l hl'
      obtain ⟨i, hi, rfl⟩ := List.mem_map.1 hl'
      exact (hX i (by simpa using hi)).1
    · by_cases h0 : len = 0
      · exact .inl h0
      · right
        obtain ⟨b, off, spot⟩ := a'
        have hc0 := (hX 0 (by omega)).2
        have hg := cells_get hc0 0 hk0
        have hlen0 : (opCells ks (X 0)).length = ks.length := opCells_len _ _ (hX 0 (by omega)).1
        rw [List.getElem?_eq_getElem (by omega)] at hg
        have hspot : spot = none := by
          have := World.cell?_spot hg
          simpa [Addr.add] using this
        subst hspot
        have hblk : b < w.heap.size := by
          have := World.block_lt_of_cell? w _ hg
          simpa [Addr.add] using this
        refine ⟨b, off, rfl, hblk, fun i hi j v hv => ?_⟩
        have hgd : ((List.range len).map X).getD i [] = X i := by simp [hi]
        rw [hgd] at hv
        have hj' : j < ks.length := by
          have : j < (opCells ks (X i)).length := by
            rcases Nat.lt_or_ge j (opCells ks (X i)).length with h' | h'
            · exact h'
            · simp [List.getElem?_eq_none h'] at hv
          rwa [opCells_len _ _ (hX i hi).1] at this
        have := cells_get (hX i hi).2 j hj'
        rw [hv, addr_add, addr_add] at this
        exact this
end
end Go.Proofs.Ytobmgnoceacoaaa

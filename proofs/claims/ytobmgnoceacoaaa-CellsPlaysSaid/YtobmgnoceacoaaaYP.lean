/- A script of CellsPlays that came in, opened: structs of whole numbers and a slice of words each. -/
import Derived.Test.YtobmgnoceacoaaaXN
import Derived.Test.YtobmgnoceacoaaaOpen
namespace Go.Proofs.Ytobmgnoceacoaaa
open Go.Joins Go.ChangeShapes Go.WideShapes Go.ChangeAt Go.RowKit Go.Deep

def Script11 (w : World) (a : Option Addr) (len : Nat) : Prop :=
  len ≤ 140737488351232 ∧ (len = 0 ∨ ∃ b off, a = some ⟨b, off, none⟩ ∧ b < w.heap.size ∧ ∀ i, i < len → ∃ (kd ii ce cl vv xx yy : Int) (la : Option Addr) (ln lc : Nat) (zs : List Int), NumsN w .u64 la ln zs ∧ ln ≤ 17592186044415 ∧ w.cell? ⟨b, off + i * 8, none⟩ = some (.int .i64 kd) ∧ w.cell? ⟨b, off + i * 8 + 1, none⟩ = some (.int .i64 ii) ∧ w.cell? ⟨b, off + i * 8 + 2, none⟩ = some (.int .i64 ce) ∧ w.cell? ⟨b, off + i * 8 + 3, none⟩ = some (.int .i64 cl) ∧ w.cell? ⟨b, off + i * 8 + 4, none⟩ = some (.int .u64 vv) ∧ w.cell? ⟨b, off + i * 8 + 5, none⟩ = some (.int .u64 xx) ∧ w.cell? ⟨b, off + i * 8 + 6, none⟩ = some (.int .u64 yy) ∧ w.cell? ⟨b, off + i * 8 + 7, none⟩ = some (.slice la ln lc))
theorem Script11.get {w : World} {a : Option Addr} {len : Nat} (h : Script11 w a len) {i : Nat} (hi : i < len) :
    ∃ (b off : Nat) (kd ii ce cl vv xx yy : Int) (la : Option Addr) (ln lc : Nat) (zs : List Int), a = some ⟨b, off, none⟩ ∧ NumsN w .u64 la ln zs ∧ ln ≤ 17592186044415 ∧ ∀ w', Mod [] w w' → w'.cell? ⟨b, off + i * 8, none⟩ = some (.int .i64 kd) ∧ w'.cell? ⟨b, off + i * 8 + 1, none⟩ = some (.int .i64 ii) ∧ w'.cell? ⟨b, off + i * 8 + 2, none⟩ = some (.int .i64 ce) ∧ w'.cell? ⟨b, off + i * 8 + 3, none⟩ = some (.int .i64 cl) ∧ w'.cell? ⟨b, off + i * 8 + 4, none⟩ = some (.int .u64 vv) ∧ w'.cell? ⟨b, off + i * 8 + 5, none⟩ = some (.int .u64 xx) ∧ w'.cell? ⟨b, off + i * 8 + 6, none⟩ = some (.int .u64 yy) ∧ w'.cell? ⟨b, off + i * 8 + 7, none⟩ = some (.slice la ln lc) := by
  obtain ⟨_, h4⟩ := h
  rcases h4 with h4 | ⟨b, off, rfl, hb, hc⟩
  · omega
  · obtain ⟨kd, ii, ce, cl, vv, xx, yy, la, ln, lc, zs, h1, h2, k0, k1, k2, k3, k4, k5, k6, k7⟩ := hc i hi
    have hcell : ∀ (o : Nat) (v : Value) (w' : World), Mod [] w w' → w.cell? ⟨b, o, none⟩ = some v → w'.cell? ⟨b, o, none⟩ = some v := fun o v w' hm h => (World.cell?_of_block (w := w) (a := ⟨b, o, none⟩) (hm.block b hb (by simp))).trans h
    exact ⟨b, off, kd, ii, ce, cl, vv, xx, yy, la, ln, lc, zs, rfl, h1, h2, fun w' hm => ⟨hcell _ _ w' hm k0, hcell _ _ w' hm k1, hcell _ _ w' hm k2, hcell _ _ w' hm k3, hcell _ _ w' hm k4, hcell _ _ w' hm k5, hcell _ _ w' hm k6, hcell _ _ w' hm k7⟩⟩
section
variable {H : Type} {enc : TypeId × Value → H} {P : Program} {w : World}
theorem weights_mem_all {e : TypeId} : ∀ {ds : List (DataW H)} {j : Nat} {d : DataW H}, ds[j]? = some d → ∀ n ∈ d.weights P e, n ∈ DataW.weightsAll P e ds
  | d0 :: ds, 0, d, hd, n, hn => by
    simp only [List.getElem?_cons_zero, Option.some.injEq] at hd
    subst hd
    simp only [DataW.weightsAll, List.mem_append]
    exact Or.inl hn
  | d0 :: ds, j + 1, d, hd, n, hn => by
    simp only [List.getElem?_cons_succ] at hd
    simp only [DataW.weightsAll, List.mem_append]
    exact Or.inr (weights_mem_all hd n hn)
  | [], _, _, hd, _, _ => by simp at hd
theorem sized_nested {ts : List TypeId} {ds : List (DataW H)} (hsz : (DataW.weightsEach P ts ds).all (· ≤ reachBytes) = true) {j : Nat} {t e e2 : TypeId} {fs : Array Field} {f : Field} {elems sp parts el2 sp2 : List (DataW H)} {i i2 : Nat}
    (hj : ts[j]? = some t) (hd : ds[j]? = some (.slice elems sp)) (hu : P.underlying t = some (.slice e)) (hm : elems[i]? = some (.agg parts)) (hs : P.underlying e = some (.struct fs)) (hf : fs[i2]? = some f) (hp : parts[i2]? = some (.slice el2 sp2)) (he : P.underlying f.type = some (.slice e2)) :
    (el2.length + sp2.length) * P.bytesOf e2 ≤ reachBytes := by
  have := List.all_eq_true.1 hsz _ (DataW.weights_mem_each hj hd ((el2.length + sp2.length) * P.bytesOf e2) (by
    simp only [DataW.weights, hu, List.mem_cons, List.mem_append]
    refine .inr (.inl (weights_mem_all hm _ ?_))
    simp only [DataW.weights, hs]
    exact DataW.weights_mem_each (t := f.type) (by simp [hf]) hp _ (by simp [DataW.weights, he])))
  simpa using this
theorem slice_bound {t e : TypeId} {n : Nat} {v : Value} {x : DataW H × List MemPlace} (ht : P.underlying t = some (.slice e)) (hx : DataW.trod enc P w 0 (fun _ => true) true n t [v] = some x)
    (hb : ∀ elems sp, x.1 = .slice elems sp → (elems.length + sp.length) * P.bytesOf e ≤ reachBytes) (a : Option Addr) (len cap : Nat) (hv : v = .slice a len cap) : len * P.bytesOf e ≤ reachBytes := by
  rcases Deep.open_slice ht hx with ⟨hcs, _⟩ | ⟨a', len', cap', m, n, D, Pl, hcs, _, hl, hm, hmm, hxe, _⟩
  · simp [hv] at hcs
    rw [hcs.2.1]; simp
  · simp [hv] at hcs
    have hsl := hb _ _ (by rw [hxe])
    simp only [List.length_map, List.length_range] at hsl
    rw [hcs.2.1]
    exact Nat.le_trans (Nat.mul_le_mul_right _ (by omega)) hsl
theorem int_field {k : IntKind} {f : Field} {cs : List Value} {n o : Nat} {y : Option (DataW H × List MemPlace)} (hT : P.underlying f.type = some (.int k)) (h1 : DataW.trod enc P w 0 (fun _ => true) true n f.type ((cs.drop o).take 1) = y) (hy : y.isSome = true) : ∃ m : Int, cs[o]? = some (.int k m) := by
  obtain ⟨z, hz⟩ := Option.isSome_iff_exists.1 hy
  obtain ⟨m, hm, _, _⟩ := DataW.trod_int hT (h1.trans hz)
  refine ⟨m, ?_⟩
  have h2 : ((cs.drop o).take 1)[0]? = some (.int k m) := by rw [hm]; rfl
  simpa [List.getElem?_take, List.getElem?_drop] using h2
theorem open_script11 {t e : TypeId} {fs : Array Field} {v : Value} {d : DataW H} {p : List MemPlace} (ht : P.underlying t = some (.slice e)) (hs : P.underlying e = some (.struct fs)) (hce : P.cellsOf e = 8) (hsz8 : fs.size = 8) (hby : 0 < P.bytesOf e)
    (hone : ∀ (i : Nat) (f : Field), fs[i]? = some f → f.offset = i ∧ P.cellsOf f.type = 1) (hk : ∀ (i : Nat) (f : Field), fs[i]? = some f → (i < 4 → P.underlying f.type = some (.int .i64)) ∧ (4 ≤ i → i < 7 → P.underlying f.type = some (.int .u64)) ∧ (i = 7 → ∃ e2, P.underlying f.type = some (.slice e2) ∧ P.underlying e2 = some (.int .u64) ∧ P.cellsOf e2 = 1 ∧ P.bytesOf e2 = 8))
    (hv : Value.okWide P w .any 0 t v) (h : DataW.Trod enc P w 0 (fun _ => true) true t v d p) {ts : List TypeId} {ds : List (DataW H)} {j : Nat}
    (hsz : (DataW.weightsEach P ts ds).all (· ≤ reachBytes) = true) (hj : ts[j]? = some t) (hd : ds[j]? = some d) :
    ∃ a len cap, v = .slice a len cap ∧ Script11 w a len := by
  obtain ⟨a, len, cap, rfl⟩ := okWide_slice ht hv
  obtain ⟨fuel, hfu⟩ := h
  rcases Deep.open_slice ht hfu with ⟨hcs, _⟩ | ⟨a', len', cap', m, n, D, Pl, hcs, _, hl, hm, hmm, hx, hcell⟩
  · simp [Value.cells] at hcs
    obtain ⟨rfl, rfl, rfl⟩ := hcs
    exact ⟨none, 0, 0, rfl, by omega, .inl rfl⟩
  · simp [Value.cells] at hcs
    obtain ⟨rfl, rfl, rfl⟩ := hcs
    simp only [if_true] at hmm
    subst hmm
    simp only [Prod.mk.injEq] at hx
    obtain ⟨rfl, rfl⟩ := hx
    have hsl := sized_slice hsz hj hd ht
    simp only [List.length_map, List.length_range, reachBytes] at hsl
    have hb : len * P.bytesOf e ≤ 140737488351232 := Nat.le_trans (Nat.mul_le_mul_right _ (by omega)) hsl
    have hlen : len ≤ 140737488351232 := Nat.le_trans (Nat.le_mul_of_pos_right _ hby) hb
    have hX : ∀ i, i < len → ∃ (kd ii ce cl vv xx yy : Int) (la : Option Addr) (ln lc : Nat) (zs : List Int), NumsN w .u64 la ln zs ∧ ln ≤ 17592186044415 ∧ w.cells? 0 (a'.add (i * 8)) 8 = some [.int .i64 kd, .int .i64 ii, .int .i64 ce, .int .i64 cl, .int .u64 vv, .int .u64 xx, .int .u64 yy, .slice la ln lc] := by
      intro i hi
      obtain ⟨cs, h1, h2⟩ := hcell i (by omega)
      rw [hce] at h1
      obtain ⟨ys, n', _, hD, hlen8, hys, hfi⟩ := DataW.trod_struct hs h2
      rw [hce] at hlen8
      have hfe : ∀ o, o < 8 → ∃ f, fs[o]? = some f ∧ f.offset = o ∧ P.cellsOf f.type = 1 ∧ DataW.trod enc P w 0 (fun _ => true) true n' f.type ((cs.drop o).take 1) = ys[o]? ∧ (ys[o]?).isSome = true := by
        intro o ho
        obtain ⟨f, hf⟩ : ∃ f, fs[o]? = some f := ⟨fs[o], by simp [hsz8, ho]⟩
        obtain ⟨h3, h4⟩ := hone o f hf
        have h5 := hfi o f hf
        rw [h3, h4] at h5
        exact ⟨f, hf, h3, h4, h5, by simp [hys, hsz8, ho]⟩
      obtain ⟨f0, g0, _, _, t0, s0⟩ := hfe 0 (by decide)
      obtain ⟨f1, g1, _, _, t1, s1⟩ := hfe 1 (by decide)
      obtain ⟨f2, g2, _, _, t2, s2⟩ := hfe 2 (by decide)
      obtain ⟨f3, g3, _, _, t3, s3⟩ := hfe 3 (by decide)
      obtain ⟨f4, g4, _, _, t4, s4⟩ := hfe 4 (by decide)
      obtain ⟨f5, g5, _, _, t5, s5⟩ := hfe 5 (by decide)
      obtain ⟨f6, g6, _, _, t6, s6⟩ := hfe 6 (by decide)
      obtain ⟨f7, g7, _, _, t7, s7⟩ := hfe 7 (by decide)
      obtain ⟨kd, m0⟩ := int_field (k := .i64) ((hk _ _ g0).1 (by decide)) t0 s0
      obtain ⟨ii, m1⟩ := int_field (k := .i64) ((hk _ _ g1).1 (by decide)) t1 s1
      obtain ⟨ce, m2⟩ := int_field (k := .i64) ((hk _ _ g2).1 (by decide)) t2 s2
      obtain ⟨cl, m3⟩ := int_field (k := .i64) ((hk _ _ g3).1 (by decide)) t3 s3
      obtain ⟨vv, m4⟩ := int_field (k := .u64) ((hk _ _ g4).2.1 (by decide) (by decide)) t4 s4
      obtain ⟨xx, m5⟩ := int_field (k := .u64) ((hk _ _ g5).2.1 (by decide) (by decide)) t5 s5
      obtain ⟨yy, m6⟩ := int_field (k := .u64) ((hk _ _ g6).2.1 (by decide) (by decide)) t6 s6
      obtain ⟨e2, u1, u2, u3, u4⟩ := (hk _ _ g7).2.2 rfl
      obtain ⟨z, hz⟩ := Option.isSome_iff_exists.1 s7
      obtain ⟨c7, hc7⟩ : ∃ c, cs[7]? = some c := ⟨cs[7], by simp [hlen8]⟩
      have hdt : (cs.drop 7).take 1 = [c7] := by
        apply List.ext_getElem?
        intro q
        rw [List.getElem?_take, List.getElem?_drop]
        match q with
        | 0 => simpa using hc7
        | q + 1 => simp
      rw [hdt, hz] at t7
      obtain ⟨la, ln, lc, zs, rfl, hN⟩ := open_numsN u1 u2 u3 t7
      have hbd := slice_bound u1 t7 (fun elems sp he => by
        refine sized_nested hsz hj hd ht (i := i) (parts := ys.map (·.1)) ?_ hs g7 ?_ u1
        · have hDi : D i = .agg (ys.map (·.1)) := congrArg Prod.fst hD
          simp [hi, hDi]
        · rw [List.getElem?_map, hz]; simp [he]) la ln lc rfl
      rw [u4] at hbd
      refine ⟨kd, ii, ce, cl, vv, xx, yy, la, ln, lc, zs, hN, by unfold reachBytes at hbd; omega, ?_⟩
      rw [h1]
      congr 1
      clear h1 h2 hfi hfe t0 t1 t2 t3 t4 t5 t6 hdt
      match cs, hlen8, m0, m1, m2, m3, m4, m5, m6, hc7 with
      | [x0, x1, x2, x3, x4, x5, x6, x7], _, m0, m1, m2, m3, m4, m5, m6, hc7 =>
        simp at m0 m1 m2 m3 m4 m5 m6 hc7
        simp [m0, m1, m2, m3, m4, m5, m6, hc7]
    refine ⟨some a', len, m, rfl, hlen, ?_⟩
    by_cases h0 : len = 0
    · exact .inl h0
    · right
      obtain ⟨b, off, spot⟩ := a'
      obtain ⟨_, _, _, _, _, _, _, _, _, _, _, _, _, hc0⟩ := hX 0 (by omega)
      have hg := cells_get hc0 0 (by decide)
      have hspot : spot = none := by
        have := World.cell?_spot hg
        simpa [Addr.add] using this
      subst hspot
      have hblk : b < w.heap.size := by
        have := World.block_lt_of_cell? w _ hg
        simpa [Addr.add] using this
      refine ⟨b, off, rfl, hblk, fun i hi => ?_⟩
      obtain ⟨kd, ii, ce, cl, vv, xx, yy, la, ln, lc, zs, hN, hln, hc⟩ := hX i hi
      have hg : ∀ o, o < 8 → w.cell? ⟨b, off + i * 8 + o, none⟩ = [Value.int .i64 kd, .int .i64 ii, .int .i64 ce, .int .i64 cl, .int .u64 vv, .int .u64 xx, .int .u64 yy, .slice la ln lc][o]? := by
        intro o ho
        have := cells_get hc o ho
        rwa [addr_add, addr_add] at this
      exact ⟨kd, ii, ce, cl, vv, xx, yy, la, ln, lc, zs, hN, hln, hg 0 (by decide), hg 1 (by decide), hg 2 (by decide), hg 3 (by decide), hg 4 (by decide), hg 5 (by decide), hg 6 (by decide), hg 7 (by decide)⟩
end
end Go.Proofs.Ytobmgnoceacoaaa

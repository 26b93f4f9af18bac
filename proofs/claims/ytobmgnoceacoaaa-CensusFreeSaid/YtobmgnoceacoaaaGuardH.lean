/- CensusGuards, CensusFree: how readers and an updater lie in memory. -/
import Derived.Test.YtobmgnoceacoaaaGuardP
import Derived.Test.YtobmgnoceacoaaaCZ
import Derived.Test.YtobmgnoceacoaaaPlays03
namespace Go.Proofs.Ytobmgnoceacoaaa
open Go.RowKit

def ptrO : Option Nat → Value
  | none => .pointer none
  | some k => .pointer (some ⟨k, 0, none⟩)
def gcells (a L : Nat) (part s : Int) (sb : Option Nat) : Array Value :=
  #[.pointer (some ⟨a, 0, none⟩), .int .i64 0, .int .i64 0, .int .i64 0, .int .i64 1, .int .i64 0, .int .i64 0, .slice (some ⟨L, 0, none⟩) 7 7, .int .i64 part, .int .u64 s, ptrO sb]
def persons (pt : Nat → Int) (cb : Nat → Option Nat) : Array Value :=
  #[.int .i64 (pt 0), ptrO (cb 0), .int .i64 (pt 1), ptrO (cb 1), .int .i64 (pt 2), ptrO (cb 2), .int .i64 (pt 3), ptrO (cb 3), .int .i64 (pt 4), ptrO (cb 4), .int .i64 (pt 5), ptrO (cb 5), .int .i64 (pt 6), ptrO (cb 6)]

theorem seven {P : Nat → Prop} (h0 : P 0) (h1 : P 1) (h2 : P 2) (h3 : P 3) (h4 : P 4) (h5 : P 5) (h6 : P 6) : ∀ t, t < 7 → P t := by
  intro t ht
  rcases (show t = 0 ∨ t = 1 ∨ t = 2 ∨ t = 3 ∨ t = 4 ∨ t = 5 ∨ t = 6 by omega) with rfl | rfl | rfl | rfl | rfl | rfl | rfl
  · exact h0
  · exact h1
  · exact h2
  · exact h3
  · exact h4
  · exact h5
  · exact h6
theorem persons_pt (pt : Nat → Int) (cb : Nat → Option Nat) : ∀ t, t < 7 → (persons pt cb)[t * 2]? = some (.int .i64 (pt t)) := seven rfl rfl rfl rfl rfl rfl rfl
theorem persons_cb (pt : Nat → Int) (cb : Nat → Option Nat) : ∀ t, t < 7 → (persons pt cb)[t * 2 + 1]? = some (ptrO (cb t)) := seven rfl rfl rfl rfl rfl rfl rfl
theorem persons_setPt (pt : Nat → Int) (cb : Nat → Option Nat) (v : Int) : ∀ t, t < 7 → (persons pt cb).setIfInBounds (t * 2) (.int .i64 v) = persons (upd pt t v) cb := seven rfl rfl rfl rfl rfl rfl rfl
theorem persons_setCb (pt : Nat → Int) (cb : Nat → Option Nat) (v : Option Nat) : ∀ t, t < 7 → (persons pt cb).setIfInBounds (t * 2 + 1) (ptrO v) = persons pt (upd cb t v) := seven rfl rfl rfl rfl rfl rfl rfl

structure GW (w0 w : World) (g a b L : Nat) (G : GS) : Prop where
  hg : w.heap[g]? = some (.cells (gcells a L G.part G.s G.sb) 90 (0, 0))
  m : MemAt 142 w a b G.mem
  hL : w.heap[L]? = some (.cells (persons G.pt G.cb) 93 (0, 0))
  hc : ∀ t, t < 7 → ∀ k, G.cb t = some k → w.heap[k]? = some (.cells (G.cs t).arr 160 (0, 0)) ∧ w0.heap.size ≤ k
  dj : ∀ t u k, t < 7 → u < 7 → G.cb t = some k → G.cb u = some k → t = u
  hs : ∀ k, G.sb = some k → w.heap[k]? = some (.cells G.sc.arr 162 (0, 0)) ∧ w0.heap.size ≤ k
  ge : w0.heap.size ≤ g ∧ w0.heap.size ≤ a ∧ w0.heap.size ≤ b ∧ w0.heap.size ≤ L
  fr : Mod [] w0 w
variable {w0 w w' : World} {g a b L : Nat} {G : GS} {s' : MemS} {c' : ComS} {q' : ScanS}

theorem nin2 {n p q : Nat} (h1 : n ≠ p) (h2 : n ≠ q) : n ∉ [p, q] := by simp [h1, h2]
theorem ninl3 {n p q r : Nat} (h1 : n ≠ p) (h2 : n ≠ q) (h3 : n ≠ r) : n ∉ [p, q, r] := by simp [h1, h2, h3]

theorem GW.mod (h : GW w0 w g a b L G) (d : Mod [] w w') : GW w0 w' g a b L G :=
  ⟨d.at h.hg (by simp), h.m.mod d (by simp) (by simp), d.at h.hL (by simp), fun t ht k hk => ⟨d.at (h.hc t ht k hk).1 (by simp), (h.hc t ht k hk).2⟩, h.dj, fun k hk => ⟨d.at (h.hs k hk).1 (by simp), (h.hs k hk).2⟩, h.ge, h.fr.trans d⟩
theorem GW.drew (h : GW w0 w g a b L G) : GW w0 w.drew g a b L G := h.mod (Mod.refl _ _).drew
theorem GW.mem (h : GW w0 w g a b L G) (m : MemAt 142 w' a b s') (d : Mod [a, b] w w') : GW w0 w' g a b L { G with mem := s' } := by
  have hg := h.ge
  have na : ∀ {k : Nat} {c : Array Value} {t : TypeId}, w.heap[k]? = some (.cells c t (0, 0)) → t ≠ 142 → t ≠ 28 → k ∉ [a, b] := fun hk h1 h2 => nin2 (blk_ne hk h.m.hd h1) (blk_ne hk h.m.ws h2)
  exact ⟨d.at h.hg (na h.hg (by decide) (by decide)), m, d.at h.hL (na h.hL (by decide) (by decide)),
    fun t ht k hk => ⟨d.at (h.hc t ht k hk).1 (na (h.hc t ht k hk).1 (by decide) (by decide)), (h.hc t ht k hk).2⟩, h.dj,
    fun k hk => ⟨d.at (h.hs k hk).1 (na (h.hs k hk).1 (by decide) (by decide)), (h.hs k hk).2⟩, hg, h.fr.then d (by simp; omega)⟩
theorem GW.com (h : GW w0 w g a b L G) {t : Nat} (ht : t < 7) {k : Nat} (hk : G.cb t = some k) (m : MemAt 142 w' a b s') (hc : w'.heap[k]? = some (.cells c'.arr 160 (0, 0))) (d : Mod [a, b, k] w w') :
    GW w0 w' g a b L { G with mem := s', cs := upd G.cs t c' } := by
  have hg := h.ge
  have K := h.hc t ht k hk
  have na : ∀ {n : Nat} {c : Array Value} {t : TypeId}, w.heap[n]? = some (.cells c t (0, 0)) → t ≠ 142 → t ≠ 28 → t ≠ 160 → n ∉ [a, b, k] := fun hn h1 h2 h3 => ninl3 (blk_ne hn h.m.hd h1) (blk_ne hn h.m.ws h2) (blk_ne hn K.1 h3)
  refine ⟨d.at h.hg (na h.hg (by decide) (by decide) (by decide)), m, d.at h.hL (na h.hL (by decide) (by decide) (by decide)), fun u hu n hn => ?_, h.dj,
    fun n hn => ⟨d.at (h.hs n hn).1 (na (h.hs n hn).1 (by decide) (by decide) (by decide)), (h.hs n hn).2⟩, hg, h.fr.then d (by have := K.2; simp; omega)⟩
  by_cases e : u = t
  · subst e
    have : n = k := by have h2 : G.cb u = some n := hn; rw [hk] at h2; exact (Option.some.inj h2).symm
    subst this
    exact ⟨by simpa only [upd_same] using hc, K.2⟩
  · have hu' := h.hc u hu n hn
    have hnk : n ≠ k := fun e' => e (h.dj u t k hu ht (e' ▸ hn) hk)
    exact ⟨by simpa only [upd_other _ _ e] using d.at hu'.1 (ninl3 (blk_ne hu'.1 h.m.hd (by decide)) (blk_ne hu'.1 h.m.ws (by decide)) hnk), hu'.2⟩
theorem GW.scan (h : GW w0 w g a b L G) {k : Nat} (hk : G.sb = some k) (m : MemAt 142 w' a b s') (hq : w'.heap[k]? = some (.cells q'.arr 162 (0, 0))) (d : Mod [a, b, k] w w') :
    GW w0 w' g a b L { G with mem := s', sc := q' } := by
  have hg := h.ge
  have K := h.hs k hk
  have na : ∀ {n : Nat} {c : Array Value} {t : TypeId}, w.heap[n]? = some (.cells c t (0, 0)) → t ≠ 142 → t ≠ 28 → t ≠ 162 → n ∉ [a, b, k] := fun hn h1 h2 h3 => ninl3 (blk_ne hn h.m.hd h1) (blk_ne hn h.m.ws h2) (blk_ne hn K.1 h3)
  refine ⟨d.at h.hg (na h.hg (by decide) (by decide) (by decide)), m, d.at h.hL (na h.hL (by decide) (by decide) (by decide)),
    fun u hu n hn => ⟨d.at (h.hc u hu n hn).1 (na (h.hc u hu n hn).1 (by decide) (by decide) (by decide)), (h.hc u hu n hn).2⟩, h.dj, fun n hn => ?_, hg, h.fr.then d (by have := K.2; simp; omega)⟩
  have : n = k := by have h2 : G.sb = some n := hn; rw [hk] at h2; exact (Option.some.inj h2).symm
  subst this
  exact ⟨hq, K.2⟩

theorem GW.setPt (h : GW w0 w g a b L G) {t : Nat} (ht : t < 7) (v : Int) : GW w0 (w.setCell ⟨L, t * 2, none⟩ (.int .i64 v)) g a b L { G with pt := upd G.pt t v } := by
  have hg := h.ge
  refine ⟨blk_setCell_other _ h.hg (blk_ne h.hg h.hL (by decide)), h.m.other _ _ _ (blk_ne h.m.hd h.hL (by decide)) (blk_ne h.m.ws h.hL (by decide)), ?_,
    fun u hu n hn => ⟨blk_setCell_other _ (h.hc u hu n hn).1 (blk_ne (h.hc u hu n hn).1 h.hL (by decide)), (h.hc u hu n hn).2⟩, h.dj,
    fun n hn => ⟨blk_setCell_other _ (h.hs n hn).1 (blk_ne (h.hs n hn).1 h.hL (by decide)), (h.hs n hn).2⟩, hg, h.fr.setCell _ _ (.inr hg.2.2.2)⟩
  have := blk_setCell_same (i := t * 2) (.int .i64 v) h.hL
  rwa [persons_setPt _ _ _ t ht] at this
theorem GW.setCb (h : GW w0 w g a b L G) {t : Nat} (ht : t < 7) {k : Nat} {c : ComS} (hk : w.heap[k]? = some (.cells c.arr 160 (0, 0))) (gk : w0.heap.size ≤ k) (hn : ∀ u, u < 7 → G.cb u ≠ some k) :
    GW w0 (w.setCell ⟨L, t * 2 + 1, none⟩ (.pointer (some ⟨k, 0, none⟩))) g a b L { G with cb := upd G.cb t (some k), cs := upd G.cs t c } := by
  have hg := h.ge
  refine ⟨blk_setCell_other _ h.hg (blk_ne h.hg h.hL (by decide)), h.m.other _ _ _ (blk_ne h.m.hd h.hL (by decide)) (blk_ne h.m.ws h.hL (by decide)), ?_, fun u hu n hn => ?_, fun u v n hu hv h1 h2 => ?_,
    fun n hn => ⟨blk_setCell_other _ (h.hs n hn).1 (blk_ne (h.hs n hn).1 h.hL (by decide)), (h.hs n hn).2⟩, hg, h.fr.setCell _ _ (.inr hg.2.2.2)⟩
  · have := blk_setCell_same (i := t * 2 + 1) (ptrO (some k)) h.hL
    rwa [persons_setCb _ _ _ t ht] at this
  · by_cases e : u = t
    · subst e
      have : n = k := by have h2 : upd G.cb u (some k) u = some n := hn; rw [upd_same] at h2; exact (Option.some.inj h2).symm
      subst this
      exact ⟨by simpa only [upd_same] using blk_setCell_other _ hk (blk_ne hk h.hL (by decide)), gk⟩
    · have h2 : G.cb u = some n := by have h2 : upd G.cb t (some k) u = some n := hn; rwa [upd_other _ _ e] at h2
      exact ⟨by simpa only [upd_other _ _ e] using blk_setCell_other _ (h.hc u hu n h2).1 (blk_ne (h.hc u hu n h2).1 h.hL (by decide)), (h.hc u hu n h2).2⟩
  · have h1' : upd G.cb t (some k) u = some n := h1
    have h2' : upd G.cb t (some k) v = some n := h2
    by_cases e : u = t
    · by_cases e' : v = t
      · omega
      · subst e
        rw [upd_same] at h1'; rw [upd_other _ _ e'] at h2'
        exact absurd (h2'.trans h1'.symm) (hn v hv)
    · by_cases e' : v = t
      · subst e'
        rw [upd_same] at h2'; rw [upd_other _ _ e] at h1'
        exact absurd (h1'.trans h2'.symm) (hn u hu)
      · rw [upd_other _ _ e] at h1'; rw [upd_other _ _ e'] at h2'
        exact h.dj u v n hu hv h1' h2'
theorem GW.setPart (h : GW w0 w g a b L G) (v : Int) : GW w0 (w.setCell ⟨g, 8, none⟩ (.int .i64 v)) g a b L { G with part := v } := by
  have hg := h.ge
  exact ⟨blk_setCell_same _ h.hg, h.m.other _ _ _ (blk_ne h.m.hd h.hg (by decide)) (blk_ne h.m.ws h.hg (by decide)), blk_setCell_other _ h.hL (blk_ne h.hL h.hg (by decide)),
    fun u hu n hn => ⟨blk_setCell_other _ (h.hc u hu n hn).1 (blk_ne (h.hc u hu n hn).1 h.hg (by decide)), (h.hc u hu n hn).2⟩, h.dj,
    fun n hn => ⟨blk_setCell_other _ (h.hs n hn).1 (blk_ne (h.hs n hn).1 h.hg (by decide)), (h.hs n hn).2⟩, hg, h.fr.setCell _ _ (.inr hg.1)⟩
theorem GW.setS (h : GW w0 w g a b L G) (v : Int) : GW w0 (w.setCell ⟨g, 9, none⟩ (.int .u64 v)) g a b L { G with s := v } := by
  have hg := h.ge
  exact ⟨blk_setCell_same _ h.hg, h.m.other _ _ _ (blk_ne h.m.hd h.hg (by decide)) (blk_ne h.m.ws h.hg (by decide)), blk_setCell_other _ h.hL (blk_ne h.hL h.hg (by decide)),
    fun u hu n hn => ⟨blk_setCell_other _ (h.hc u hu n hn).1 (blk_ne (h.hc u hu n hn).1 h.hg (by decide)), (h.hc u hu n hn).2⟩, h.dj,
    fun n hn => ⟨blk_setCell_other _ (h.hs n hn).1 (blk_ne (h.hs n hn).1 h.hg (by decide)), (h.hs n hn).2⟩, hg, h.fr.setCell _ _ (.inr hg.1)⟩
theorem GW.setSb (h : GW w0 w g a b L G) {k : Nat} {q : ScanS} (hk : w.heap[k]? = some (.cells q.arr 162 (0, 0))) (gk : w0.heap.size ≤ k) : GW w0 (w.setCell ⟨g, 10, none⟩ (.pointer (some ⟨k, 0, none⟩))) g a b L { G with sb := some k, sc := q } := by
  have hg := h.ge
  refine ⟨blk_setCell_same _ h.hg, h.m.other _ _ _ (blk_ne h.m.hd h.hg (by decide)) (blk_ne h.m.ws h.hg (by decide)), blk_setCell_other _ h.hL (blk_ne h.hL h.hg (by decide)),
    fun u hu n hn => ⟨blk_setCell_other _ (h.hc u hu n hn).1 (blk_ne (h.hc u hu n hn).1 h.hg (by decide)), (h.hc u hu n hn).2⟩, h.dj, fun n hn => ?_, hg, h.fr.setCell _ _ (.inr hg.1)⟩
  have h2 : some k = some n := hn
  cases h2
  exact ⟨blk_setCell_other _ hk (blk_ne hk h.hg (by decide)), gk⟩
/-- A block that is not there yet is nobody's. -/
theorem GW.new (h : GW w0 w g a b L G) {k : Nat} (hk : w.heap.size ≤ k) : ∀ u, u < 7 → G.cb u ≠ some k := fun u hu e => by
  have := lt_of_block (h.hc u hu k e).1
  omega
end Go.Proofs.Ytobmgnoceacoaaa

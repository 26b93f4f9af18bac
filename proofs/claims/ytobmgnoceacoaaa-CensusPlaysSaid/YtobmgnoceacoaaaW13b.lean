/- Layer 13: half a step of a coming or of a scan. -/
import Derived.Test.YtobmgnoceacoaaaW13
namespace Go.Proofs.Ytobmgnoceacoaaa
open Go.RowKit

/-- The program's side has gone on, the document's not yet. -/
structure Mid (w0 w : World) (x a b c d k kr l lr : Nat) (s s' : MemS) (co co' : ComS) (sc sc' : ScanS) : Prop where
  hx : w.heap[x]? = some (.cells (wcells a c k kr l lr) 99 (0, 0))
  m : MemAt 142 w a b s'
  r : MemAt 148 w c d s
  bd : b ≠ d
  hk : w.heap[k]? = some (.cells co'.arr 160 (0, 0))
  hkr : w.heap[kr]? = some (.cells co.arr 168 (0, 0))
  hl : w.heap[l]? = some (.cells sc'.arr 162 (0, 0))
  hlr : w.heap[lr]? = some (.cells sc.arr 170 (0, 0))
  iC : co.Inv
  iC' : co'.Inv
  iS : sc.Inv
  iS' : sc'.Inv
  ge : w0.heap.size ≤ x ∧ w0.heap.size ≤ a ∧ w0.heap.size ≤ b ∧ w0.heap.size ≤ c ∧ w0.heap.size ≤ d ∧ w0.heap.size ≤ k ∧ w0.heap.size ≤ kr ∧ w0.heap.size ≤ l ∧ w0.heap.size ≤ lr
  fr : Mod [] w0 w

variable {w0 w w' : World} {x a b c d k kr l lr : Nat} {s s' : MemS} {co co' : ComS} {sc sc' : ScanS}

theorem Mid.mod {S : List Nat} (h : Mid w0 w x a b c d k kr l lr s s' co co' sc sc') (m : Mod S w w') (hs : ∀ n ∈ S, w.heap.size ≤ n) : Mid w0 w' x a b c d k kr l lr s s' co co' sc sc' := by
  have q : Mod [] w w' := m.fresh hs
  exact ⟨q.at h.hx (by simp), h.m.mod q (by simp) (by simp), h.r.mod q (by simp) (by simp), h.bd, q.at h.hk (by simp), q.at h.hkr (by simp), q.at h.hl (by simp), q.at h.hlr (by simp), h.iC, h.iC', h.iS, h.iS', h.ge, h.fr.trans q⟩
theorem Mid.drew (h : Mid w0 w x a b c d k kr l lr s s' co co' sc sc') : Mid w0 w.drew x a b c d k kr l lr s s' co co' sc sc' := h.mod (S := []) (Mod.refl _ _).drew (by simp)
theorem nin3 {n p q r : Nat} (h1 : n ≠ p) (h2 : n ≠ q) (h3 : n ≠ r) : n ∉ [p, q, r] := by simp [h1, h2, h3]

theorem W13.midC (h : W13 w0 w x a b c d k kr l lr s co sc) (m : MemAt 142 w' a b s') (hz : w'.heap[k]? = some (.cells co'.arr 160 (0, 0))) (i' : co'.Inv) (q : Mod [a, b, k] w w') : Mid w0 w' x a b c d k kr l lr s s' co co' sc sc := by
  have hg := h.ge
  exact ⟨q.at h.hx (nin3 (blk_ne h.hx h.bo.m.hd (by decide)) (blk_ne h.hx h.bo.m.ws (by decide)) (blk_ne h.hx h.hk (by decide))), m, h.bo.r.mod q (nin3 (blk_ne h.bo.r.hd h.bo.m.hd (by decide)) (blk_ne h.bo.r.hd h.bo.m.ws (by decide)) (blk_ne h.bo.r.hd h.hk (by decide))) (nin3 (blk_ne h.bo.r.ws h.bo.m.hd (by decide)) (Ne.symm h.bo.bd) (blk_ne h.bo.r.ws h.hk (by decide))), h.bo.bd, hz, q.at h.hkr (nin3 (blk_ne h.hkr h.bo.m.hd (by decide)) (blk_ne h.hkr h.bo.m.ws (by decide)) (blk_ne h.hkr h.hk (by decide))), (q.at h.hl (nin3 (blk_ne h.hl h.bo.m.hd (by decide)) (blk_ne h.hl h.bo.m.ws (by decide)) (blk_ne h.hl h.hk (by decide)))), q.at h.hlr (nin3 (blk_ne h.hlr h.bo.m.hd (by decide)) (blk_ne h.hlr h.bo.m.ws (by decide)) (blk_ne h.hlr h.hk (by decide))), h.iC, i', h.iS, h.iS, hg, h.fr.then q (by simp; omega)⟩

theorem W13.midS (h : W13 w0 w x a b c d k kr l lr s co sc) (m : MemAt 142 w' a b s') (hz : w'.heap[l]? = some (.cells sc'.arr 162 (0, 0))) (i' : sc'.Inv) (q : Mod [a, b, l] w w') : Mid w0 w' x a b c d k kr l lr s s' co co sc sc' := by
  have hg := h.ge
  exact ⟨q.at h.hx (nin3 (blk_ne h.hx h.bo.m.hd (by decide)) (blk_ne h.hx h.bo.m.ws (by decide)) (blk_ne h.hx h.hl (by decide))), m, h.bo.r.mod q (nin3 (blk_ne h.bo.r.hd h.bo.m.hd (by decide)) (blk_ne h.bo.r.hd h.bo.m.ws (by decide)) (blk_ne h.bo.r.hd h.hl (by decide))) (nin3 (blk_ne h.bo.r.ws h.bo.m.hd (by decide)) (Ne.symm h.bo.bd) (blk_ne h.bo.r.ws h.hl (by decide))), h.bo.bd, (q.at h.hk (nin3 (blk_ne h.hk h.bo.m.hd (by decide)) (blk_ne h.hk h.bo.m.ws (by decide)) (blk_ne h.hk h.hl (by decide)))), q.at h.hkr (nin3 (blk_ne h.hkr h.bo.m.hd (by decide)) (blk_ne h.hkr h.bo.m.ws (by decide)) (blk_ne h.hkr h.hl (by decide))), hz, q.at h.hlr (nin3 (blk_ne h.hlr h.bo.m.hd (by decide)) (blk_ne h.hlr h.bo.m.ws (by decide)) (blk_ne h.hlr h.hl (by decide))), h.iC, h.iC, h.iS, i', hg, h.fr.then q (by simp; omega)⟩

theorem Mid.wholeC (h : Mid w0 w x a b c d k kr l lr s s' co co' sc sc) (r : MemAt 148 w' c d s') (hz : w'.heap[kr]? = some (.cells co'.arr 168 (0, 0))) (q : Mod [c, d, kr] w w') : W13 w0 w' x a b c d k kr l lr s' co' sc := by
  have hg := h.ge
  exact ⟨q.at h.hx (nin3 (blk_ne h.hx h.r.hd (by decide)) (blk_ne h.hx h.r.ws (by decide)) (blk_ne h.hx h.hkr (by decide))), ⟨h.m.mod q (nin3 (blk_ne h.m.hd h.r.hd (by decide)) (blk_ne h.m.hd h.r.ws (by decide)) (blk_ne h.m.hd h.hkr (by decide))) (nin3 (blk_ne h.m.ws h.r.hd (by decide)) h.bd (blk_ne h.m.ws h.hkr (by decide))), r, h.bd⟩, q.at h.hk (nin3 (blk_ne h.hk h.r.hd (by decide)) (blk_ne h.hk h.r.ws (by decide)) (blk_ne h.hk h.hkr (by decide))), hz, q.at h.hl (nin3 (blk_ne h.hl h.r.hd (by decide)) (blk_ne h.hl h.r.ws (by decide)) (blk_ne h.hl h.hkr (by decide))), (q.at h.hlr (nin3 (blk_ne h.hlr h.r.hd (by decide)) (blk_ne h.hlr h.r.ws (by decide)) (blk_ne h.hlr h.hkr (by decide)))), h.iC', h.iS', hg, h.fr.then q (by simp; omega)⟩

theorem Mid.wholeS (h : Mid w0 w x a b c d k kr l lr s s' co co sc sc') (r : MemAt 148 w' c d s') (hz : w'.heap[lr]? = some (.cells sc'.arr 170 (0, 0))) (q : Mod [c, d, lr] w w') : W13 w0 w' x a b c d k kr l lr s' co sc' := by
  have hg := h.ge
  exact ⟨q.at h.hx (nin3 (blk_ne h.hx h.r.hd (by decide)) (blk_ne h.hx h.r.ws (by decide)) (blk_ne h.hx h.hlr (by decide))), ⟨h.m.mod q (nin3 (blk_ne h.m.hd h.r.hd (by decide)) (blk_ne h.m.hd h.r.ws (by decide)) (blk_ne h.m.hd h.hlr (by decide))) (nin3 (blk_ne h.m.ws h.r.hd (by decide)) h.bd (blk_ne h.m.ws h.hlr (by decide))), r, h.bd⟩, q.at h.hk (nin3 (blk_ne h.hk h.r.hd (by decide)) (blk_ne h.hk h.r.ws (by decide)) (blk_ne h.hk h.hlr (by decide))), (q.at h.hkr (nin3 (blk_ne h.hkr h.r.hd (by decide)) (blk_ne h.hkr h.r.ws (by decide)) (blk_ne h.hkr h.hlr (by decide)))), q.at h.hl (nin3 (blk_ne h.hl h.r.hd (by decide)) (blk_ne h.hl h.r.ws (by decide)) (blk_ne h.hl h.hlr (by decide))), hz, h.iC', h.iS', hg, h.fr.then q (by simp; omega)⟩

end Go.Proofs.Ytobmgnoceacoaaa

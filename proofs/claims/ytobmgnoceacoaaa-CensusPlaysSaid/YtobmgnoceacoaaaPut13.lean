/- Layer 13: a coming or a scan begins (its pointer is laid into the world's struct). -/
import Derived.Test.YtobmgnoceacoaaaW13b
namespace Go.Proofs.Ytobmgnoceacoaaa
open Go.RowKit
variable {w0 w w' : World} {x a b c d k kr l lr n : Nat} {s s' : MemS} {co co' : ComS} {sc sc' : ScanS}

theorem W13.put2 (h : W13 w0 w x a b c d k kr l lr s co sc) (hn : w.heap[n]? = some (.cells co'.arr 160 (0, 0))) (hge : w0.heap.size ≤ n) (i' : co'.Inv) : Mid w0 (w.setCell ⟨x, 2, none⟩ (.pointer (some ⟨n, 0, none⟩))) x a b c d n kr l lr s s co co' sc sc := by
  have hg := h.ge
  exact ⟨blk_setCell_same _ h.hx, (h.bo.m.other _ _ _ (blk_ne h.bo.m.hd h.hx (by decide)) (blk_ne h.bo.m.ws h.hx (by decide))), (h.bo.r.other _ _ _ (blk_ne h.bo.r.hd h.hx (by decide)) (blk_ne h.bo.r.ws h.hx (by decide))), h.bo.bd, (blk_setCell_other _ hn (blk_ne hn h.hx (by decide))), (blk_setCell_other _ h.hkr (blk_ne h.hkr h.hx (by decide))), (blk_setCell_other _ h.hl (blk_ne h.hl h.hx (by decide))), (blk_setCell_other _ h.hlr (blk_ne h.hlr h.hx (by decide))), h.iC, i', h.iS, h.iS, by omega, h.fr.setCell _ _ (.inr hg.1)⟩

theorem Mid.put3 (h : Mid w0 w x a b c d k kr l lr s s co co' sc sc) (hn : w.heap[n]? = some (.cells co'.arr 168 (0, 0))) (hge : w0.heap.size ≤ n) : W13 w0 (w.setCell ⟨x, 3, none⟩ (.pointer (some ⟨n, 0, none⟩))) x a b c d k n l lr s co' sc := by
  have hg := h.ge
  exact ⟨blk_setCell_same _ h.hx, ⟨(h.m.other _ _ _ (blk_ne h.m.hd h.hx (by decide)) (blk_ne h.m.ws h.hx (by decide))), (h.r.other _ _ _ (blk_ne h.r.hd h.hx (by decide)) (blk_ne h.r.ws h.hx (by decide))), h.bd⟩, (blk_setCell_other _ h.hk (blk_ne h.hk h.hx (by decide))), (blk_setCell_other _ hn (blk_ne hn h.hx (by decide))), (blk_setCell_other _ h.hl (blk_ne h.hl h.hx (by decide))), (blk_setCell_other _ h.hlr (blk_ne h.hlr h.hx (by decide))), h.iC', h.iS', by omega, h.fr.setCell _ _ (.inr hg.1)⟩

theorem W13.put4 (h : W13 w0 w x a b c d k kr l lr s co sc) (hn : w.heap[n]? = some (.cells sc'.arr 162 (0, 0))) (hge : w0.heap.size ≤ n) (i' : sc'.Inv) : Mid w0 (w.setCell ⟨x, 4, none⟩ (.pointer (some ⟨n, 0, none⟩))) x a b c d k kr n lr s s co co sc sc' := by
  have hg := h.ge
  exact ⟨blk_setCell_same _ h.hx, (h.bo.m.other _ _ _ (blk_ne h.bo.m.hd h.hx (by decide)) (blk_ne h.bo.m.ws h.hx (by decide))), (h.bo.r.other _ _ _ (blk_ne h.bo.r.hd h.hx (by decide)) (blk_ne h.bo.r.ws h.hx (by decide))), h.bo.bd, (blk_setCell_other _ h.hk (blk_ne h.hk h.hx (by decide))), (blk_setCell_other _ h.hkr (blk_ne h.hkr h.hx (by decide))), (blk_setCell_other _ hn (blk_ne hn h.hx (by decide))), (blk_setCell_other _ h.hlr (blk_ne h.hlr h.hx (by decide))), h.iC, h.iC, h.iS, i', by omega, h.fr.setCell _ _ (.inr hg.1)⟩

theorem Mid.put5 (h : Mid w0 w x a b c d k kr l lr s s co co sc sc') (hn : w.heap[n]? = some (.cells sc'.arr 170 (0, 0))) (hge : w0.heap.size ≤ n) : W13 w0 (w.setCell ⟨x, 5, none⟩ (.pointer (some ⟨n, 0, none⟩))) x a b c d k kr l n s co sc' := by
  have hg := h.ge
  exact ⟨blk_setCell_same _ h.hx, ⟨(h.m.other _ _ _ (blk_ne h.m.hd h.hx (by decide)) (blk_ne h.m.ws h.hx (by decide))), (h.r.other _ _ _ (blk_ne h.r.hd h.hx (by decide)) (blk_ne h.r.ws h.hx (by decide))), h.bd⟩, (blk_setCell_other _ h.hk (blk_ne h.hk h.hx (by decide))), (blk_setCell_other _ h.hkr (blk_ne h.hkr h.hx (by decide))), (blk_setCell_other _ h.hl (blk_ne h.hl h.hx (by decide))), (blk_setCell_other _ hn (blk_ne hn h.hx (by decide))), h.iC', h.iS', by omega, h.fr.setCell _ _ (.inr hg.1)⟩

end Go.Proofs.Ytobmgnoceacoaaa

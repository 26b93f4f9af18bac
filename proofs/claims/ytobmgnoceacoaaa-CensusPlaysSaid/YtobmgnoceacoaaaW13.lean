/- Layer 13: the program's memory, coming and scan beside the document's; the calls that keep nothing. -/
import Derived.Test.YtobmgnoceacoaaaCZ
import Derived.Test.YtobmgnoceacoaaaPlays03
namespace Go.Proofs.Ytobmgnoceacoaaa
open Go.RowKit

def wcells (a c k kr l lr : Nat) : Array Value := #[.pointer (some ⟨a, 0, none⟩), .pointer (some ⟨c, 0, none⟩), .pointer (some ⟨k, 0, none⟩), .pointer (some ⟨kr, 0, none⟩), .pointer (some ⟨l, 0, none⟩), .pointer (some ⟨lr, 0, none⟩)]

/-- What a 'world' of layer 13 is, in a world that came from w0. -/
structure W13 (w0 w : World) (x a b c d k kr l lr : Nat) (s : MemS) (co : ComS) (sc : ScanS) : Prop where
  hx : w.heap[x]? = some (.cells (wcells a c k kr l lr) 99 (0, 0))
  bo : Both w a b c d s
  hk : w.heap[k]? = some (.cells co.arr 160 (0, 0))
  hkr : w.heap[kr]? = some (.cells co.arr 168 (0, 0))
  hl : w.heap[l]? = some (.cells sc.arr 162 (0, 0))
  hlr : w.heap[lr]? = some (.cells sc.arr 170 (0, 0))
  iC : co.Inv
  iS : sc.Inv
  ge : w0.heap.size ≤ x ∧ w0.heap.size ≤ a ∧ w0.heap.size ≤ b ∧ w0.heap.size ≤ c ∧ w0.heap.size ≤ d ∧ w0.heap.size ≤ k ∧ w0.heap.size ≤ kr ∧ w0.heap.size ≤ l ∧ w0.heap.size ≤ lr
  fr : Mod [] w0 w

variable {w0 w w' : World} {x a b c d k kr l lr : Nat} {s s' : MemS} {co : ComS} {sc : ScanS}

/-- Blocks that stay. -/
theorem W13.mod {S : List Nat} (h : W13 w0 w x a b c d k kr l lr s co sc) (m : Mod S w w') (hs : ∀ n ∈ S, w.heap.size ≤ n) : W13 w0 w' x a b c d k kr l lr s co sc := by
  have q : Mod [] w w' := m.fresh hs
  exact ⟨q.at h.hx (by simp), h.bo.mod q (by simp) (by simp) (by simp) (by simp), q.at h.hk (by simp), q.at h.hkr (by simp), q.at h.hl (by simp), q.at h.hlr (by simp), h.iC, h.iS, h.ge, h.fr.trans q⟩
theorem W13.alloc (h : W13 w0 w x a b c d k kr l lr s co sc) (o : Obj) : W13 w0 (w.alloc o) x a b c d k kr l lr s co sc := h.mod (S := []) ((Mod.refl _ _).alloc _) (by simp)
theorem W13.drew (h : W13 w0 w x a b c d k kr l lr s co sc) : W13 w0 w.drew x a b c d k kr l lr s co sc := h.mod (S := []) (Mod.refl _ _).drew (by simp)
theorem W13.drewN (h : W13 w0 w x a b c d k kr l lr s co sc) (n : Nat) : W13 w0 (w.drewN n) x a b c d k kr l lr s co sc := h.mod (S := []) ((Mod.refl _ _).drewN _) (by simp)

/-- Half a step: the program's memory has gone on. -/
structure Half (w0 w : World) (x a b c d k kr l lr : Nat) (s s' : MemS) (co : ComS) (sc : ScanS) : Prop where
  hx : w.heap[x]? = some (.cells (wcells a c k kr l lr) 99 (0, 0))
  m : MemAt 142 w a b s'
  r : MemAt 148 w c d s
  bd : b ≠ d
  hk : w.heap[k]? = some (.cells co.arr 160 (0, 0))
  hkr : w.heap[kr]? = some (.cells co.arr 168 (0, 0))
  hl : w.heap[l]? = some (.cells sc.arr 162 (0, 0))
  hlr : w.heap[lr]? = some (.cells sc.arr 170 (0, 0))
  iC : co.Inv
  iS : sc.Inv
  ge : w0.heap.size ≤ x ∧ w0.heap.size ≤ a ∧ w0.heap.size ≤ b ∧ w0.heap.size ≤ c ∧ w0.heap.size ≤ d ∧ w0.heap.size ≤ k ∧ w0.heap.size ≤ kr ∧ w0.heap.size ≤ l ∧ w0.heap.size ≤ lr
  fr : Mod [] w0 w

theorem W13.half (h : W13 w0 w x a b c d k kr l lr s co sc) (m : MemAt 142 w' a b s') (q : Mod [a, b] w w') : Half w0 w' x a b c d k kr l lr s s' co sc := by
  have hg := h.ge
  refine ⟨q.at h.hx ?_, m, h.bo.rest q, h.bo.bd, q.at h.hk ?_, q.at h.hkr ?_, q.at h.hl ?_, q.at h.hlr ?_, h.iC, h.iS, hg, h.fr.then q (by simp; omega)⟩
  all_goals simp only [List.mem_cons, List.not_mem_nil, or_false, not_or]
  · exact ⟨blk_ne h.hx h.bo.m.hd (by decide), blk_ne h.hx h.bo.m.ws (by decide)⟩
  · exact ⟨blk_ne h.hk h.bo.m.hd (by decide), blk_ne h.hk h.bo.m.ws (by decide)⟩
  · exact ⟨blk_ne h.hkr h.bo.m.hd (by decide), blk_ne h.hkr h.bo.m.ws (by decide)⟩
  · exact ⟨blk_ne h.hl h.bo.m.hd (by decide), blk_ne h.hl h.bo.m.ws (by decide)⟩
  · exact ⟨blk_ne h.hlr h.bo.m.hd (by decide), blk_ne h.hlr h.bo.m.ws (by decide)⟩

theorem Half.mod {S : List Nat} (h : Half w0 w x a b c d k kr l lr s s' co sc) (m : Mod S w w') (hs : ∀ n ∈ S, w.heap.size ≤ n) : Half w0 w' x a b c d k kr l lr s s' co sc := by
  have q : Mod [] w w' := m.fresh hs
  exact ⟨q.at h.hx (by simp), h.m.mod q (by simp) (by simp), h.r.mod q (by simp) (by simp), h.bd, q.at h.hk (by simp), q.at h.hkr (by simp), q.at h.hl (by simp), q.at h.hlr (by simp), h.iC, h.iS, h.ge, h.fr.trans q⟩

theorem Half.drew (h : Half w0 w x a b c d k kr l lr s s' co sc) : Half w0 w.drew x a b c d k kr l lr s s' co sc := h.mod (S := []) (Mod.refl _ _).drew (by simp)
theorem Half.whole (h : Half w0 w x a b c d k kr l lr s s' co sc) (r : MemAt 148 w' c d s') (q : Mod [c, d] w w') : W13 w0 w' x a b c d k kr l lr s' co sc := by
  have hg := h.ge
  have hac : a ≠ c := blk_ne h.m.hd h.r.hd (by decide)
  have had : a ≠ d := blk_ne h.m.hd h.r.ws (by decide)
  have hbc : b ≠ c := blk_ne h.m.ws h.r.hd (by decide)
  have hbd := h.bd
  refine ⟨q.at h.hx ?_, ⟨h.m.mod q (by simp; omega) (by simp; omega), r, h.bd⟩, q.at h.hk ?_, q.at h.hkr ?_, q.at h.hl ?_, q.at h.hlr ?_, h.iC, h.iS, hg, h.fr.then q (by simp; omega)⟩
  all_goals simp only [List.mem_cons, List.not_mem_nil, or_false, not_or]
  · exact ⟨blk_ne h.hx h.r.hd (by decide), blk_ne h.hx h.r.ws (by decide)⟩
  · exact ⟨blk_ne h.hk h.r.hd (by decide), blk_ne h.hk h.r.ws (by decide)⟩
  · exact ⟨blk_ne h.hkr h.r.hd (by decide), blk_ne h.hkr h.r.ws (by decide)⟩
  · exact ⟨blk_ne h.hl h.r.hd (by decide), blk_ne h.hl h.r.ws (by decide)⟩
  · exact ⟨blk_ne h.hlr h.r.hd (by decide), blk_ne h.hlr h.r.ws (by decide)⟩
end Go.Proofs.Ytobmgnoceacoaaa

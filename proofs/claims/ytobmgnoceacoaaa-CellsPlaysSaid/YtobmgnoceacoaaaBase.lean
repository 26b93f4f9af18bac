/- Words for the proofs of this seat: the frame 'Mod', blocks behind stores and allocations, the pure memory 'MemS'. -/
import Derived.Test.YtobmgnoceacoaaaRows
import Derived.WalkKit
import Derived.WalkSpells
import Derived.WalkLawsBesides
import Derived.Lib.Hide
namespace Go.Proofs.Ytobmgnoceacoaaa
open Go.RowKit

/-- Blocks outside S are as they were. -/
structure Mod (S : List Nat) (w w' : World) : Prop where
  os : w'.os = w.os
  tape : w'.tape = w.tape
  output : w'.output = w.output
  size : w.heap.size ≤ w'.heap.size
  block : ∀ k, k < w.heap.size → k ∉ S → w'.heap[k]? = w.heap[k]?

theorem Mod.refl (S : List Nat) (w : World) : Mod S w w := ⟨rfl, rfl, rfl, Nat.le_refl _, fun _ _ _ => rfl⟩

theorem Mod.trans {S : List Nat} {a b c : World} (h : Mod S a b) (k : Mod S b c) : Mod S a c :=
  ⟨k.os.trans h.os, k.tape.trans h.tape, k.output.trans h.output, Nat.le_trans h.size k.size,
    fun i hi hs => (k.block i (Nat.lt_of_lt_of_le hi h.size) hs).trans (h.block i hi hs)⟩

theorem Mod.mono {S T : List Nat} {a b : World} (h : Mod S a b) (hs : ∀ x ∈ S, x ∈ T ∨ a.heap.size ≤ x) : Mod T a b :=
  ⟨h.os, h.tape, h.output, h.size, fun i hi ht => h.block i hi (fun hm => (hs i hm).elim ht (fun h' => by omega))⟩

theorem Mod.drew {S : List Nat} {a b : World} (h : Mod S a b) : Mod S a b.drew := ⟨h.os, h.tape, h.output, h.size, h.block⟩

theorem Mod.alloc {S : List Nat} {a b : World} (h : Mod S a b) (o : Obj) : Mod S a (b.alloc o) :=
  ⟨h.os, h.tape, h.output, Nat.le_trans h.size (by simp), fun i hi hs => (Below.heap_alloc _ _ _ (Nat.lt_of_lt_of_le hi h.size)).trans (h.block i hi hs)⟩

theorem Mod.setCell {S : List Nat} {a b : World} (h : Mod S a b) (p : Addr) (u : Value) (hp : p.block ∈ S ∨ a.heap.size ≤ p.block) : Mod S a (b.setCell p u) :=
  ⟨h.os, h.tape, h.output, Nat.le_trans h.size (by simp), fun i hi hs => (Below.heap_setCell _ _ _ _ (fun e => by
    subst e; rcases hp with hp | hp
    · exact hs hp
    · omega)).trans (h.block i hi hs)⟩

theorem Mod.setRow {S : List Nat} {a b : World} (h : Mod S a b) (g : Nat) (cs : Array Value) (hp : g ∈ S ∨ a.heap.size ≤ g) : Mod S a (b.setRow g cs) :=
  ⟨h.os, h.tape, h.output, Nat.le_trans h.size (by simp [World.setRow]), fun i hi hs => (setRow_other b g i cs (fun e => by
    subst e; rcases hp with hp | hp
    · exact hs hp
    · omega)).trans (h.block i hi hs)⟩

theorem Mod.below {w w' : World} (h : Mod [] w w') : Below w.heap.size w w' := ⟨h.os, h.tape, h.output, h.size, fun k hk => h.block k hk (by simp)⟩

theorem Mod.at {S : List Nat} {w w' : World} (h : Mod S w w') {k : Nat} {o : Obj} (hk : w.heap[k]? = some o) (hs : k ∉ S) : w'.heap[k]? = some o :=
  (h.block k (lt_of_block hk) hs).trans hk

/-! Blocks behind a step. -/
theorem blk_alloc_new (w : World) (o : Obj) : (w.alloc o).heap[w.heap.size]? = some o := heap_alloc_new _ _
theorem blk_alloc_old {w : World} (o : Obj) {k : Nat} {x : Obj} (h : w.heap[k]? = some x) : (w.alloc o).heap[k]? = some x :=
  (Below.heap_alloc w o k (lt_of_block h)).trans h
theorem blk_setCell_other {w : World} {b i : Nat} (v : Value) {k : Nat} {x : Obj} (h : w.heap[k]? = some x) (hk : k ≠ b) : (w.setCell ⟨b, i, none⟩ v).heap[k]? = some x :=
  (Below.heap_setCell w ⟨b, i, none⟩ v k hk).trans h
theorem blk_setCell_same {w : World} {b i : Nat} (v : Value) {c : Array Value} {t : TypeId} {f : Nat × Nat} (h : w.heap[b]? = some (.cells c t f)) :
    (w.setCell ⟨b, i, none⟩ v).heap[b]? = some (.cells (c.setIfInBounds i v) t f) := by
  show (w.heap.modify b _)[b]? = _
  rw [Array.getElem?_modify, if_pos rfl, h]
  rfl
theorem cell_of_blk {w : World} {b i : Nat} {c : Array Value} {t : TypeId} {f : Nat × Nat} {v : Value} (h : w.heap[b]? = some (.cells c t f)) (hv : c[i]? = some v) : w.cell? ⟨b, i, none⟩ = some v := by
  simp [World.cell?, h, hv]
theorem free_of_blk {w : World} {b i : Nat} {c : Array Value} {t : TypeId} (h : w.heap[b]? = some (.cells c t (0, 0))) : w.frozen? ⟨b, i, none⟩ = false := by
  simp [World.frozen?, h]

/-! The pure memory. -/
structure MemS where
  ws : List Int
  op : Bool
  ct : Int

def u64s (l : List Int) : Array Value := (l.map (Value.int .u64)).toArray

/-- A memory of the program (type t: 142) or of the reference (148): its struct in block a, its words in block b. -/
structure MemAt (t : TypeId) (w : World) (a b : Nat) (s : MemS) : Prop where
  hd : w.heap[a]? = some (.cells #[.slice (some ⟨b, 0, none⟩) s.ws.length s.ws.length, .bool s.op, .int .i64 s.ct] t (0, 0))
  ws : w.heap[b]? = some (.cells (u64s s.ws) 28 (0, 0))
  ne : a ≠ b
  len : s.ws.length ≤ 4096


theorem MemAt.mod {t : TypeId} {S : List Nat} {w w' : World} {a b : Nat} {s : MemS} (h : MemAt t w a b s) (hm : Mod S w w') (ha : a ∉ S) (hb : b ∉ S) : MemAt t w' a b s :=
  ⟨hm.at h.hd ha, hm.at h.ws hb, h.ne, h.len⟩
theorem MemAt.lta {t : TypeId} {w : World} {a b : Nat} {s : MemS} (h : MemAt t w a b s) : a < w.heap.size := lt_of_block h.hd
theorem MemAt.ltb {t : TypeId} {w : World} {a b : Nat} {s : MemS} (h : MemAt t w a b s) : b < w.heap.size := lt_of_block h.ws
theorem MemAt.alloc {t : TypeId} {w : World} {a b : Nat} {s : MemS} (h : MemAt t w a b s) (o : Obj) : MemAt t (w.alloc o) a b s :=
  ⟨blk_alloc_old o h.hd, blk_alloc_old o h.ws, h.ne, h.len⟩
theorem MemAt.drew {t : TypeId} {w : World} {a b : Nat} {s : MemS} (h : MemAt t w a b s) : MemAt t w.drew a b s := ⟨h.hd, h.ws, h.ne, h.len⟩
theorem MemAt.other {t : TypeId} {w : World} {a b : Nat} {s : MemS} (h : MemAt t w a b s) (c i : Nat) (v : Value) (ha : a ≠ c) (hb : b ≠ c) : MemAt t (w.setCell ⟨c, i, none⟩ v) a b s :=
  ⟨blk_setCell_other v h.hd ha, blk_setCell_other v h.ws hb, h.ne, h.len⟩

theorem u64s_get (l : List Int) (i : Nat) (h : i < l.length) : (u64s l)[i]? = some (.int .u64 (l.getD i 0)) := by
  simp [u64s, h]
theorem u64s_set (l : List Int) (i : Nat) (v : Int) : (u64s l).setIfInBounds i (.int .u64 v) = u64s (l.set i v) := by
  simp [u64s, List.map_set]

theorem MemAt.cells {t : TypeId} {w : World} {a b : Nat} {s : MemS} (h : MemAt t w a b s) :
    w.cell? ⟨a, 0, none⟩ = some (.slice (some ⟨b, 0, none⟩) s.ws.length s.ws.length) ∧ w.cell? ⟨a, 1, none⟩ = some (.bool s.op) ∧ w.cell? ⟨a, 2, none⟩ = some (.int .i64 s.ct) ∧
    w.frozen? ⟨a, 1, none⟩ = false ∧ w.frozen? ⟨a, 2, none⟩ = false :=
  ⟨cell_of_blk h.hd rfl, cell_of_blk h.hd rfl, cell_of_blk h.hd rfl, free_of_blk h.hd, free_of_blk h.hd⟩
theorem MemAt.word {t : TypeId} {w : World} {a b : Nat} {s : MemS} (h : MemAt t w a b s) {i : Nat} (hi : i < s.ws.length) :
    w.cell? ⟨b, i, none⟩ = some (.int .u64 (s.ws.getD i 0)) ∧ w.frozen? ⟨b, i, none⟩ = false :=
  ⟨cell_of_blk h.ws (u64s_get _ _ hi), free_of_blk h.ws⟩

/-- What is wrong with an access. -/
def MemS.acc (s : MemS) (i : Int) : Int := if i < 0 ∨ (s.ws.length : Int) ≤ i then 30 else if s.op then 0 else 31
def MemS.touch (s : MemS) : MemS := { s with op := false, ct := wrap64 (s.ct + 1) }
def MemS.at (s : MemS) (i : Int) : Int := s.ws.getD i.toNat 0
def MemS.got (s : MemS) (i : Int) : Int := if s.acc i = 0 then s.at i else 0
def MemS.load (s : MemS) (i : Int) : MemS := if s.acc i = 0 then s.touch else s
def MemS.put (s : MemS) (i v : Int) : MemS := { s with ws := s.ws.set i.toNat v }
def MemS.store (s : MemS) (i v : Int) : MemS := if s.acc i = 0 then s.touch.put i v else s
def MemS.add (s : MemS) (i v : Int) : MemS := if s.acc i = 0 then s.touch.put i (IntKind.u64.wrap (s.at i + v)) else s
def MemS.opened (s : MemS) : MemS := { s with op := true }
def MemS.bad (s : MemS) (i : Int) : Int := if i < 0 ∨ (s.ws.length : Int) ≤ i then 30 else 0
def MemS.peek (s : MemS) (i : Int) : Int := if s.bad i = 0 then s.at i else 0
def MemS.poke (s : MemS) (i v : Int) : MemS := if s.bad i = 0 then s.put i v else s

theorem MemAt.touch {t : TypeId} {w : World} {a b : Nat} {s : MemS} (h : MemAt t w a b s) :
    MemAt t ((w.setCell ⟨a, 1, none⟩ (.bool false)).setCell ⟨a, 2, none⟩ (.int .i64 (wrap64 (s.ct + 1)))) a b s.touch :=
  ⟨blk_setCell_same _ (blk_setCell_same _ h.hd), blk_setCell_other _ (blk_setCell_other _ h.ws h.ne.symm) h.ne.symm, h.ne, h.len⟩
theorem MemAt.put {t : TypeId} {w : World} {a b : Nat} {s : MemS} (h : MemAt t w a b s) (i : Nat) (v : Int) : MemAt t (w.setCell ⟨b, i, none⟩ (.int .u64 v)) a b (s.put i v) := by
  refine ⟨?_, ?_, h.ne, ?_⟩
  · simpa [MemS.put] using blk_setCell_other (.int .u64 v) h.hd h.ne
  · have := blk_setCell_same (i := i) (.int .u64 v) h.ws
    rw [u64s_set] at this; exact this
  · simpa [MemS.put] using h.len
theorem MemAt.opened {t : TypeId} {w : World} {a b : Nat} {s : MemS} (h : MemAt t w a b s) : MemAt t (w.setCell ⟨a, 1, none⟩ (.bool true)) a b s.opened :=
  ⟨blk_setCell_same _ h.hd, blk_setCell_other _ h.ws h.ne.symm, h.ne, h.len⟩

theorem Mod.set_l {x y : World} {a b : Nat} (h : Mod [a, b] x y) (i : Nat) (v : Value) : Mod [a, b] x (y.setCell ⟨a, i, none⟩ v) := h.setCell _ _ (.inl (by simp))
theorem Mod.set_r {x y : World} {a b : Nat} (h : Mod [a, b] x y) (i : Nat) (v : Value) : Mod [a, b] x (y.setCell ⟨b, i, none⟩ v) := h.setCell _ _ (.inl (by simp))
theorem Mod.set_new {x y : World} {S : List Nat} (h : Mod S x y) (c i : Nat) (v : Value) (hc : x.heap.size ≤ c) : Mod S x (y.setCell ⟨c, i, none⟩ v) := h.setCell _ _ (.inr hc)
theorem Mod.weak {x y : World} (S : List Nat) (h : Mod [] x y) : Mod S x y := h.mono (by simp)
theorem Mod.fresh {x y : World} {S : List Nat} (h : Mod S x y) (hs : ∀ k ∈ S, x.heap.size ≤ k) : Mod [] x y := h.mono (fun k hk => .inr (hs k hk))
theorem Mod.then {x y z : World} {S R : List Nat} (h : Mod S x y) (k : Mod R y z) (hs : ∀ n ∈ R, n ∈ S ∨ x.heap.size ≤ n) : Mod S x z :=
  ⟨k.os.trans h.os, k.tape.trans h.tape, k.output.trans h.output, Nat.le_trans h.size k.size,
    fun i hi hn => (k.block i (Nat.lt_of_lt_of_le hi h.size) (fun hr => (hs i hr).elim hn (fun h' => by omega))).trans (h.block i hi hn)⟩
theorem mem_l {a b : Nat} : a ∈ [a, b] := by simp
theorem mem_r {a b : Nat} : b ∈ [a, b] := by simp

/-- A memory that has just been made. -/
def MemS.fresh (n : Nat) : MemS := { ws := List.replicate n 0, op := false, ct := 0 }

theorem info28 : (Try.prog.info? 28).map (fun i => (i.zero, i.size, i.bytes)) = some (some (.int .u64 0), 1, 8) := by kernel_rfl

theorem madeCells_one (v : Value) (n : Nat) : madeCells #[v] n = (List.replicate n v).toArray := by
  apply Array.ext
  · simp [size_madeCells]
  · intro i h1 h2
    simp [madeCells, Nat.mod_one]

theorem u64s_zero (n : Nat) : (List.replicate n (Value.int .u64 0)).toArray = u64s (List.replicate n 0) := by
  simp [u64s]

/-- 'make([]uint64, n)'. -/
theorem make_u64 (n : Nat) (hn : n ≤ 4096) (w : World) :
    (Instr.makeSlice 36 (.int .i64 n) (.int .i64 n)).run Try.prog w = .ok (.slice (some ⟨w.heap.size, 0, none⟩) n n) (w.alloc (.cells (u64s (List.replicate n 0)) 28)) := by
  obtain ⟨i0, hi, hz0, hz1, hz2⟩ := info_parts info28
  have h := run_make (P := Try.prog) w 36 28 i0 (.int .u64 0) Try.underlying36 hi hz0 .i64 .i64 n n (by omega) (by omega) (by rw [hz2]; omega) (by omega)
  rw [hz1] at h
  simpa only [Value.cells, madeCells_one, u64s_zero, Int.toNat_natCast, Nat.mul_one] using h

theorem setRow_alloc (w : World) (A B : Array Value) (t : TypeId) (f : Nat × Nat) : (w.alloc (.cells A t f)).setRow w.heap.size B = w.alloc (.cells B t f) := by
  have h : ((w.heap.push (.cells A t f)).modify w.heap.size fun | .cells _ t f => .cells B t f | o => o) = w.heap.push (.cells B t f) := by
    apply Array.ext
    · simp
    · intro i h1 h2
      rw [Array.getElem_modify]
      by_cases hi : i = w.heap.size
      · subst hi; simp
      · rw [if_neg (Ne.symm hi), Array.getElem_push_lt (by simp at h1; omega), Array.getElem_push_lt (by simp at h1; omega)]
  unfold World.setRow World.alloc
  exact congrArg (fun h => ({ w with heap := h } : World)) h

theorem u64s_one (l : List Int) : ∀ v ∈ l.map (Value.int .u64), v.oneCell' = true := by
  intro v hv
  obtain ⟨x, _, rfl⟩ := List.mem_map.1 hv
  rfl

/-- 'copy(l, m.words)' of a list that has just been made. -/
theorem copy_u64 (l : List Int) (b : Nat) (w : World) (ty : TypeId) (hw : w.heap[b]? = some (.cells (u64s l) 28 (0, 0))) :
    (Builtin.copy_ #[36, 36] ty #[.slice (some ⟨w.heap.size, 0, none⟩) l.length l.length, .slice (some ⟨b, 0, none⟩) l.length l.length]).run Try.prog (w.alloc (.cells (u64s (List.replicate l.length 0)) 28)) =
      .ok (goInt l.length) (w.alloc (.cells (u64s l) 28)) := by
  have hs : (Try.prog.info? 28).map (·.size) = some 1 := by kernel_rfl
  have h := run_copy_row Try.prog (w.alloc (.cells (u64s (List.replicate l.length 0)) 28)) 36 36 ty 28 w.heap.size 0 l.length l.length ⟨b, 0, none⟩ l.length l.length
    (u64s (List.replicate l.length 0)) 28 (l.map (Value.int .u64)) Try.underlying36 hs (heap_alloc_new _ _) (by simp)
    (fun j v hv => by
      rw [show ((⟨b, 0, none⟩ : Addr).add j) = ⟨b, j, none⟩ by unfold Addr.add; split <;> simp_all]
      refine cell_of_blk (blk_alloc_old _ hw) ?_
      simpa [u64s] using hv) (by simp [u64s]) (u64s_one l)
  rw [setRow_alloc] at h
  simpa [u64s] using h

theorem MemAt.mk_fresh (w : World) (n : Nat) (hn : n ≤ 4096) (t : TypeId) :
    MemAt t ((w.alloc (.cells (u64s (List.replicate n 0)) 28)).alloc (.cells #[.slice (some ⟨w.heap.size, 0, none⟩) n n, .bool false, .int .i64 0] t)) (w.heap.size + 1) w.heap.size (.fresh n) := by
  refine ⟨?_, ?_, by omega, by simpa [MemS.fresh] using hn⟩
  · have h := heap_alloc_new (w.alloc (.cells (u64s (List.replicate n 0)) 28)) (.cells #[.slice (some ⟨w.heap.size, 0, none⟩) n n, .bool false, .int .i64 0] t)
    rw [World.size_alloc] at h
    simpa [MemS.fresh] using h
  · exact blk_alloc_old _ (heap_alloc_new _ _)
end Go.Proofs.Ytobmgnoceacoaaa

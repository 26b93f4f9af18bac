/- Lists that the call itself makes: append, []uint64, []int, []float64. -/
import Derived.Test.YtobmgnoceacoaaaBase
namespace Go.Proofs.Ytobmgnoceacoaaa
open Go.RowKit

theorem Mod.grown {S : List Nat} {a b c : World} {row : Option Nat} (h : Mod S a b) (hg : b.grownBy c row) (hr : ∀ k, row = some k → k ∈ S ∨ a.heap.size ≤ k) : Mod S a c :=
  ⟨hg.os.trans h.os, hg.tape.trans h.tape, hg.output.trans h.output, Nat.le_trans h.size hg.size,
    fun i hi hs => (hg.block i (Nat.lt_of_lt_of_le hi h.size) (fun e => (hr i e.symm).elim hs (fun h' => by omega))).trans (h.block i hi hs)⟩

theorem owns_form {w : World} {base : Nat} {e : TypeId} {size n : Nat} {v : Value} {xs : List Value} (h : w.ownsRow base e size v n xs) (hn : 0 < n) :
    ∃ g cap, v = .slice (some ⟨g, 0, none⟩) n cap ∧ base ≤ g := by
  rcases h.2 with ⟨_, h0⟩ | ⟨g, cap, cur, hv, hb, _⟩
  · omega
  · exact ⟨g, cap, hv, hb⟩

theorem owns_len {w : World} {base : Nat} {e : TypeId} {size n : Nat} {v : Value} {xs : List Value} (h : w.ownsRow base e size v n xs) :
    ∃ a cap, v = .slice a n cap := by
  rcases h.2 with ⟨hv, h0⟩ | ⟨g, cap, cur, hv, hb, _⟩
  · exact ⟨none, 0, by rw [hv, h0]⟩
  · exact ⟨_, cap, hv⟩

/-- A whole row of one-cell elements is owned. -/
theorem owns_whole {w : World} {g n : Nat} {e : TypeId} {cur : Array Value} (hg : w.heap[g]? = some (.cells cur e (0, 0))) (hc : cur.size = n) (hn : n ≤ maxLen) {base : Nat} (hb : base ≤ g) :
    w.ownsRow base e 1 (.slice (some ⟨g, 0, none⟩) n n) n cur.toList :=
  ⟨by simpa using hc, .inr ⟨g, n, cur, rfl, hb, hg, Nat.le_refl _, hn, by simpa using hc, by rw [List.take_of_length_le (by simp [hc])]⟩⟩

theorem info3 : (Try.prog.info? 3).map (fun i => (i.zero, i.size, i.bytes)) = some (some (.int .i64 0), 1, 8) := by kernel_rfl

theorem cell_two (w : World) (x y : Value) (t : TypeId) : ∀ j u, [x, y][j]? = some u → (w.alloc (.cells #[x, y] t)).cell? ((⟨w.heap.size, 0, none⟩ : Addr).add j) = some u := by
  intro j u hj
  match j, hj with
  | 0, hj => simp at hj; subst hj; simp [Addr.add]
  | 1, hj => simp at hj; subst hj; simp [Addr.add]

/-- Behind an append: what is owned, and what it did to the world, with what this is good for. -/
structure Appended (base : Nat) (e : TypeId) (w w' : World) (v v' : Value) (n : Nat) (xs : List Value) : Prop where
  owns : w'.ownsRow base e 1 v' n xs
  grown : w.grownBy w' v.ownBlock

theorem Appended.form {base : Nat} {e : TypeId} {w w' : World} {v v' : Value} {n : Nat} {xs : List Value} (h : Appended base e w w' v v' n xs) (hn : 0 < n) :
    ∃ g cap, v' = .slice (some ⟨g, 0, none⟩) n cap ∧ base ≤ g := owns_form h.owns hn

/-- What an append does to a frame, if the row appended to is one of the call's own. -/
theorem Mod.appended {S : List Nat} {a b c : World} {base : Nat} {e : TypeId} {v v' : Value} {n m : Nat} {xs ys : List Value} (h : Mod S a b) (o : Obj) (ho : b.ownsRow base e 1 v n xs) (hb : a.heap.size ≤ base)
    (hg : Appended base e (b.alloc o) c v v' m ys) : Mod S a c :=
  (h.alloc o).grown hg.grown (fun k hk => .inr (Nat.le_trans hb (ho.lt k hk).1))

/-- What an append leaves of the blocks below its base. -/
theorem Appended.keep {b c : World} {base : Nat} {e : TypeId} {v v' : Value} {n m : Nat} {xs ys : List Value} {o : Obj} (hg : Appended base e (b.alloc o) c v v' m ys) (ho : b.ownsRow base e 1 v n xs)
    {k : Nat} (hk : k < base) (hs : k < b.heap.size) : c.heap[k]? = b.heap[k]? :=
  (hg.grown.block k (by simp; omega) (fun e => by have := (ho.lt k e.symm).1; omega)).trans (Below.heap_alloc b o k hs)

theorem wp_append {P : Program} {w : World} {ops : Array Oper} {rest : List Oper} {o : Oper} {a : Act} {Q : Exit → Act → World → Prop} (hgd : o.guard = none) (d s : Operand) (t : TypeId)
    (ho : o.op = .call { callee := .builtin .append, args := #[d, s], argTypes := #[t, t] }) (base e : Nat) (i : TypeInfo) (z : Value) (ht : P.underlying t = some (.slice e)) (hi : P.info? e = some i) (hz : i.zero = some z)
    (hs : i.size = 1) (hby : i.bytes = 8) (hzs : z.cells.size = 1) (v : Value) (n : Nat) (xs : List Value) (hv : a.eval d = v) (hown : w.ownsRow base e 1 v n xs)
    (p : Addr) (m c : Nat) (news : List Value) (hsv : a.eval s = .slice (some p) m c) (hl : news.length = m)
    (hnews : ∀ j u, news[j]? = some u → w.cell? (p.add j) = some u) (h1 : ∀ u ∈ news, u.oneCell' = true) (hb : (n + m) * 8 ≤ 140737488355328) (hbase : base ≤ w.heap.size)
    (h : ∀ v' w', Appended base e w w' v v' (n + m) (xs ++ news) → wpList P ops Q rest (a.put o.dst v') w') : wpList P ops Q (o :: rest) a w :=
  wpList_append_own _ hgd d s t ho base e i z 1 8 ht hi hz hs hby hzs (by decide) v n xs hv hown p m c news hsv (by simpa using hl) hnews h1 (by unfold maxLen; omega) hb hbase
    (fun v' w' h1 h2 _ => h v' w' ⟨h1, h2⟩)
end Go.Proofs.Ytobmgnoceacoaaa

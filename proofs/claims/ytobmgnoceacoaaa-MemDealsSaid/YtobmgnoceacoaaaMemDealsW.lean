/- MemDeals: the walk. -/
import Derived.Test.YtobmgnoceacoaaaMQ
import Derived.Test.YtobmgnoceacoaaaLive03
import Derived.Test.YtobmgnoceacoaaaList
import Derived.Deep.QuietTactic
import Derived.BigQuiet
namespace Go.Proofs.Ytobmgnoceacoaaa
open Go.RowKit

theorem len_q {a b : Nat} {s : MemS} {w : World} (hM : MemAt 142 w a b s) :
    Calls Try.prog 24 #[.pointer (some ⟨a, 0, none⟩)] w fun e w' => e = .returned (.int .i64 s.ws.length) ∧ w' = w := by
  have ha := hM.lta
  obtain ⟨h0, -, -, -, -⟩ := hM.cells
  go_enter Try.func24, Try.ntmps24
  go_wp2
  go_ret
  exact ⟨rfl, rfl⟩

theorem MemAt.drewN {t : TypeId} {w : World} {a b : Nat} {s : MemS} (h : MemAt t w a b s) (n : Nat) : MemAt t (w.drewN n) a b s := ⟨h.hd, h.ws, h.ne, h.len⟩
theorem Mod.drewN {S : List Nat} {a b : World} (h : Mod S a b) (n : Nat) : Mod S a (b.drewN n) := ⟨h.os, h.tape, h.output, h.size, h.block⟩
theorem len_w {a b n C : Nat} {s : MemS} {w : World} (hM : MemAt 142 w a b s) (h : Hid (s.ws.length = 3 + n + 3 * C)) :
    Calls Try.prog 24 #[.pointer (some ⟨a, 0, none⟩)] w fun e w' => e = .returned (.int .i64 (3 + (n : Int) + 3 * (C : Int))) ∧ w' = w :=
  (len_q hM).mono fun _ _ ⟨he, hw⟩ => ⟨by rw [he, h.out]; simp, hw⟩
theorem owns_cell {w : World} {base g n cap : Nat} {e : TypeId} {xs : List Value} (h : w.ownsRow base e 1 (.slice (some ⟨g, 0, none⟩) n cap) n xs) (j : Nat) (u : Value) (hu : xs[j]? = some u) : w.cell? ⟨g, j, none⟩ = some u := by
  have := h.cells (g := g) rfl j u hu
  rwa [show ((⟨g, 0, none⟩ : Addr).add j) = ⟨g, j, none⟩ by unfold Addr.add; split <;> simp_all] at this
/-- The numbers 0 .. n-1. -/
def upto (n : Nat) : List Value := (List.range n).map fun (i : Nat) => Value.int .i64 (i : Int)
theorem upto_succ (n : Nat) : upto (n + 1) = upto n ++ [Value.int .i64 (n : Int)] := by simp [upto, List.range_succ]
theorem upto_len (n : Nat) : (upto n).length = n := by simp [upto]
theorem upto_get (n i : Nat) (h : i < n) : (upto n)[i]? = some (Value.int .i64 (i : Int)) := by simp [upto, h]

def i64s (l : List Int) : Array Value := (l.map (Value.int .i64)).toArray
theorem i64s_get (l : List Int) (i : Nat) (h : i < l.length) : (i64s l)[i]? = some (.int .i64 (l.getD i 0)) := by simp [i64s, h]
theorem i64s_set (l : List Int) (i : Nat) (v : Int) : (i64s l).setIfInBounds i (.int .i64 v) = i64s (l.set i v) := by simp [i64s, List.map_set]
def zeros (n : Nat) : List Int := List.replicate n 0
theorem i64s_zero (n : Nat) : (List.replicate n (Value.int .i64 0)).toArray = i64s (zeros n) := by simp [i64s, zeros]
theorem zeros_len (n : Nat) : (zeros n).length = n := by simp [zeros]
theorem zeros_get (n j : Nat) : (zeros n).getD j 0 = 0 := by
  simp only [zeros, List.getD_eq_getElem?_getD, List.getElem?_replicate]
  split <;> rfl
theorem make_i64 (n : Nat) (hn : n ≤ 4096) (w : World) :
    (Instr.makeSlice 44 (.int .i64 n) (.int .i64 n)).run Try.prog w = .ok (.slice (some ⟨w.heap.size, 0, none⟩) n n) (w.alloc (.cells (i64s (zeros n)) 3)) := by
  obtain ⟨i0, hi, hz0, hz1, hz2⟩ := info_parts info3
  have h := run_make (P := Try.prog) w 44 3 i0 (.int .i64 0) Try.underlying44 hi hz0 .i64 .i64 n n (by omega) (by omega) (by rw [hz2]; omega) (by omega)
  rw [hz1] at h
  simpa only [Value.cells, madeCells_one, i64s_zero, Int.toNat_natCast, Nat.mul_one] using h

/-- From place k on all is 0. -/
def Clear (w : World) (g k : Nat) : Prop := ∃ l : List Int, l.length = 779 ∧ (∀ j, k ≤ j → l.getD j 0 = 0) ∧ w.heap[g]? = some (.cells (i64s l) 3 (0, 0))
theorem Clear.cell {w : World} {g k : Nat} (h : Clear w g k) (hk : k < 779) : w.cell? ⟨g, k, none⟩ = some (.int .i64 0) ∧ w.frozen? ⟨g, k, none⟩ = false := by
  obtain ⟨l, hl, h0, hg⟩ := h
  exact ⟨by rw [← h0 k (Nat.le_refl _)]; exact cell_of_blk hg (i64s_get _ _ (by omega)), free_of_blk hg⟩
theorem Clear.set {w : World} {g k : Nat} (h : Clear w g k) : Clear (w.setCell ⟨g, k, none⟩ (.int .i64 1)) g (k + 1) := by
  obtain ⟨l, hl, h0, hg⟩ := h
  refine ⟨l.set k 1, by simpa using hl, fun j hj => ?_, by rw [← i64s_set]; exact blk_setCell_same _ hg⟩
  have := h0 j (by omega)
  simp only [List.getD_eq_getElem?_getD, List.getElem?_set] at this ⊢
  rw [if_neg (by omega)]; exact this
theorem Clear.alloc {w : World} {g k : Nat} (h : Clear w g k) (x : Obj) : Clear (w.alloc x) g k := by
  obtain ⟨l, hl, h0, hg⟩ := h
  exact ⟨l, hl, h0, blk_alloc_old _ hg⟩
theorem Clear.mod {w w' : World} {g k : Nat} {S : List Nat} (h : Clear w g k) (hm : Mod S w w') (hs : g ∉ S) : Clear w' g k := by
  obtain ⟨l, hl, h0, hg⟩ := h
  exact ⟨l, hl, h0, hm.at hg hs⟩
theorem Clear.lt {w : World} {g k : Nat} (h : Clear w g k) : g < w.heap.size := by
  obtain ⟨l, hl, h0, hg⟩ := h
  exact lt_of_block hg

set_option maxHeartbeats 1000000 in
theorem memDeals_bad (c t f k : Int) (h : ¬ CfgOk c t f k) (w : World) :
    Calls Try.prog 7 #[.agg #[.int .i64 c, .int .i64 t, .int .i64 f, .int .i64 k]] w fun e w' => e = .returned (.bool true) ∧ Mod [] w w' := by
  go_enter Try.func7, Try.ntmps7
  go_wp2_with fail
  refine (live03 _).mono ?_; rintro e w1 ⟨rfl, d1⟩
  have B1 : w1.heap[w.heap.size]? = some (.cells #[.int .i64 c, .int .i64 t, .int .i64 f, .int .i64 k] 40 (0, 0)) := d1.at (heap_alloc_new _ _) (by simp)
  have b1_0 := cell_of_blk (i := 0) B1 rfl
  have b1_1 := cell_of_blk (i := 1) B1 rfl
  have b1_2 := cell_of_blk (i := 2) B1 rfl
  have b1_3 := cell_of_blk (i := 3) B1 rfl
  have z1 := lt_of_block B1
  have D1 : Mod [] w w1 := ((Mod.refl _ _).alloc _).trans d1
  clear d1
  go_wp2_with fail
  refine (place_bad c t f k h _).mono ?_; rintro e w2 ⟨rfl, d2⟩
  have D2 := D1.trans d2
  clear D1 d2 B1 h b1_0 b1_1 b1_2 b1_3
  go_wp2
  go_ret
  exact ⟨rfl, (by repeat (first | with_reducible exact Mod.refl _ _ | with_reducible assumption | with_reducible refine Mod.drew ?_ | with_reducible refine Mod.alloc ?_ _ | with_reducible refine Mod.set_new ?_ _ _ _ (by simp)))⟩

/-- What the loops keep: the config in block B, the plan in block P. -/
structure Keep (w : World) (B P C T : Nat) (f k : Int) : Prop where
  cfg : w.heap[B]? = some (.cells #[.int .i64 (C : Int), .int .i64 (T : Int), .int .i64 f, .int .i64 k] 40 (0, 0))
  plan : w.heap[P]? = some (.cells #[.int .i64 0, .int .i64 1, .int .i64 2, .int .i64 3, .int .i64 (3 + (T : Int)), .int .i64 (3 + (T : Int) + 3 * (C : Int))] 35 (0, 0))
theorem Keep.eqv {w w' : World} {B P C T : Nat} {f k : Int} (h : Keep w B P C T f k) (h1 : w'.heap[B]? = w.heap[B]?) (h2 : w'.heap[P]? = w.heap[P]?) : Keep w' B P C T f k := ⟨h1.trans h.cfg, h2.trans h.plan⟩
theorem Keep.lt {w : World} {B P C T : Nat} {f k : Int} (h : Keep w B P C T f k) : B < w.heap.size ∧ P < w.heap.size := ⟨lt_of_block h.cfg, lt_of_block h.plan⟩
theorem Keep.cells {w : World} {B P C T : Nat} {f k : Int} (h : Keep w B P C T f k) : w.cell? ⟨B, 0, none⟩ = some (.int .i64 C) ∧ w.cell? ⟨B, 1, none⟩ = some (.int .i64 T) ∧
    w.cell? ⟨P, 3, none⟩ = some (.int .i64 3) ∧ w.cell? ⟨P, 4, none⟩ = some (.int .i64 (3 + (T : Int))) ∧ w.cell? ⟨P, 5, none⟩ = some (.int .i64 (3 + (T : Int) + 3 * (C : Int))) :=
  ⟨cell_of_blk h.cfg rfl, cell_of_blk h.cfg rfl, cell_of_blk h.plan rfl, cell_of_blk h.plan rfl, cell_of_blk h.plan rfl⟩
theorem Clear.eqv {w w' : World} {g k : Nat} (h : Clear w g k) (h1 : w'.heap[g]? = w.heap[g]?) : Clear w' g k := by
  obtain ⟨l, hl, h0, hg⟩ := h
  exact ⟨l, hl, h0, h1.trans hg⟩
theorem start_owns (w : World) (a b : Obj) : (((w.alloc a).alloc b).alloc (.cells #[.int .i64 0, .int .i64 1, .int .i64 2] 3)).ownsRow (w.heap.size + 2) 3 1 (.slice (some ⟨w.heap.size + 1 + 1, 0, none⟩) 3 3) (3 + 0) (upto (3 + 0)) := by
  have h := heap_alloc_new ((w.alloc a).alloc b) (.cells #[.int .i64 0, .int .i64 1, .int .i64 2] 3)
  simp only [World.size_alloc] at h
  exact owns_whole (n := 3) h rfl (by decide) (by omega)
theorem start_clear (w : World) (a b : Obj) : (((w.alloc a).alloc (.cells (i64s (zeros 779)) 3)).alloc b : World).heap[w.heap.size + 1]? = some (.cells (i64s (zeros 779)) 3 (0, 0)) := by
  have h := heap_alloc_new (w.alloc a) (.cells (i64s (zeros 779)) 3)
  simp only [World.size_alloc] at h
  exact blk_alloc_old _ h
theorem Clear.of {w : World} {g : Nat} (h : w.heap[g]? = some (.cells (i64s (zeros 779)) 3 (0, 0))) : Clear w g 0 := ⟨zeros 779, zeros_len _, fun _ _ => zeros_get _ _, h⟩
theorem next_owns {w : World} {base n : Nat} {v : Value} (h : w.ownsRow base 3 1 v (3 + n + 1) (upto (3 + n) ++ [.int .i64 (3 + (n : Int))])) : w.ownsRow base 3 1 v (3 + (n + 1)) (upto (3 + (n + 1))) := by
  rw [← Nat.add_assoc, upto_succ, show (((3 + n : Nat) : Int)) = 3 + (n : Int) from by omega]; exact h
theorem next_owns2 {w : World} {base n m : Nat} {v : Value} (h : w.ownsRow base 3 1 v (3 + n + m + 1) (upto (3 + n + m) ++ [.int .i64 (3 + (n : Int) + (m : Int))])) : w.ownsRow base 3 1 v (3 + n + (m + 1)) (upto (3 + n + (m + 1))) := by
  rw [← Nat.add_assoc, upto_succ, show (((3 + n + m : Nat) : Int)) = 3 + (n : Int) + (m : Int) from by omega]; exact h
theorem Keep.mod {w w' : World} {B P C T : Nat} {f k : Int} {S : List Nat} (h : Keep w B P C T f k) (hm : Mod S w w') (h1 : B ∉ S) (h2 : P ∉ S) : Keep w' B P C T f k := ⟨hm.at h.cfg h1, hm.at h.plan h2⟩

set_option maxRecDepth 100000 in
set_option maxHeartbeats 4000000 in
theorem memDeals_ok (C T : Nat) (f k : Int) (h : CfgOk C T f k) (w : World) :
    Calls Try.prog 7 #[.agg #[.int .i64 (C : Int), .int .i64 (T : Int), .int .i64 f, .int .i64 k]] w fun e w' => e = .returned (.bool true) ∧ Mod [] w w' := by
  have hmk : ∀ w : World, (Instr.makeSlice 44 (.int .i64 779) (.int .i64 779)).run Try.prog w = .ok (.slice (some ⟨w.heap.size, 0, none⟩) 779 779) (w.alloc (.cells (i64s (zeros 779)) 3)) := make_i64 779 (by omega)
  have hc1 : C ≤ 256 := by unfold CfgOk at h; omega
  have ht1 : T ≤ 8 := by unfold CfgOk at h; omega
  have hc0 : 1 ≤ C := by unfold CfgOk at h; omega
  have ht0 : 1 ≤ T := by unfold CfgOk at h; omega
  go_enter Try.func7, Try.ntmps7
  go_wp2_with fail
  refine (live03 _).mono ?_; rintro e w1 ⟨rfl, d1⟩
  have B1 : w1.heap[w.heap.size]? = some (.cells #[.int .i64 (C : Int), .int .i64 (T : Int), .int .i64 f, .int .i64 k] 40 (0, 0)) := d1.at (heap_alloc_new _ _) (by simp)
  have b1_0 := cell_of_blk (i := 0) B1 rfl
  have b1_1 := cell_of_blk (i := 1) B1 rfl
  have b1_2 := cell_of_blk (i := 2) B1 rfl
  have b1_3 := cell_of_blk (i := 3) B1 rfl
  have z1 := lt_of_block B1
  have D1 : Mod [] w w1 := ((Mod.refl _ _).alloc _).trans d1
  clear d1
  go_wp2_with fail
  refine (place_ok C T f k h _).mono ?_; rintro e w2 ⟨rfl, d2⟩
  have B2 := d2.at B1 (by simp)
  have z2 := lt_of_block B2
  have D2 := D1.trans d2
  clear D1 d2 B1 h b1_0 b1_1 b1_2 b1_3
  have b2_0 := cell_of_blk (i := 0) B2 rfl
  have b2_1 := cell_of_blk (i := 1) B2 rfl
  have b2_2 := cell_of_blk (i := 2) B2 rfl
  have b2_3 := cell_of_blk (i := 3) B2 rfl
  go_wp2_with fail
  go_loopw [7, 8] (fun l i wr => ∃ n : Nat, n ≤ T ∧ i = .int .i64 n ∧ wr.ownsRow (w2.heap.size + 2) 3 1 l (3 + n) (upto (3 + n)) ∧ Keep wr w.heap.size w2.heap.size C T f k ∧ Clear wr (w2.heap.size + 1) 0 ∧ Mod [] w wr) (fun _ i _ => T - (intOf i).toNat)
  case atStart =>
    exact ⟨0, Nat.zero_le _, rfl, start_owns _ _ _, ⟨blk_alloc_old _ (blk_alloc_old _ (blk_alloc_old _ B2)), blk_alloc_old _ (blk_alloc_old _ (heap_alloc_new _ _))⟩, Clear.of (start_clear _ _ _), ((D2.alloc _).alloc _).alloc _⟩
  case round =>
    obtain ⟨n, hn, rfl, hown, hK, hC, dr⟩ := hrel
    obtain ⟨c0, c1, p3, p4, p5⟩ := hK.cells
    have hKl := hK.lt
    have hCl := hC.lt
    obtain ⟨i0, hi0, hz0, hz1, hz2⟩ := info_parts info3
    by_cases hlt : n < T
    · go_wp2_with (at_builtin; refine wp_append rfl _ _ 44 rfl (w2.heap.size + 2) 3 i0 (.int .i64 0) Try.underlying44 hi0 hz0 hz1 hz2 rfl _ _ _ rfl (hown.alloc _) ⟨wr.heap.size, 0, none⟩ 1 1 [.int .i64 (3 + (n : Int))] rfl rfl ?c1 ?c2 ?c3 ?c4 ?_)
      case c1 => exact cell_one_new _ _ _
      case c2 => intro u hu; simp at hu; subst hu; rfl
      case c3 => omega
      case c4 => simp; omega
      intro v' w' hap
      have hown2 := next_owns hap.owns
      have hK2 := hK.eqv (hap.keep hown (by omega) hKl.1) (hap.keep hown (by omega) hKl.2)
      have hC2 := hC.eqv (hap.keep hown (by omega) hCl)
      have dr2 := dr.appended _ hown (by have := D2.size; omega) hap
      clear hap hown hK hC dr
      go_wp2
      go_roundw
      case rel => exact ⟨n + 1, by omega, by go_num, hown2, hK2, hC2, dr2⟩
      case measure => simp [intOf]; omega
    · obtain rfl : n = T := by omega
      obtain ⟨wa, rfl⟩ : ∃ wa : World, wa = wr := ⟨_, rfl⟩
      go_wp2_with fail
      clear hlt hn c0 c1 p3 p4 p5
      go_loopw [7, 9] (fun l i wr => ∃ m : Nat, m ≤ 3 * C ∧ i = .int .i64 m ∧ wr.ownsRow (w2.heap.size + 2) 3 1 l (3 + n + m) (upto (3 + n + m)) ∧ Keep wr w.heap.size w2.heap.size C n f k ∧ Clear wr (w2.heap.size + 1) 0 ∧ Mod [] w wr) (fun _ i _ => 3 * C - (intOf i).toNat)
      case atStart => exact ⟨0, Nat.zero_le _, rfl, hown, hK, hC, dr⟩
      case round =>
        clear hown hK hC dr hKl hCl
        obtain ⟨m, hm, rfl, hown, hK, hC, dr⟩ := hrel
        obtain ⟨c0, c1, p3, p4, p5⟩ := hK.cells
        have hKl := hK.lt
        have hCl := hC.lt
        by_cases hlt : m < 3 * C
        · go_wp2_with (at_builtin; refine wp_append rfl _ _ 44 rfl (w2.heap.size + 2) 3 i0 (.int .i64 0) Try.underlying44 hi0 hz0 hz1 hz2 rfl _ _ _ rfl (hown.alloc _) ⟨wr.heap.size, 0, none⟩ 1 1 [.int .i64 (3 + (n : Int) + (m : Int))] rfl rfl ?c1 ?c2 ?c3 ?c4 ?_)
          case c1 => exact cell_one_new _ _ _
          case c2 => intro u hu; simp at hu; subst hu; rfl
          case c3 => omega
          case c4 => simp; omega
          intro v' w' hap
          have hown2 := next_owns2 hap.owns
          have hK2 := hK.eqv (hap.keep hown (by omega) hKl.1) (hap.keep hown (by omega) hKl.2)
          have hC2 := hC.eqv (hap.keep hown (by omega) hCl)
          have dr2 := dr.appended _ hown (by have := D2.size; omega) hap
          clear hap hown hK hC dr
          go_wp2
          go_roundw
          case rel => exact ⟨m + 1, by omega, by go_num, hown2, hK2, hC2, dr2⟩
          case measure => simp [intOf]; omega
        · have hge : 3 * C ≤ m := by omega
          obtain ⟨q, rfl⟩ : ∃ q, q = m := ⟨_, rfl⟩
          obtain ⟨g, cap, hv, hg⟩ := owns_form hown (by omega)
          rw [hv]
          rw [hv] at hown
          clear hv
          have hnn : 3 + n + q ≤ 779 := by omega
          obtain ⟨wb, rfl⟩ : ∃ wb : World, wb = wr := ⟨_, rfl⟩
          go_wp2_with fail
          clear hlt c0 c1 p3 p4 p5
          go_loopw [77] (fun i wr => ∃ m : Nat, m ≤ 3 + n + q ∧ i = .int .i64 m ∧ wr.ownsRow (w2.heap.size + 2) 3 1 (.slice (some ⟨g, 0, none⟩) (3 + n + q) cap) (3 + n + q) (upto (3 + n + q)) ∧ Keep wr w.heap.size w2.heap.size C n f k ∧ Clear wr (w2.heap.size + 1) m ∧ Mod [] w wr) (fun i _ => 3 + n + q - (intOf i).toNat)
          case atStart => exact ⟨0, Nat.zero_le _, rfl, hown, hK, hC, dr⟩
          case round =>
            clear hown hK hC dr hKl hCl
            obtain ⟨m, hm', rfl, hown, hK, hC, dr⟩ := hrel
            obtain ⟨c0, c1, p3, p4, p5⟩ := hK.cells
            have hKl := hK.lt
            have hCl := hC.lt
            by_cases hlt : m < 3 + n + q
            · obtain ⟨s0, s1⟩ := hC.cell (by omega)
              have lm := owns_cell hown m _ (upto_get _ m hlt)
              go_wp2
              go_roundw
              case rel => exact ⟨m + 1, by omega, by go_num, ownsRow_setCell_other hown (by simp [Value.ownBlock]; omega) _, ⟨blk_setCell_other _ hK.cfg (by have := D2.size; omega), blk_setCell_other _ hK.plan (by omega)⟩, hC.set, dr.set_new _ _ _ (by have := D2.size; omega)⟩
              case measure => simp [intOf]; omega
            · go_wp2_with fail
              refine (new_e (3 + (n : Int) + 3 * (C : Int)) (by omega) (by omega) _).mono ?_; rintro e w5 ⟨ma, mb, rfl, M5, ha, hb, d5⟩
              have hK5 := hK.mod d5 (by simp) (by simp)
              have D5 := dr.trans d5
              clear hK hC hown dr d5 c0 c1 p3 p4 p5
              obtain ⟨c0, c1, p3, p4, p5⟩ := hK5.cells
              have hN : (MemS.fresh (3 + (n : Int) + 3 * (C : Int)).toNat).ws.length = 3 + n + 3 * C := by simp [MemS.fresh]; omega
              generalize MemS.fresh (3 + (n : Int) + 3 * (C : Int)).toNat = s at M5 hN
              have Hs := Lib.hid hN
              clear hN
              have hbq : ((3 + (n : Int) + (q : Int)) == 3 + (n : Int) + 3 * (C : Int)) = true := by simp; omega
              go_wp2_with fail
              go_quiet ((go_at_call 24; exact Calls.quiet_of_same (len_w (M5.drewN _) Hs)))
              go_wp2
              go_ret
              exact ⟨rfl, D5.drewN _⟩

theorem memDeals_walk (c t f k : Int) (w : World) :
    Calls Try.prog 7 #[.agg #[.int .i64 c, .int .i64 t, .int .i64 f, .int .i64 k]] w fun e w' => e = .returned (.bool true) ∧ Mod [] w w' := by
  by_cases h : CfgOk c t f k
  · obtain ⟨C, rfl⟩ := Int.eq_ofNat_of_zero_le (by unfold CfgOk at h; omega : 0 ≤ c)
    obtain ⟨T, rfl⟩ := Int.eq_ofNat_of_zero_le (by unfold CfgOk at h; omega : 0 ≤ t)
    exact memDeals_ok C T f k h w
  · exact memDeals_bad c t f k h w

end Go.Proofs.Ytobmgnoceacoaaa

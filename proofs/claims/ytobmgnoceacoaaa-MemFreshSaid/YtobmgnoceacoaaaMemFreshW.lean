/- MemFresh: the walk. -/
import Derived.Test.YtobmgnoceacoaaaLive03
import Derived.Test.YtobmgnoceacoaaaList
namespace Go.Proofs.Ytobmgnoceacoaaa
open Go.RowKit

set_option maxHeartbeats 1000000 in
theorem memFresh_bad (n v : Int) (hn : n < 1 ∨ 4096 < n) (w : World) : Calls Try.prog 5 #[.int .i64 n, .int .u64 v] w fun e w' => e = .returned (.bool true) ∧ Mod [] w w' := by
  go_enter Try.func5, Try.ntmps5
  go_wp2_with fail
  refine (live03 _).mono ?_; rintro e w1 ⟨rfl, d1⟩
  go_wp2_with fail
  refine (new_bad n hn _).mono ?_; rintro e w1 ⟨rfl, rfl⟩
  go_wp2
  go_ret
  exact ⟨rfl, d1⟩

theorem fresh_zero (n i : Nat) : (MemS.fresh n).ws.getD i 0 = 0 := by
  simp only [MemS.fresh, List.getD_eq_getElem?_getD, List.getElem?_replicate]
  split <;> rfl

/-- A list of words of length n in block g. -/
def Row (w : World) (g n : Nat) : Prop := ∃ l : List Int, l.length = n ∧ w.heap[g]? = some (.cells (u64s l) 28 (0, 0))
theorem Row.cell {w : World} {g n : Nat} (h : Row w g n) (i : Nat) (hi : i < n) : (∃ x, w.cell? ⟨g, i, none⟩ = some (.int .u64 x)) ∧ w.frozen? ⟨g, i, none⟩ = false := by
  obtain ⟨l, hl, hg⟩ := h
  exact ⟨⟨_, cell_of_blk hg (u64s_get _ _ (by omega))⟩, free_of_blk hg⟩
theorem Row.owns {w : World} {g n : Nat} (h : Row w g n) (hn : n ≤ 4096) : ∃ xs : List Value, w.ownsRow g 28 1 (.slice (some ⟨g, 0, none⟩) n n) n xs := by
  obtain ⟨l, hl, hg⟩ := h
  exact ⟨_, owns_whole hg (by simpa [u64s] using hl) (by unfold maxLen; omega) (Nat.le_refl _)⟩
theorem Row.lt {w : World} {g n : Nat} (h : Row w g n) : g < w.heap.size := by
  obtain ⟨l, hl, hg⟩ := h
  exact lt_of_block hg
theorem Row.set {w : World} {g n : Nat} (h : Row w g n) (i : Nat) (v : Int) : Row (w.setCell ⟨g, i, none⟩ (.int .u64 v)) g n := by
  obtain ⟨l, hl, hg⟩ := h
  exact ⟨l.set i v, by simpa using hl, by rw [← u64s_set]; exact blk_setCell_same _ hg⟩

set_option maxHeartbeats 1000000 in
theorem memFresh_ok (n v : Int) (h1 : 1 ≤ n) (h2 : n ≤ 4096) (w : World) : Calls Try.prog 5 #[.int .i64 n, .int .u64 v] w fun e w' => e = .returned (.bool true) ∧ Mod [] w w' := by
  go_enter Try.func5, Try.ntmps5
  go_wp2_with fail
  refine (live03 _).mono ?_; rintro e w1 ⟨rfl, d1⟩
  go_wp2_with fail
  refine (new_e n h1 h2 _).mono ?_; rintro e w2 ⟨a, b, rfl, M2, ha, hb, d2⟩
  have Z := fresh_zero n.toNat
  generalize MemS.fresh n.toNat = s at M2 Z
  have Hz := Lib.hid Z; clear Z
  go_wp2_with fail
  refine (all_e M2).mono ?_; rintro e w3 ⟨g, rfl, G3, hg, M3, d3⟩
  have hsl := M3.len
  have R3 : Row w3 g s.ws.length := ⟨s.ws, rfl, G3⟩
  clear G3
  go_wp2_with fail
  go_loopw [9] (fun i wr => ∃ k : Nat, k ≤ s.ws.length ∧ i = .int .i64 k ∧ Row wr g s.ws.length ∧ Mod [g] w3 wr) (fun i _ => s.ws.length - (intOf i).toNat)
  case atStart => exact ⟨0, Nat.zero_le _, rfl, R3, Mod.refl _ _⟩
  case round =>
    obtain ⟨k, hk, rfl, Rr, dr⟩ := hrel
    by_cases hlt : k < s.ws.length
    · obtain ⟨⟨x, hx⟩, fx⟩ := Rr.cell k hlt
      go_wp2
      go_roundw
      case rel => exact ⟨k + 1, by omega, by go_num, Rr.set k _, dr.setCell _ _ (.inl (by simp))⟩
      case measure => simp [intOf]; omega
    · obtain ⟨xs, hown⟩ := Rr.owns hsl
      have hgl := Rr.lt
      have M4 : MemAt 142 wr a b s := M3.mod dr (by have := M2.lta; simp; omega) (by have := M2.ltb; simp; omega)
      obtain ⟨i0, hi0, hz0, hz1, hz2⟩ := info_parts info28
      go_wp2_with (at_builtin; refine wp_append rfl _ _ 36 rfl g 28 i0 (.int .u64 0) Try.underlying36 hi0 hz0 hz1 hz2 rfl _ _ xs rfl (hown.alloc _) ⟨wr.heap.size, 0, none⟩ 2 2 [.int .u64 v, .int .u64 v] rfl rfl ?c1 ?c2 ?c3 ?c4 ?_)
      case c1 => exact cell_two _ _ _ _
      case c2 => intro u hu; simp at hu; subst hu; rfl
      case c3 => omega
      case c4 => simp; omega
      intro v' w4 hap
      obtain ⟨g', cap, hv, -⟩ := hap.form (by omega)
      rw [hv]
      have d4 : Mod [g] w3 w4 := (dr.alloc _).grown hap.grown (fun k hk => .inl (by simp [Value.ownBlock] at hk; simp [hk]))
      have M5 : MemAt 142 w4 a b s := M3.mod d4 (by have := M2.lta; simp; omega) (by have := M2.ltb; simp; omega)
      clear hv hap hown M4 Rr dr R3 hk hlt
      go_wp2_with fail
      refine (all_e M5).mono ?_; rintro e w5 ⟨g2, rfl, G5, hg2, M6, d5⟩
      have Hc : Hid (∀ i, i < s.ws.length → w5.cell? ⟨g2, i, none⟩ = some (.int .u64 0)) := fun i hi => by
        have := cell_of_blk G5 (u64s_get _ _ hi)
        rwa [Hz.out i] at this
      clear G5
      go_wp2_with fail
      go_loop [11] (fun i => ∃ k : Nat, k ≤ s.ws.length ∧ i = .int .i64 k) (fun i => s.ws.length - (intOf i).toNat)
      case atStart => exact ⟨0, Nat.zero_le _, rfl⟩
      case round =>
        obtain ⟨k, hk, rfl⟩ := hrel
        by_cases hlt : k < s.ws.length
        · have hx := Hc.out k hlt
          go_wp2
          go_round
          case rel => exact ⟨k + 1, by omega, by go_num⟩
          case measure => simp [intOf]; omega
        · go_wp2_with fail
          refine (len_c M6).mono ?_; rintro e w6 ⟨rfl, M7, d6⟩
          go_wp2
          go_ret
          refine ⟨rfl, ?_⟩
          have z1 := d1.size
          have z2 := d2.size
          exact ((((d1.trans d2).trans d3).then d4 (by simp; omega)).trans d5).then d6 (by simp; omega)

theorem memFresh_walk (n v : Int) (w : World) : Calls Try.prog 5 #[.int .i64 n, .int .u64 v] w fun e w' => e = .returned (.bool true) ∧ Mod [] w w' := by
  by_cases h : n < 1 ∨ 4096 < n
  · exact memFresh_bad n v h w
  · exact memFresh_ok n v (by omega) (by omega) w
end Go.Proofs.Ytobmgnoceacoaaa

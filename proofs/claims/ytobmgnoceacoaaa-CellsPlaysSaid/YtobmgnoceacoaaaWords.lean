/- Lists of words: the reference's All; 'words' of each law package answers true of two lists that are alike. -/
import Derived.Test.YtobmgnoceacoaaaM1
import Derived.Test.YtobmgnoceacoaaaList
import Derived.Test.YtobmgnoceacoaaaOps
import Derived.Deep.QuietTactic
import Derived.BigQuiet
namespace Go.Proofs.Ytobmgnoceacoaaa
open Go.RowKit

/-- A slice that reads as these words. -/
def ListAt (w : World) (v : Value) (ws : List Int) : Prop :=
  ∃ a cap, v = .slice a ws.length cap ∧ (ws.length = 0 ∨ ∃ g, a = some ⟨g, 0, none⟩ ∧ g < w.heap.size ∧ ∀ i, i < ws.length → w.cell? ⟨g, i, none⟩ = some (.int .u64 (ws.getD i 0)))
theorem ListAt.mod {w w' : World} {v : Value} {ws : List Int} {S : List Nat} (h : ListAt w v ws) (hm : Mod S w w') (hs : ∀ g n cap, v = .slice (some ⟨g, 0, none⟩) n cap → g ∉ S) : ListAt w' v ws := by
  obtain ⟨a, cap, rfl, h⟩ := h
  refine ⟨a, cap, rfl, ?_⟩
  rcases h with h | ⟨g, rfl, hg, hc⟩
  · exact .inl h
  · refine .inr ⟨g, rfl, Nat.lt_of_lt_of_le hg hm.size, fun i hi => ?_⟩
    rw [← hc i hi]
    exact World.cell?_of_block (w := w) (a := ⟨g, i, none⟩) (hm.block g hg (hs _ _ _ rfl))
theorem ListAt.of_blk {w : World} {g cap : Nat} {ws : List Int} (h : w.heap[g]? = some (.cells (u64s ws) 28 (0, 0))) : ListAt w (.slice (some ⟨g, 0, none⟩) ws.length cap) ws :=
  ⟨_, _, rfl, .inr ⟨g, rfl, lt_of_block h, fun _ hi => cell_of_blk h (u64s_get _ _ hi)⟩⟩
theorem ListAt.of_own {w : World} {base : Nat} {v : Value} {ws : List Int} (h : w.ownsRow base 28 1 v ws.length (ws.map (Value.int .u64))) : ListAt w v ws := by
  by_cases h0 : ws.length = 0
  · obtain ⟨a, cap, hv⟩ := owns_len h
    exact ⟨a, cap, hv, .inl h0⟩
  · obtain ⟨g, cap, rfl, hb⟩ := owns_form h (by omega)
    refine ⟨_, cap, rfl, .inr ⟨g, rfl, (h.lt g rfl).2, fun i hi => ?_⟩⟩
    have := h.cells (g := g) rfl i (.int .u64 (ws.getD i 0)) (by simp [hi])
    rwa [show ((⟨g, 0, none⟩ : Addr).add i) = ⟨g, i, none⟩ by unfold Addr.add; split <;> simp_all] at this

/-- The first k words, as values. -/
def tk (ws : List Int) (k : Nat) : List Value := (ws.take k).map (Value.int .u64)
theorem take_next {w : World} {base k : Nat} {v : Value} {ws : List Int} {x : Int} (hk : k < ws.length) (hx : x = ws.getD k 0) (h : w.ownsRow base 28 1 v (k + 1) (tk ws k ++ [.int .u64 x])) :
    w.ownsRow base 28 1 v (k + 1) (tk ws (k + 1)) := by
  subst hx
  unfold tk at h ⊢
  rw [List.take_succ_eq_append_getElem hk, List.map_append]
  simpa [List.getD_eq_getElem?_getD, hk] using h

set_option maxHeartbeats 1000000 in
theorem all_r {a b : Nat} {s : MemS} {w : World} (hM : MemAt 148 w a b s) :
    Calls Try.prog 41 #[.pointer (some ⟨a, 0, none⟩)] w fun e w' => ∃ v, e = .returned v ∧ ListAt w' v s.ws ∧ MemAt 148 w' a b s ∧ Mod [] w w' := by
  have hn := hM.len
  go_enter Try.func41, Try.ntmps41
  go_wp2_with fail
  go_loopw [3, 4] (fun l i wr => ∃ k : Nat, k ≤ s.ws.length ∧ i = .int .i64 k ∧ wr.ownsRow w.heap.size 28 1 l k (tk s.ws k) ∧ MemAt 148 wr a b s ∧ Mod [] w wr) (fun _ i _ => s.ws.length - (intOf i).toNat)
  case atStart => exact ⟨0, Nat.zero_le _, rfl, World.ownsRow_nil _ _ _ _, hM, Mod.refl _ _⟩
  case round =>
    obtain ⟨k, hk, rfl, hown, M, dr⟩ := hrel
    obtain ⟨h0, -, -, -, -⟩ := M.cells
    have haw := hM.lta
    have hbw := hM.ltb
    by_cases hlt : k < s.ws.length
    · obtain ⟨hx, -⟩ := M.word hlt
      obtain ⟨x, hxe⟩ : ∃ x, x = s.ws.getD k 0 := ⟨_, rfl⟩
      rw [← hxe] at hx
      have Hx := Lib.hid hxe
      clear hxe
      obtain ⟨i0, hi0, hz0, hz1, hz2⟩ := info_parts info28
      go_wp2_with (at_builtin; refine wp_append rfl _ _ 36 rfl w.heap.size 28 i0 (.int .u64 0) Try.underlying36 hi0 hz0 hz1 hz2 rfl _ _ _ rfl (hown.alloc _) ⟨wr.heap.size, 0, none⟩ 1 1 [.int .u64 x] rfl rfl ?c1 ?c2 ?c3 ?c4 ?_)
      case c1 => exact cell_one_new _ _ _
      case c2 => intro u hu; simp at hu; subst hu; rfl
      case c3 => omega
      case c4 => have := dr.size; simp; omega
      intro v' w' hap
      have hown2 := take_next hlt Hx.out hap.owns
      have M2 : MemAt 148 w' a b s := ⟨(hap.keep hown haw M.lta).trans M.hd, (hap.keep hown hbw M.ltb).trans M.ws, M.ne, M.len⟩
      have dr2 := dr.appended _ hown (Nat.le_refl _) hap
      clear hap hown M dr
      go_wp2
      go_roundw
      case rel => exact ⟨k + 1, by omega, by go_num, hown2, M2, dr2⟩
      case measure => simp [intOf]; omega
    · obtain rfl : k = s.ws.length := by omega
      rw [tk, List.take_length] at hown
      have HL := Lib.hid (ListAt.of_own hown)
      clear hown
      go_wp2
      go_ret
      exact ⟨_, rfl, HL.out, M, dr⟩

set_option maxHeartbeats 1000000 in
theorem words42 {v1 v2 : Value} {ws : List Int} {w : World} (h1 : ListAt w v1 ws) (h2 : ListAt w v2 ws) (hn : ws.length ≤ 4096) :
    Calls Try.prog 42 #[v1, v2] w fun e w' => e = .returned (.bool true) ∧ ∃ m, w' = w.drewN m := by
  obtain ⟨a1, p1, rfl, h1⟩ := h1
  obtain ⟨a2, p2, rfl, h2⟩ := h2
  have H1 := Lib.hid h1
  have H2 := Lib.hid h2
  clear h1 h2
  obtain ⟨n, hn'⟩ : ∃ n, n = ws.length := ⟨_, rfl⟩
  rw [← hn'] at hn ⊢
  have Hn := Lib.hid hn'
  clear hn'
  go_enter Try.func42, Try.ntmps42
  go_wp2_with fail
  go_loopw [5] (fun i wx => ∃ j m : Nat, j ≤ n ∧ i = .int .i64 j ∧ wx = w.drewN m) (fun i _ => n - (intOf i).toNat)
  case atStart => exact ⟨0, 0, Nat.zero_le _, rfl, rfl⟩
  case round =>
    obtain ⟨j, m, hj, rfl, rfl⟩ := hrel
    by_cases hlt : j < n
    · obtain h0 | ⟨g1, rfl, hg1, hc1⟩ := H1.out
      · have := Hn.out; omega
      obtain h0 | ⟨g2, rfl, hg2, hc2⟩ := H2.out
      · have := Hn.out; omega
      have x1 := hc1 j (by have := Hn.out; omega)
      have x2 := hc2 j (by have := Hn.out; omega)
      generalize ws.getD j 0 = x at x1 x2
      clear hc1 hc2 H1 H2 Hn
      go_wp2_with fail
      go_quiet (fail)
      go_wp2
      go_roundw
      case rel => exact ⟨j + 1, m + nq, by omega, by go_num, rfl⟩
      case measure => simp [intOf]; omega
    · clear H1 H2 Hn
      go_wp2
      go_ret
      exact ⟨rfl, m, rfl⟩

set_option maxHeartbeats 1000000 in
theorem words53 {v1 v2 : Value} {ws : List Int} {w : World} (h1 : ListAt w v1 ws) (h2 : ListAt w v2 ws) (hn : ws.length ≤ 4096) :
    Calls Try.prog 53 #[v1, v2] w fun e w' => e = .returned (.bool true) ∧ ∃ m, w' = w.drewN m := by
  obtain ⟨a1, p1, rfl, h1⟩ := h1
  obtain ⟨a2, p2, rfl, h2⟩ := h2
  have H1 := Lib.hid h1
  have H2 := Lib.hid h2
  clear h1 h2
  obtain ⟨n, hn'⟩ : ∃ n, n = ws.length := ⟨_, rfl⟩
  rw [← hn'] at hn ⊢
  have Hn := Lib.hid hn'
  clear hn'
  go_enter Try.func53, Try.ntmps53
  go_wp2_with fail
  go_loopw [5] (fun i wx => ∃ j m : Nat, j ≤ n ∧ i = .int .i64 j ∧ wx = w.drewN m) (fun i _ => n - (intOf i).toNat)
  case atStart => exact ⟨0, 0, Nat.zero_le _, rfl, rfl⟩
  case round =>
    obtain ⟨j, m, hj, rfl, rfl⟩ := hrel
    by_cases hlt : j < n
    · obtain h0 | ⟨g1, rfl, hg1, hc1⟩ := H1.out
      · have := Hn.out; omega
      obtain h0 | ⟨g2, rfl, hg2, hc2⟩ := H2.out
      · have := Hn.out; omega
      have x1 := hc1 j (by have := Hn.out; omega)
      have x2 := hc2 j (by have := Hn.out; omega)
      generalize ws.getD j 0 = x at x1 x2
      clear hc1 hc2 H1 H2 Hn
      go_wp2_with fail
      go_quiet (fail)
      go_wp2
      go_roundw
      case rel => exact ⟨j + 1, m + nq, by omega, by go_num, rfl⟩
      case measure => simp [intOf]; omega
    · clear H1 H2 Hn
      go_wp2
      go_ret
      exact ⟨rfl, m, rfl⟩

set_option maxHeartbeats 1000000 in
theorem words72 {v1 v2 : Value} {ws : List Int} {w : World} (h1 : ListAt w v1 ws) (h2 : ListAt w v2 ws) (hn : ws.length ≤ 4096) :
    Calls Try.prog 72 #[v1, v2] w fun e w' => e = .returned (.bool true) ∧ ∃ m, w' = w.drewN m := by
  obtain ⟨a1, p1, rfl, h1⟩ := h1
  obtain ⟨a2, p2, rfl, h2⟩ := h2
  have H1 := Lib.hid h1
  have H2 := Lib.hid h2
  clear h1 h2
  obtain ⟨n, hn'⟩ : ∃ n, n = ws.length := ⟨_, rfl⟩
  rw [← hn'] at hn ⊢
  have Hn := Lib.hid hn'
  clear hn'
  go_enter Try.func72, Try.ntmps72
  go_wp2_with fail
  go_loopw [5] (fun i wx => ∃ j m : Nat, j ≤ n ∧ i = .int .i64 j ∧ wx = w.drewN m) (fun i _ => n - (intOf i).toNat)
  case atStart => exact ⟨0, 0, Nat.zero_le _, rfl, rfl⟩
  case round =>
    obtain ⟨j, m, hj, rfl, rfl⟩ := hrel
    by_cases hlt : j < n
    · obtain h0 | ⟨g1, rfl, hg1, hc1⟩ := H1.out
      · have := Hn.out; omega
      obtain h0 | ⟨g2, rfl, hg2, hc2⟩ := H2.out
      · have := Hn.out; omega
      have x1 := hc1 j (by have := Hn.out; omega)
      have x2 := hc2 j (by have := Hn.out; omega)
      generalize ws.getD j 0 = x at x1 x2
      clear hc1 hc2 H1 H2 Hn
      go_wp2_with fail
      go_quiet (fail)
      go_wp2
      go_roundw
      case rel => exact ⟨j + 1, m + nq, by omega, by go_num, rfl⟩
      case measure => simp [intOf]; omega
    · clear H1 H2 Hn
      go_wp2
      go_ret
      exact ⟨rfl, m, rfl⟩

set_option maxHeartbeats 1000000 in
theorem words89 {v1 v2 : Value} {ws : List Int} {w : World} (h1 : ListAt w v1 ws) (h2 : ListAt w v2 ws) (hn : ws.length ≤ 4096) :
    Calls Try.prog 89 #[v1, v2] w fun e w' => e = .returned (.bool true) ∧ ∃ m, w' = w.drewN m := by
  obtain ⟨a1, p1, rfl, h1⟩ := h1
  obtain ⟨a2, p2, rfl, h2⟩ := h2
  have H1 := Lib.hid h1
  have H2 := Lib.hid h2
  clear h1 h2
  obtain ⟨n, hn'⟩ : ∃ n, n = ws.length := ⟨_, rfl⟩
  rw [← hn'] at hn ⊢
  have Hn := Lib.hid hn'
  clear hn'
  go_enter Try.func89, Try.ntmps89
  go_wp2_with fail
  go_loopw [5] (fun i wx => ∃ j m : Nat, j ≤ n ∧ i = .int .i64 j ∧ wx = w.drewN m) (fun i _ => n - (intOf i).toNat)
  case atStart => exact ⟨0, 0, Nat.zero_le _, rfl, rfl⟩
  case round =>
    obtain ⟨j, m, hj, rfl, rfl⟩ := hrel
    by_cases hlt : j < n
    · obtain h0 | ⟨g1, rfl, hg1, hc1⟩ := H1.out
      · have := Hn.out; omega
      obtain h0 | ⟨g2, rfl, hg2, hc2⟩ := H2.out
      · have := Hn.out; omega
      have x1 := hc1 j (by have := Hn.out; omega)
      have x2 := hc2 j (by have := Hn.out; omega)
      generalize ws.getD j 0 = x at x1 x2
      clear hc1 hc2 H1 H2 Hn
      go_wp2_with fail
      go_quiet (fail)
      go_wp2
      go_roundw
      case rel => exact ⟨j + 1, m + nq, by omega, by go_num, rfl⟩
      case measure => simp [intOf]; omega
    · clear H1 H2 Hn
      go_wp2
      go_ret
      exact ⟨rfl, m, rfl⟩

end Go.Proofs.Ytobmgnoceacoaaa

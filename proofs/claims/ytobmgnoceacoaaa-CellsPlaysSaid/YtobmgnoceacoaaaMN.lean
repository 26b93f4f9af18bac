/- The contracts of mem.New, All and Clone, and of the reference's New. -/
import Derived.Test.YtobmgnoceacoaaaM1
import Derived.Deep.RegionWith
namespace Go.Proofs.Ytobmgnoceacoaaa
open Go.RowKit

set_option maxHeartbeats 1000000 in
theorem new_bad (n : Int) (hn : n < 1 ∨ 4096 < n) (w : World) :
    Calls Try.prog 23 #[.int .i64 n] w fun e w' => e = .returned (.tuple #[.pointer none, .int .i64 1]) ∧ w' = w := by
  by_cases h : n < 1
  · clear hn
    go_enter Try.func23, Try.ntmps23
    go_wp2
    go_ret2
    exact ⟨rfl, rfl⟩
  · have h2 : 4096 < n := by omega
    clear hn
    go_enter Try.func23, Try.ntmps23
    go_wp2
    go_ret2
    exact ⟨rfl, rfl⟩
set_option maxHeartbeats 1000000 in
theorem newr_bad (n : Int) (hn : n < 1 ∨ 4096 < n) (w : World) :
    Calls Try.prog 37 #[.int .i64 n] w fun e w' => e = .returned (.tuple #[.pointer none, .int .i64 1]) ∧ w' = w := by
  by_cases h : n < 1
  · clear hn
    go_enter Try.func37, Try.ntmps37
    go_wp2
    go_ret2
    exact ⟨rfl, rfl⟩
  · have h2 : 4096 < n := by omega
    clear hn
    go_enter Try.func37, Try.ntmps37
    go_wp2
    go_ret2
    exact ⟨rfl, rfl⟩
set_option maxHeartbeats 1000000 in
theorem new_ok (n : Nat) (h1 : 1 ≤ n) (h2 : n ≤ 4096) (w : World) :
    Calls Try.prog 23 #[.int .i64 n] w fun e w' => e = .returned (.tuple #[.pointer (some ⟨w.heap.size + 1, 0, none⟩), .int .i64 0]) ∧ MemAt 142 w' (w.heap.size + 1) w.heap.size (.fresh n) ∧ Mod [] w w' := by
  have hmk := make_u64 n h2
  go_enter Try.func23, Try.ntmps23
  go_wp2
  go_ret2
  exact ⟨rfl, MemAt.mk_fresh w n h2 142, ((Mod.refl _ _).alloc _).alloc _⟩
set_option maxHeartbeats 1000000 in
theorem newr_ok (n : Nat) (h1 : 1 ≤ n) (h2 : n ≤ 4096) (w : World) :
    Calls Try.prog 37 #[.int .i64 n] w fun e w' => e = .returned (.tuple #[.pointer (some ⟨w.heap.size + 1, 0, none⟩), .int .i64 0]) ∧ MemAt 148 w' (w.heap.size + 1) w.heap.size (.fresh n) ∧ Mod [] w w' := by
  have hmk := make_u64 n h2
  go_enter Try.func37, Try.ntmps37
  go_wp2
  go_ret2
  exact ⟨rfl, MemAt.mk_fresh w n h2 148, ((Mod.refl _ _).alloc _).alloc _⟩

set_option maxHeartbeats 1000000 in
theorem all_c {a b : Nat} {s : MemS} {w : World} (hM : MemAt 142 w a b s) :
    Calls Try.prog 28 #[.pointer (some ⟨a, 0, none⟩)] w fun e w' => e = .returned (.slice (some ⟨w.heap.size, 0, none⟩) s.ws.length s.ws.length) ∧ w' = w.alloc (.cells (u64s s.ws) 28) := by
  have ha := hM.lta
  have hn := hM.len
  obtain ⟨h0, -, -, -, -⟩ := hM.cells
  have hmk := make_u64 s.ws.length hn
  have hcp := fun ty => copy_u64 s.ws b w ty hM.ws
  go_enter Try.func28, Try.ntmps28
  go_wp2
  go_ret
  exact ⟨rfl, rfl⟩

theorem new_i (n : Int) (h1 : 1 ≤ n) (h2 : n ≤ 4096) (w : World) :
    Calls Try.prog 23 #[.int .i64 n] w fun e w' => e = .returned (.tuple #[.pointer (some ⟨w.heap.size + 1, 0, none⟩), .int .i64 0]) ∧ MemAt 142 w' (w.heap.size + 1) w.heap.size (.fresh n.toNat) ∧ Mod [] w w' := by
  obtain ⟨k, rfl⟩ := Int.eq_ofNat_of_zero_le (by omega : 0 ≤ n)
  exact new_ok k (by omega) (by omega) w

theorem newr_i (n : Int) (h1 : 1 ≤ n) (h2 : n ≤ 4096) (w : World) :
    Calls Try.prog 37 #[.int .i64 n] w fun e w' => e = .returned (.tuple #[.pointer (some ⟨w.heap.size + 1, 0, none⟩), .int .i64 0]) ∧ MemAt 148 w' (w.heap.size + 1) w.heap.size (.fresh n.toNat) ∧ Mod [] w w' := by
  obtain ⟨k, rfl⟩ := Int.eq_ofNat_of_zero_le (by omega : 0 ≤ n)
  exact newr_ok k (by omega) (by omega) w

theorem new_e (n : Int) (h1 : 1 ≤ n) (h2 : n ≤ 4096) (w : World) :
    Calls Try.prog 23 #[.int .i64 n] w fun e w' => ∃ a b, e = .returned (.tuple #[.pointer (some ⟨a, 0, none⟩), .int .i64 0]) ∧ MemAt 142 w' a b (.fresh n.toNat) ∧ w.heap.size ≤ a ∧ w.heap.size ≤ b ∧ Mod [] w w' :=
  (new_i n h1 h2 w).mono fun _ _ ⟨he, hM, hd⟩ => ⟨_, _, he, hM, by omega, by omega, hd⟩

theorem newr_e (n : Int) (h1 : 1 ≤ n) (h2 : n ≤ 4096) (w : World) :
    Calls Try.prog 37 #[.int .i64 n] w fun e w' => ∃ a b, e = .returned (.tuple #[.pointer (some ⟨a, 0, none⟩), .int .i64 0]) ∧ MemAt 148 w' a b (.fresh n.toNat) ∧ w.heap.size ≤ a ∧ w.heap.size ≤ b ∧ Mod [] w w' :=
  (newr_i n h1 h2 w).mono fun _ _ ⟨he, hM, hd⟩ => ⟨_, _, he, hM, by omega, by omega, hd⟩

theorem all_e {a b : Nat} {s : MemS} {w : World} (hM : MemAt 142 w a b s) :
    Calls Try.prog 28 #[.pointer (some ⟨a, 0, none⟩)] w fun e w' => ∃ g, e = .returned (.slice (some ⟨g, 0, none⟩) s.ws.length s.ws.length) ∧ w'.heap[g]? = some (.cells (u64s s.ws) 28 (0, 0)) ∧ w.heap.size ≤ g ∧ MemAt 142 w' a b s ∧ Mod [] w w' :=
  (all_c hM).mono fun _ _ ⟨he, hw⟩ => ⟨_, he, by rw [hw]; exact heap_alloc_new _ _, Nat.le_refl _, by rw [hw]; exact hM.alloc _, by rw [hw]; exact (Mod.refl _ _).alloc _⟩
end Go.Proofs.Ytobmgnoceacoaaa

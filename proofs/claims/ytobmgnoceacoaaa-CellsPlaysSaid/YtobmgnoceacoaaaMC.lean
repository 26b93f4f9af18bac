/- The contract of mem's Clone. -/
import Derived.Test.YtobmgnoceacoaaaMN
import Derived.Deep.RegionWith
namespace Go.Proofs.Ytobmgnoceacoaaa
open Go.RowKit

/-- What Clone leaves. -/
def Cloned (w : World) (a b : Nat) (s : MemS) (e : Ending) (w' : World) : Prop :=
  ∃ a' b', e = .returned (.pointer (some ⟨a', 0, none⟩)) ∧ MemAt 142 w' a' b' s ∧ MemAt 142 w' a b s ∧ w.heap.size ≤ a' ∧ w.heap.size ≤ b' ∧ Mod [] w w'

theorem Cloned.mk {w : World} {a b : Nat} {s : MemS} (hM : MemAt 142 w a b s) :
    Cloned w a b s (.returned (.pointer (some ⟨w.heap.size + 1, 0, none⟩))) (((w.alloc (.cells (u64s s.ws) 28)).alloc (.cells #[.slice (some ⟨w.heap.size, 0, none⟩) s.ws.length s.ws.length, .bool s.op, .int .i64 s.ct] 142)).drew) := by
  refine ⟨w.heap.size + 1, w.heap.size, rfl, ⟨?_, ?_, by omega, hM.len⟩, ((hM.alloc _).alloc _).drew, by omega, by omega, (((Mod.refl _ _).alloc _).alloc _).drew⟩
  · have h := heap_alloc_new (w.alloc (.cells (u64s s.ws) 28)) (.cells #[.slice (some ⟨w.heap.size, 0, none⟩) s.ws.length s.ws.length, .bool s.op, .int .i64 s.ct] 142)
    rw [World.size_alloc] at h
    exact h
  · exact blk_alloc_old _ (heap_alloc_new _ _)

set_option maxHeartbeats 1000000 in
theorem clone_c {a b : Nat} {s : MemS} {w : World} (hM : MemAt 142 w a b s) :
    Calls Try.prog 38 #[.pointer (some ⟨a, 0, none⟩)] w (Cloned w a b s) := by
  have ha := hM.lta
  have hb := hM.ltb
  obtain ⟨h0, h1, h2, -, -⟩ := hM.cells
  go_enter Try.func38, Try.ntmps38
  go_wp2_with fail
  go_region_with (go_at_call 28; refine (all_c hM.drew).mono ?_; rintro e w' ⟨rfl, rfl⟩)
  all_goals
    go_wp2
    go_ret
    exact Cloned.mk hM
end Go.Proofs.Ytobmgnoceacoaaa

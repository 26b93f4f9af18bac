/- Layer 13: comings and scans begin: the block by existence. -/
import Derived.Test.YtobmgnoceacoaaaCZ
import Derived.Test.YtobmgnoceacoaaaPlays03
namespace Go.Proofs.Ytobmgnoceacoaaa
open Go.RowKit
theorem len_load13 (s : MemS) (i : Int) : (s.load i).ws.length = s.ws.length := len_load s i
theorem len_store13 (s : MemS) (i v : Int) : (s.store i v).ws.length = s.ws.length := len_store s i v
theorem len_poke13 (s : MemS) (i v : Int) : (s.poke i v).ws.length = s.ws.length := len_poke s i v
theorem blk_two13 (w : World) (x y : Obj) : ((w.alloc x).alloc y).heap[w.heap.size + 1]? = some y := by
  have h := heap_alloc_new (w.alloc x) y
  rwa [World.size_alloc] at h
theorem come_e (p0 p1 p2 p3 p4 p5 th : Int) (w : World) :
    Calls Try.prog 55 #[.agg #[.int .i64 p0, .int .i64 p1, .int .i64 p2, .int .i64 p3, .int .i64 p4, .int .i64 p5], .int .i64 th] w fun e w' => ∃ k, e = .returned (.pointer (some ⟨k, 0, none⟩)) ∧ w'.heap[k]? = some (.cells (ComS.mk p0 p1 p2 p3 p4 p5 th 0 0 0).arr 160 (0, 0)) ∧ w.heap.size ≤ k ∧ Mod [] w w' :=
  (come_c p0 p1 p2 p3 p4 p5 th w).mono fun _ _ ⟨he, hw⟩ => ⟨_, he, by rw [hw]; exact blk_two13 _ _ _, by omega, hw ▸ ((Mod.refl _ _).alloc _).alloc _⟩
theorem come_re (p0 p1 p2 p3 p4 p5 th : Int) (w : World) :
    Calls Try.prog 69 #[.agg #[.int .i64 p0, .int .i64 p1, .int .i64 p2, .int .i64 p3, .int .i64 p4, .int .i64 p5], .int .i64 th] w fun e w' => ∃ k, e = .returned (.pointer (some ⟨k, 0, none⟩)) ∧ w'.heap[k]? = some (.cells (ComS.mk p0 p1 p2 p3 p4 p5 th 0 0 0).arr 168 (0, 0)) ∧ w.heap.size ≤ k ∧ Mod [] w w' :=
  (come_r p0 p1 p2 p3 p4 p5 th w).mono fun _ _ ⟨he, hw⟩ => ⟨_, he, by rw [hw]; exact blk_two13 _ _ _, by omega, hw ▸ ((Mod.refl _ _).alloc _).alloc _⟩
theorem look_e (p0 p1 p2 p3 p4 p5 th nd : Int) (w : World) :
    Calls Try.prog 56 #[.agg #[.int .i64 p0, .int .i64 p1, .int .i64 p2, .int .i64 p3, .int .i64 p4, .int .i64 p5], .int .i64 th, .int .u64 nd] w fun e w' => ∃ k, e = .returned (.pointer (some ⟨k, 0, none⟩)) ∧ w'.heap[k]? = some (.cells (ScanS.mk p0 p1 p2 p3 p4 p5 th nd 0 0).arr 162 (0, 0)) ∧ w.heap.size ≤ k ∧ Mod [] w w' :=
  (look_c13 p0 p1 p2 p3 p4 p5 th nd w).mono fun _ _ ⟨he, hw⟩ => ⟨_, he, by rw [hw]; exact blk_two13 _ _ _, by omega, hw ▸ ((Mod.refl _ _).alloc _).alloc _⟩
theorem look_re (p0 p1 p2 p3 p4 p5 th nd : Int) (w : World) :
    Calls Try.prog 70 #[.agg #[.int .i64 p0, .int .i64 p1, .int .i64 p2, .int .i64 p3, .int .i64 p4, .int .i64 p5], .int .i64 th, .int .u64 nd] w fun e w' => ∃ k, e = .returned (.pointer (some ⟨k, 0, none⟩)) ∧ w'.heap[k]? = some (.cells (ScanS.mk p0 p1 p2 p3 p4 p5 th nd 0 0).arr 170 (0, 0)) ∧ w.heap.size ≤ k ∧ Mod [] w w' :=
  (look_r13 p0 p1 p2 p3 p4 p5 th nd w).mono fun _ _ ⟨he, hw⟩ => ⟨_, he, by rw [hw]; exact blk_two13 _ _ _, by omega, hw ▸ ((Mod.refl _ _).alloc _).alloc _⟩

end Go.Proofs.Ytobmgnoceacoaaa

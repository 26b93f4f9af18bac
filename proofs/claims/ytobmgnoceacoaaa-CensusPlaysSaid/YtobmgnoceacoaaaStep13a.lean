/- Layer 13: a step (71): openings and pokes. -/
import Derived.Test.YtobmgnoceacoaaaPut13
import Derived.Test.YtobmgnoceacoaaaKept13
import Derived.Test.YtobmgnoceacoaaaMO
import Derived.Test.YtobmgnoceacoaaaMP
import Derived.Deep.RegionWith
import Derived.Deep.QuietTactic
import Derived.BigQuiet
import Derived.Deep.DeepCutAuto
import Derived.Deep.CutBlock
import Derived.StillTailTactics
import Derived.Deep.RegionHeld3
namespace Go.Proofs.Ytobmgnoceacoaaa
open Go.RowKit
variable {w0 w : World} {x a b c d k kr l lr : Nat} {s : MemS} {co : ComS} {sc : ScanS}


set_option maxRecDepth 100000 in
set_option maxHeartbeats 40000000 in
theorem step13_1 (h : W13 w0 w x a b c d k kr l lr s co sc) (st ce th u : Int) :
    Calls Try.prog 71 #[.pointer (some ⟨x, 0, none⟩), .agg #[.int .i64 1, .int .i64 st, .int .i64 ce, .int .i64 th, .int .u64 u]] w (Kept w0 x a b c d s.ws.length) := by
  have Q1 : ((w.alloc (.cells #[.int .i64 1, .int .i64 st, .int .i64 ce, .int .i64 th, .int .u64 u] 103)).alloc (.cells #[.int .i64 0, .int .i64 0, .int .i64 st, .int .i64 ce, .int .i64 0, .int .i64 0] 35)).heap[w.heap.size]? = some (.cells #[.int .i64 1, .int .i64 st, .int .i64 ce, .int .i64 th, .int .u64 u] 103 (0, 0)) := blk_alloc_old _ (heap_alloc_new _ _)
  have P1 : ((w.alloc (.cells #[.int .i64 1, .int .i64 st, .int .i64 ce, .int .i64 th, .int .u64 u] 103)).alloc (.cells #[.int .i64 0, .int .i64 0, .int .i64 st, .int .i64 ce, .int .i64 0, .int .i64 0] 35)).heap[w.heap.size + 1]? = some (.cells #[.int .i64 0, .int .i64 0, .int .i64 st, .int .i64 ce, .int .i64 0, .int .i64 0] 35 (0, 0)) := by
    have h := heap_alloc_new (w.alloc (.cells #[.int .i64 1, .int .i64 st, .int .i64 ce, .int .i64 th, .int .u64 u] 103)) (.cells #[.int .i64 0, .int .i64 0, .int .i64 st, .int .i64 ce, .int .i64 0, .int .i64 0] 35); rw [World.size_alloc] at h; exact h
  have W1 := (h.alloc (.cells #[.int .i64 1, .int .i64 st, .int .i64 ce, .int .i64 th, .int .u64 u] 103)).alloc (.cells #[.int .i64 0, .int .i64 0, .int .i64 st, .int .i64 ce, .int .i64 0, .int .i64 0] 35)
  have hgx := lt_of_block h.hx
  have hga := h.bo.m.lta
  have hgb := h.bo.m.ltb
  have hgc := h.bo.r.lta
  have hgd := h.bo.r.ltb
  have hgk := lt_of_block h.hk
  have hgr := lt_of_block h.hkr
  have hgl := lt_of_block h.hl
  have hgs := lt_of_block h.hlr
  have hw0 := h.fr.size
  clear h
  go_enter Try.func71, Try.ntmps71
  go_upto_region 5 with fail
  generalize (w.alloc (.cells #[.int .i64 1, .int .i64 st, .int .i64 ce, .int .i64 th, .int .u64 u] 103)).alloc (.cells #[.int .i64 0, .int .i64 0, .int .i64 st, .int .i64 ce, .int .i64 0, .int .i64 0] 35) = w1 at *
  have Pu := P1
  have Qu := Q1
  have ux0 : w1.cell? ⟨x, 0, none⟩ = some (.pointer (some ⟨a, 0, none⟩)) := cell_of_blk W1.hx rfl
  have ux1 : w1.cell? ⟨x, 1, none⟩ = some (.pointer (some ⟨c, 0, none⟩)) := cell_of_blk W1.hx rfl
  go_wp2_with fail
  refine (open_c W1.bo.m).mono ?_; rintro e w2 ⟨rfl, M2, d2⟩
  have H2 := W1.half M2 d2
  clear ux0 ux1 Pu Qu P1 Q1 W1 M2 d2
  have vx1 : w2.cell? ⟨x, 1, none⟩ = some (.pointer (some ⟨c, 0, none⟩)) := cell_of_blk H2.hx rfl
  go_wp2_with fail
  refine (open_r H2.r).mono ?_; rintro e w3 ⟨rfl, M3, d3⟩
  have W3 := H2.whole M3 d3
  clear vx1 H2 M3 d3
  have zx0 : w3.cell? ⟨x, 0, none⟩ = some (.pointer (some ⟨a, 0, none⟩)) := cell_of_blk W3.hx rfl
  have zx1 : w3.cell? ⟨x, 1, none⟩ = some (.pointer (some ⟨c, 0, none⟩)) := cell_of_blk W3.hx rfl
  have zx2 : w3.cell? ⟨x, 2, none⟩ = some (.pointer (some ⟨k, 0, none⟩)) := cell_of_blk W3.hx rfl
  have zx3 : w3.cell? ⟨x, 3, none⟩ = some (.pointer (some ⟨kr, 0, none⟩)) := cell_of_blk W3.hx rfl
  have zx4 : w3.cell? ⟨x, 4, none⟩ = some (.pointer (some ⟨l, 0, none⟩)) := cell_of_blk W3.hx rfl
  have zx5 : w3.cell? ⟨x, 5, none⟩ = some (.pointer (some ⟨lr, 0, none⟩)) := cell_of_blk W3.hx rfl
  go_wp2
  go_quiet (first | (go_at_call 64; exact Calls.quiet_of_same (claim_c _ W3.hk)) | (go_at_call 121; exact Calls.quiet_of_same (claim_r _ W3.hkr)) | (go_at_call 68; exact Calls.quiet_of_same (cstamp_c _ W3.hk)) | (go_at_call 122; exact Calls.quiet_of_same (cstamp_r _ W3.hkr)) | (go_at_call 60; exact Calls.quiet_of_same (at_c _ W3.hl)) | (go_at_call 123; exact Calls.quiet_of_same (at_r _ W3.hlr)) | (go_at_call 65; exact Calls.quiet_of_same (polls_c _ W3.hl)) | (go_at_call 124; exact Calls.quiet_of_same (polls_r _ W3.hlr)))
  go_wp2
  go_ret
  exact ⟨rfl, _, _, _, _, _, _, _, W3.drewN _, rfl⟩


set_option maxRecDepth 100000 in
set_option maxHeartbeats 40000000 in
theorem step13_10 (h : W13 w0 w x a b c d k kr l lr s co sc) (st ce th u : Int) :
    Calls Try.prog 71 #[.pointer (some ⟨x, 0, none⟩), .agg #[.int .i64 10, .int .i64 st, .int .i64 ce, .int .i64 th, .int .u64 u]] w (Kept w0 x a b c d s.ws.length) := by
  have Q1 : ((w.alloc (.cells #[.int .i64 10, .int .i64 st, .int .i64 ce, .int .i64 th, .int .u64 u] 103)).alloc (.cells #[.int .i64 0, .int .i64 0, .int .i64 st, .int .i64 ce, .int .i64 0, .int .i64 0] 35)).heap[w.heap.size]? = some (.cells #[.int .i64 10, .int .i64 st, .int .i64 ce, .int .i64 th, .int .u64 u] 103 (0, 0)) := blk_alloc_old _ (heap_alloc_new _ _)
  have P1 : ((w.alloc (.cells #[.int .i64 10, .int .i64 st, .int .i64 ce, .int .i64 th, .int .u64 u] 103)).alloc (.cells #[.int .i64 0, .int .i64 0, .int .i64 st, .int .i64 ce, .int .i64 0, .int .i64 0] 35)).heap[w.heap.size + 1]? = some (.cells #[.int .i64 0, .int .i64 0, .int .i64 st, .int .i64 ce, .int .i64 0, .int .i64 0] 35 (0, 0)) := by
    have h := heap_alloc_new (w.alloc (.cells #[.int .i64 10, .int .i64 st, .int .i64 ce, .int .i64 th, .int .u64 u] 103)) (.cells #[.int .i64 0, .int .i64 0, .int .i64 st, .int .i64 ce, .int .i64 0, .int .i64 0] 35); rw [World.size_alloc] at h; exact h
  have W1 := (h.alloc (.cells #[.int .i64 10, .int .i64 st, .int .i64 ce, .int .i64 th, .int .u64 u] 103)).alloc (.cells #[.int .i64 0, .int .i64 0, .int .i64 st, .int .i64 ce, .int .i64 0, .int .i64 0] 35)
  have hgx := lt_of_block h.hx
  have hga := h.bo.m.lta
  have hgb := h.bo.m.ltb
  have hgc := h.bo.r.lta
  have hgd := h.bo.r.ltb
  have hgk := lt_of_block h.hk
  have hgr := lt_of_block h.hkr
  have hgl := lt_of_block h.hl
  have hgs := lt_of_block h.hlr
  have hw0 := h.fr.size
  clear h
  go_enter Try.func71, Try.ntmps71
  go_upto_region 24 with fail
  generalize (w.alloc (.cells #[.int .i64 10, .int .i64 st, .int .i64 ce, .int .i64 th, .int .u64 u] 103)).alloc (.cells #[.int .i64 0, .int .i64 0, .int .i64 st, .int .i64 ce, .int .i64 0, .int .i64 0] 35) = w1 at *
  have Pu := P1
  have Qu := Q1
  have ux0 : w1.cell? ⟨x, 0, none⟩ = some (.pointer (some ⟨a, 0, none⟩)) := cell_of_blk W1.hx rfl
  have ux1 : w1.cell? ⟨x, 1, none⟩ = some (.pointer (some ⟨c, 0, none⟩)) := cell_of_blk W1.hx rfl
  have uq3 : w1.cell? ⟨w.heap.size, 3, none⟩ = some (.int .i64 th) := cell_of_blk Qu rfl
  have uq4 : w1.cell? ⟨w.heap.size, 4, none⟩ = some (.int .u64 u) := cell_of_blk Qu rfl
  go_still_tail 8, (by kernel_rfl)
  go_wp2_with fail
  refine (poke_c W1.drew.bo.m th u).mono ?_; rintro e w2 ⟨rfl, M2, d2⟩
  have H2 := W1.drew.half M2 d2
  have Qv := d2.at Q1 (nm2 (by omega) (by omega))
  clear ux0 ux1 uq3 uq4 Pu Qu P1 Q1 W1 M2 d2
  have vx1 : w2.cell? ⟨x, 1, none⟩ = some (.pointer (some ⟨c, 0, none⟩)) := cell_of_blk H2.hx rfl
  have vq3 : w2.cell? ⟨w.heap.size, 3, none⟩ = some (.int .i64 th) := cell_of_blk Qv rfl
  have vq4 : w2.cell? ⟨w.heap.size, 4, none⟩ = some (.int .u64 u) := cell_of_blk Qv rfl
  go_wp2_with fail
  go_still_tail 8, (by kernel_rfl)
  go_wp2_with fail
  refine (poke_r H2.drew.r th u).mono ?_; rintro e w3 ⟨rfl, M3, d3⟩
  have W3 := H2.drew.whole M3 d3
  clear vx1 vq3 vq4 Qv H2 M3 d3
  have zx0 : w3.cell? ⟨x, 0, none⟩ = some (.pointer (some ⟨a, 0, none⟩)) := cell_of_blk W3.hx rfl
  have zx1 : w3.cell? ⟨x, 1, none⟩ = some (.pointer (some ⟨c, 0, none⟩)) := cell_of_blk W3.hx rfl
  have zx2 : w3.cell? ⟨x, 2, none⟩ = some (.pointer (some ⟨k, 0, none⟩)) := cell_of_blk W3.hx rfl
  have zx3 : w3.cell? ⟨x, 3, none⟩ = some (.pointer (some ⟨kr, 0, none⟩)) := cell_of_blk W3.hx rfl
  have zx4 : w3.cell? ⟨x, 4, none⟩ = some (.pointer (some ⟨l, 0, none⟩)) := cell_of_blk W3.hx rfl
  have zx5 : w3.cell? ⟨x, 5, none⟩ = some (.pointer (some ⟨lr, 0, none⟩)) := cell_of_blk W3.hx rfl
  go_wp2
  go_quiet (first | (go_at_call 64; exact Calls.quiet_of_same (claim_c _ W3.hk)) | (go_at_call 121; exact Calls.quiet_of_same (claim_r _ W3.hkr)) | (go_at_call 68; exact Calls.quiet_of_same (cstamp_c _ W3.hk)) | (go_at_call 122; exact Calls.quiet_of_same (cstamp_r _ W3.hkr)) | (go_at_call 60; exact Calls.quiet_of_same (at_c _ W3.hl)) | (go_at_call 123; exact Calls.quiet_of_same (at_r _ W3.hlr)) | (go_at_call 65; exact Calls.quiet_of_same (polls_c _ W3.hl)) | (go_at_call 124; exact Calls.quiet_of_same (polls_r _ W3.hlr)))
  go_wp2
  go_ret
  exact ⟨rfl, _, _, _, _, _, _, _, W3.drewN _, len_poke _ _ _⟩

end Go.Proofs.Ytobmgnoceacoaaa

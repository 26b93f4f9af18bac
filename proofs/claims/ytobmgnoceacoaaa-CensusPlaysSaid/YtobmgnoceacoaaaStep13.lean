/- Layer 13: a step (71): beginnings, clones, calls; all. -/
import Derived.Test.YtobmgnoceacoaaaStep13a
import Derived.Test.YtobmgnoceacoaaaStep13b
import Derived.Test.YtobmgnoceacoaaaBegin13
import Derived.Test.YtobmgnoceacoaaaKept13
import Derived.Test.YtobmgnoceacoaaaClones13
import Derived.Test.YtobmgnoceacoaaaCalls13b
import Derived.Deep.RegionWith
import Derived.Deep.QuietTactic
import Derived.BigQuiet
import Derived.Deep.DeepCutAuto
import Derived.Deep.CutBlock
import Derived.StillTailTactics
import Derived.Deep.RegionHeld3
namespace Go.Proofs.Ytobmgnoceacoaaa
open Go.RowKit
variable {w0 w : World} {x a b c d k kr l lr : Nat} {s : MemS} {co : ComS} {sc : ScanS}


set_option maxRecDepth 100000 in
set_option maxHeartbeats 40000000 in
theorem step13_6 (h : W13 w0 w x a b c d k kr l lr s co sc) (st ce th u : Int) :
    Calls Try.prog 71 #[.pointer (some ⟨x, 0, none⟩), .agg #[.int .i64 6, .int .i64 st, .int .i64 ce, .int .i64 th, .int .u64 u]] w (Kept w0 x a b c d s.ws.length) := by
  have Q1 : ((w.alloc (.cells #[.int .i64 6, .int .i64 st, .int .i64 ce, .int .i64 th, .int .u64 u] 103)).alloc (.cells #[.int .i64 0, .int .i64 0, .int .i64 st, .int .i64 ce, .int .i64 0, .int .i64 0] 35)).heap[w.heap.size]? = some (.cells #[.int .i64 6, .int .i64 st, .int .i64 ce, .int .i64 th, .int .u64 u] 103 (0, 0)) := blk_alloc_old _ (heap_alloc_new _ _)
  have P1 : ((w.alloc (.cells #[.int .i64 6, .int .i64 st, .int .i64 ce, .int .i64 th, .int .u64 u] 103)).alloc (.cells #[.int .i64 0, .int .i64 0, .int .i64 st, .int .i64 ce, .int .i64 0, .int .i64 0] 35)).heap[w.heap.size + 1]? = some (.cells #[.int .i64 0, .int .i64 0, .int .i64 st, .int .i64 ce, .int .i64 0, .int .i64 0] 35 (0, 0)) := by
    have h := heap_alloc_new (w.alloc (.cells #[.int .i64 6, .int .i64 st, .int .i64 ce, .int .i64 th, .int .u64 u] 103)) (.cells #[.int .i64 0, .int .i64 0, .int .i64 st, .int .i64 ce, .int .i64 0, .int .i64 0] 35); rw [World.size_alloc] at h; exact h
  have W1 := (h.alloc (.cells #[.int .i64 6, .int .i64 st, .int .i64 ce, .int .i64 th, .int .u64 u] 103)).alloc (.cells #[.int .i64 0, .int .i64 0, .int .i64 st, .int .i64 ce, .int .i64 0, .int .i64 0] 35)
  have hgx := lt_of_block h.hx
  have hga := h.bo.m.lta
  have hgb := h.bo.m.ltb
  have hgc := h.bo.r.lta
  have hgd := h.bo.r.ltb
  have hgk := lt_of_block h.hk
  have hgr := lt_of_block h.hkr
  have hgl := lt_of_block h.hl
  have hgs := lt_of_block h.hlr
  have hw0 := h.fr.size
  clear h
  go_enter Try.func71, Try.ntmps71
  go_upto_region 8 with fail
  generalize (w.alloc (.cells #[.int .i64 6, .int .i64 st, .int .i64 ce, .int .i64 th, .int .u64 u] 103)).alloc (.cells #[.int .i64 0, .int .i64 0, .int .i64 st, .int .i64 ce, .int .i64 0, .int .i64 0] 35) = w1 at *
  have Pu := P1
  have Qu := Q1
  have up0 : w1.cell? ⟨w.heap.size + 1, 0, none⟩ = some (.int .i64 0) := cell_of_blk Pu rfl
  have up1 : w1.cell? ⟨w.heap.size + 1, 1, none⟩ = some (.int .i64 0) := cell_of_blk Pu rfl
  have up2 : w1.cell? ⟨w.heap.size + 1, 2, none⟩ = some (.int .i64 st) := cell_of_blk Pu rfl
  have up3 : w1.cell? ⟨w.heap.size + 1, 3, none⟩ = some (.int .i64 ce) := cell_of_blk Pu rfl
  have up4 : w1.cell? ⟨w.heap.size + 1, 4, none⟩ = some (.int .i64 0) := cell_of_blk Pu rfl
  have up5 : w1.cell? ⟨w.heap.size + 1, 5, none⟩ = some (.int .i64 0) := cell_of_blk Pu rfl
  have uq3 : w1.cell? ⟨w.heap.size, 3, none⟩ = some (.int .i64 th) := cell_of_blk Qu rfl
  go_wp2_with fail
  refine (come_c 0 0 st ce 0 0 th _).mono ?_; rintro e w2 ⟨rfl, hw2⟩
  have A2 : Mod [] w1 w2 := hw2 ▸ ((Mod.refl _ _).alloc _).alloc _
  have N2 : w2.heap[w1.heap.size + 1]? = some (.cells (ComS.mk 0 0 st ce 0 0 th 0 0 0).arr 160 (0, 0)) := by rw [hw2]; exact blk_two13 _ _ _
  have W2 := W1.mod A2 (by simp)
  have fz := free_of_blk (i := 2) W2.hx
  have cx : w2.cell? ⟨x, 2, none⟩ = some (.pointer (some ⟨k, 0, none⟩)) := cell_of_blk W2.hx rfl
  have Qv := A2.at Q1 (by simp)
  have Pv := A2.at P1 (by simp)
  have ge2 : w0.heap.size ≤ w1.heap.size + 1 := by have := W1.fr.size; omega
  clear up0 up1 up2 up3 up4 up5 uq3 Pu Qu P1 Q1 W1 hw2 A2
  generalize w1.heap.size + 1 = n at *
  have vp0 : w2.cell? ⟨w.heap.size + 1, 0, none⟩ = some (.int .i64 0) := cell_of_blk Pv rfl
  have vp1 : w2.cell? ⟨w.heap.size + 1, 1, none⟩ = some (.int .i64 0) := cell_of_blk Pv rfl
  have vp2 : w2.cell? ⟨w.heap.size + 1, 2, none⟩ = some (.int .i64 st) := cell_of_blk Pv rfl
  have vp3 : w2.cell? ⟨w.heap.size + 1, 3, none⟩ = some (.int .i64 ce) := cell_of_blk Pv rfl
  have vp4 : w2.cell? ⟨w.heap.size + 1, 4, none⟩ = some (.int .i64 0) := cell_of_blk Pv rfl
  have vp5 : w2.cell? ⟨w.heap.size + 1, 5, none⟩ = some (.int .i64 0) := cell_of_blk Pv rfl
  have vq3 : w2.cell? ⟨w.heap.size, 3, none⟩ = some (.int .i64 th) := cell_of_blk Qv rfl
  have M2 := W2.put2 N2 ge2 ⟨by simp, by simp, fun _ => rfl, fun _ => rfl⟩
  have Px := blk_setCell_other (.pointer (some ⟨n, 0, none⟩)) (i := 2) (b := x) Pv (by omega)
  have Qx := blk_setCell_other (.pointer (some ⟨n, 0, none⟩)) (i := 2) (b := x) Qv (by omega)
  clear W2 N2 Pv Qv
  go_wp2_with fail
  generalize w2.setCell ⟨x, 2, none⟩ (.pointer (some ⟨n, 0, none⟩)) = w3 at *
  clear vp0 vp1 vp2 vp3 vp4 vp5 vq3 fz cx
  refine (come_r 0 0 st ce 0 0 th _).mono ?_; rintro e w4 ⟨rfl, hw4⟩
  have A4 : Mod [] w3 w4 := hw4 ▸ ((Mod.refl _ _).alloc _).alloc _
  have N4 : w4.heap[w3.heap.size + 1]? = some (.cells (ComS.mk 0 0 st ce 0 0 th 0 0 0).arr 168 (0, 0)) := by rw [hw4]; exact blk_two13 _ _ _
  have M4 := M2.mod A4 (by simp)
  have fz := free_of_blk (i := 3) M4.hx
  have cx : w4.cell? ⟨x, 3, none⟩ = some (.pointer (some ⟨kr, 0, none⟩)) := cell_of_blk M4.hx rfl
  have ge4 : w0.heap.size ≤ w3.heap.size + 1 := by have := M2.fr.size; omega
  clear hw4 A4 M2 Px Qx
  generalize w3.heap.size + 1 = n' at *
  have W5 := M4.put3 N4 ge4
  clear N4 M4
  go_upto_region 28 with fail
  generalize w4.setCell ⟨x, 3, none⟩ (.pointer (some ⟨n', 0, none⟩)) = w5 at *
  clear fz cx
  have z0 : w5.cell? ⟨x, 0, none⟩ = some (.pointer (some ⟨a, 0, none⟩)) := cell_of_blk W5.hx rfl
  have z1 : w5.cell? ⟨x, 1, none⟩ = some (.pointer (some ⟨c, 0, none⟩)) := cell_of_blk W5.hx rfl
  have z2 : w5.cell? ⟨x, 2, none⟩ = some (.pointer (some ⟨n, 0, none⟩)) := cell_of_blk W5.hx rfl
  have z3 : w5.cell? ⟨x, 3, none⟩ = some ((.pointer (some ⟨n', 0, none⟩))) := cell_of_blk W5.hx rfl
  have z4 : w5.cell? ⟨x, 4, none⟩ = some (.pointer (some ⟨l, 0, none⟩)) := cell_of_blk W5.hx rfl
  have z5 : w5.cell? ⟨x, 5, none⟩ = some (.pointer (some ⟨lr, 0, none⟩)) := cell_of_blk W5.hx rfl
  go_wp2
  go_quiet (first | (go_at_call 64; exact Calls.quiet_of_same (claim_c _ W5.hk)) | (go_at_call 121; exact Calls.quiet_of_same (claim_r _ W5.hkr)) | (go_at_call 68; exact Calls.quiet_of_same (cstamp_c _ W5.hk)) | (go_at_call 122; exact Calls.quiet_of_same (cstamp_r _ W5.hkr)) | (go_at_call 60; exact Calls.quiet_of_same (at_c _ W5.hl)) | (go_at_call 123; exact Calls.quiet_of_same (at_r _ W5.hlr)) | (go_at_call 65; exact Calls.quiet_of_same (polls_c _ W5.hl)) | (go_at_call 124; exact Calls.quiet_of_same (polls_r _ W5.hlr)))
  go_wp2
  go_ret
  exact ⟨rfl, _, _, _, _, _, _, _, W5.drewN _, rfl⟩


set_option maxRecDepth 100000 in
set_option maxHeartbeats 40000000 in
theorem step13_8 (h : W13 w0 w x a b c d k kr l lr s co sc) (st ce th u : Int) :
    Calls Try.prog 71 #[.pointer (some ⟨x, 0, none⟩), .agg #[.int .i64 8, .int .i64 st, .int .i64 ce, .int .i64 th, .int .u64 u]] w (Kept w0 x a b c d s.ws.length) := by
  have Q1 : ((w.alloc (.cells #[.int .i64 8, .int .i64 st, .int .i64 ce, .int .i64 th, .int .u64 u] 103)).alloc (.cells #[.int .i64 0, .int .i64 0, .int .i64 st, .int .i64 ce, .int .i64 0, .int .i64 0] 35)).heap[w.heap.size]? = some (.cells #[.int .i64 8, .int .i64 st, .int .i64 ce, .int .i64 th, .int .u64 u] 103 (0, 0)) := blk_alloc_old _ (heap_alloc_new _ _)
  have P1 : ((w.alloc (.cells #[.int .i64 8, .int .i64 st, .int .i64 ce, .int .i64 th, .int .u64 u] 103)).alloc (.cells #[.int .i64 0, .int .i64 0, .int .i64 st, .int .i64 ce, .int .i64 0, .int .i64 0] 35)).heap[w.heap.size + 1]? = some (.cells #[.int .i64 0, .int .i64 0, .int .i64 st, .int .i64 ce, .int .i64 0, .int .i64 0] 35 (0, 0)) := by
    have h := heap_alloc_new (w.alloc (.cells #[.int .i64 8, .int .i64 st, .int .i64 ce, .int .i64 th, .int .u64 u] 103)) (.cells #[.int .i64 0, .int .i64 0, .int .i64 st, .int .i64 ce, .int .i64 0, .int .i64 0] 35); rw [World.size_alloc] at h; exact h
  have W1 := (h.alloc (.cells #[.int .i64 8, .int .i64 st, .int .i64 ce, .int .i64 th, .int .u64 u] 103)).alloc (.cells #[.int .i64 0, .int .i64 0, .int .i64 st, .int .i64 ce, .int .i64 0, .int .i64 0] 35)
  have hgx := lt_of_block h.hx
  have hga := h.bo.m.lta
  have hgb := h.bo.m.ltb
  have hgc := h.bo.r.lta
  have hgd := h.bo.r.ltb
  have hgk := lt_of_block h.hk
  have hgr := lt_of_block h.hkr
  have hgl := lt_of_block h.hl
  have hgs := lt_of_block h.hlr
  have hw0 := h.fr.size
  clear h
  go_enter Try.func71, Try.ntmps71
  go_upto_region 16 with fail
  generalize (w.alloc (.cells #[.int .i64 8, .int .i64 st, .int .i64 ce, .int .i64 th, .int .u64 u] 103)).alloc (.cells #[.int .i64 0, .int .i64 0, .int .i64 st, .int .i64 ce, .int .i64 0, .int .i64 0] 35) = w1 at *
  have Pu := P1
  have Qu := Q1
  have up0 : w1.cell? ⟨w.heap.size + 1, 0, none⟩ = some (.int .i64 0) := cell_of_blk Pu rfl
  have up1 : w1.cell? ⟨w.heap.size + 1, 1, none⟩ = some (.int .i64 0) := cell_of_blk Pu rfl
  have up2 : w1.cell? ⟨w.heap.size + 1, 2, none⟩ = some (.int .i64 st) := cell_of_blk Pu rfl
  have up3 : w1.cell? ⟨w.heap.size + 1, 3, none⟩ = some (.int .i64 ce) := cell_of_blk Pu rfl
  have up4 : w1.cell? ⟨w.heap.size + 1, 4, none⟩ = some (.int .i64 0) := cell_of_blk Pu rfl
  have up5 : w1.cell? ⟨w.heap.size + 1, 5, none⟩ = some (.int .i64 0) := cell_of_blk Pu rfl
  have uq3 : w1.cell? ⟨w.heap.size, 3, none⟩ = some (.int .i64 th) := cell_of_blk Qu rfl
  have uq4 : w1.cell? ⟨w.heap.size, 4, none⟩ = some (.int .u64 u) := cell_of_blk Qu rfl
  go_wp2_with fail
  refine (look_c13 0 0 st ce 0 0 th u _).mono ?_; rintro e w2 ⟨rfl, hw2⟩
  have A2 : Mod [] w1 w2 := hw2 ▸ ((Mod.refl _ _).alloc _).alloc _
  have N2 : w2.heap[w1.heap.size + 1]? = some (.cells (ScanS.mk 0 0 st ce 0 0 th u 0 0).arr 162 (0, 0)) := by rw [hw2]; exact blk_two13 _ _ _
  have W2 := W1.mod A2 (by simp)
  have fz := free_of_blk (i := 4) W2.hx
  have cx : w2.cell? ⟨x, 4, none⟩ = some (.pointer (some ⟨l, 0, none⟩)) := cell_of_blk W2.hx rfl
  have Qv := A2.at Q1 (by simp)
  have Pv := A2.at P1 (by simp)
  have ge2 : w0.heap.size ≤ w1.heap.size + 1 := by have := W1.fr.size; omega
  clear up0 up1 up2 up3 up4 up5 uq3 uq4 Pu Qu P1 Q1 W1 hw2 A2
  generalize w1.heap.size + 1 = n at *
  have vp0 : w2.cell? ⟨w.heap.size + 1, 0, none⟩ = some (.int .i64 0) := cell_of_blk Pv rfl
  have vp1 : w2.cell? ⟨w.heap.size + 1, 1, none⟩ = some (.int .i64 0) := cell_of_blk Pv rfl
  have vp2 : w2.cell? ⟨w.heap.size + 1, 2, none⟩ = some (.int .i64 st) := cell_of_blk Pv rfl
  have vp3 : w2.cell? ⟨w.heap.size + 1, 3, none⟩ = some (.int .i64 ce) := cell_of_blk Pv rfl
  have vp4 : w2.cell? ⟨w.heap.size + 1, 4, none⟩ = some (.int .i64 0) := cell_of_blk Pv rfl
  have vp5 : w2.cell? ⟨w.heap.size + 1, 5, none⟩ = some (.int .i64 0) := cell_of_blk Pv rfl
  have vq3 : w2.cell? ⟨w.heap.size, 3, none⟩ = some (.int .i64 th) := cell_of_blk Qv rfl
  have vq4 : w2.cell? ⟨w.heap.size, 4, none⟩ = some (.int .u64 u) := cell_of_blk Qv rfl
  have M2 := W2.put4 N2 ge2 ⟨by simp, fun h _ => by simp at h ⊢; omega⟩
  have Px := blk_setCell_other (.pointer (some ⟨n, 0, none⟩)) (i := 4) (b := x) Pv (by omega)
  have Qx := blk_setCell_other (.pointer (some ⟨n, 0, none⟩)) (i := 4) (b := x) Qv (by omega)
  clear W2 N2 Pv Qv
  go_wp2_with fail
  generalize w2.setCell ⟨x, 4, none⟩ (.pointer (some ⟨n, 0, none⟩)) = w3 at *
  clear vp0 vp1 vp2 vp3 vp4 vp5 vq3 vq4 fz cx
  refine (look_r13 0 0 st ce 0 0 th u _).mono ?_; rintro e w4 ⟨rfl, hw4⟩
  have A4 : Mod [] w3 w4 := hw4 ▸ ((Mod.refl _ _).alloc _).alloc _
  have N4 : w4.heap[w3.heap.size + 1]? = some (.cells (ScanS.mk 0 0 st ce 0 0 th u 0 0).arr 170 (0, 0)) := by rw [hw4]; exact blk_two13 _ _ _
  have M4 := M2.mod A4 (by simp)
  have fz := free_of_blk (i := 5) M4.hx
  have cx : w4.cell? ⟨x, 5, none⟩ = some (.pointer (some ⟨lr, 0, none⟩)) := cell_of_blk M4.hx rfl
  have ge4 : w0.heap.size ≤ w3.heap.size + 1 := by have := M2.fr.size; omega
  clear hw4 A4 M2 Px Qx
  generalize w3.heap.size + 1 = n' at *
  have W5 := M4.put5 N4 ge4
  clear N4 M4
  go_upto_region 28 with fail
  generalize w4.setCell ⟨x, 5, none⟩ (.pointer (some ⟨n', 0, none⟩)) = w5 at *
  clear fz cx
  have z0 : w5.cell? ⟨x, 0, none⟩ = some (.pointer (some ⟨a, 0, none⟩)) := cell_of_blk W5.hx rfl
  have z1 : w5.cell? ⟨x, 1, none⟩ = some (.pointer (some ⟨c, 0, none⟩)) := cell_of_blk W5.hx rfl
  have z2 : w5.cell? ⟨x, 2, none⟩ = some (.pointer (some ⟨k, 0, none⟩)) := cell_of_blk W5.hx rfl
  have z3 : w5.cell? ⟨x, 3, none⟩ = some (.pointer (some ⟨kr, 0, none⟩)) := cell_of_blk W5.hx rfl
  have z4 : w5.cell? ⟨x, 4, none⟩ = some (.pointer (some ⟨n, 0, none⟩)) := cell_of_blk W5.hx rfl
  have z5 : w5.cell? ⟨x, 5, none⟩ = some ((.pointer (some ⟨n', 0, none⟩))) := cell_of_blk W5.hx rfl
  go_wp2
  go_quiet (first | (go_at_call 64; exact Calls.quiet_of_same (claim_c _ W5.hk)) | (go_at_call 121; exact Calls.quiet_of_same (claim_r _ W5.hkr)) | (go_at_call 68; exact Calls.quiet_of_same (cstamp_c _ W5.hk)) | (go_at_call 122; exact Calls.quiet_of_same (cstamp_r _ W5.hkr)) | (go_at_call 60; exact Calls.quiet_of_same (at_c _ W5.hl)) | (go_at_call 123; exact Calls.quiet_of_same (at_r _ W5.hlr)) | (go_at_call 65; exact Calls.quiet_of_same (polls_c _ W5.hl)) | (go_at_call 124; exact Calls.quiet_of_same (polls_r _ W5.hlr)))
  go_wp2
  go_ret
  exact ⟨rfl, _, _, _, _, _, _, _, W5.drewN _, rfl⟩


set_option maxRecDepth 100000 in
set_option maxHeartbeats 40000000 in
theorem step13_11 (h : W13 w0 w x a b c d k kr l lr s co sc) (st ce th u : Int) :
    Calls Try.prog 71 #[.pointer (some ⟨x, 0, none⟩), .agg #[.int .i64 11, .int .i64 st, .int .i64 ce, .int .i64 th, .int .u64 u]] w (Kept w0 x a b c d s.ws.length) := by
  have Q1 : ((w.alloc (.cells #[.int .i64 11, .int .i64 st, .int .i64 ce, .int .i64 th, .int .u64 u] 103)).alloc (.cells #[.int .i64 0, .int .i64 0, .int .i64 st, .int .i64 ce, .int .i64 0, .int .i64 0] 35)).heap[w.heap.size]? = some (.cells #[.int .i64 11, .int .i64 st, .int .i64 ce, .int .i64 th, .int .u64 u] 103 (0, 0)) := blk_alloc_old _ (heap_alloc_new _ _)
  have P1 : ((w.alloc (.cells #[.int .i64 11, .int .i64 st, .int .i64 ce, .int .i64 th, .int .u64 u] 103)).alloc (.cells #[.int .i64 0, .int .i64 0, .int .i64 st, .int .i64 ce, .int .i64 0, .int .i64 0] 35)).heap[w.heap.size + 1]? = some (.cells #[.int .i64 0, .int .i64 0, .int .i64 st, .int .i64 ce, .int .i64 0, .int .i64 0] 35 (0, 0)) := by
    have h := heap_alloc_new (w.alloc (.cells #[.int .i64 11, .int .i64 st, .int .i64 ce, .int .i64 th, .int .u64 u] 103)) (.cells #[.int .i64 0, .int .i64 0, .int .i64 st, .int .i64 ce, .int .i64 0, .int .i64 0] 35); rw [World.size_alloc] at h; exact h
  have W1 := (h.alloc (.cells #[.int .i64 11, .int .i64 st, .int .i64 ce, .int .i64 th, .int .u64 u] 103)).alloc (.cells #[.int .i64 0, .int .i64 0, .int .i64 st, .int .i64 ce, .int .i64 0, .int .i64 0] 35)
  have hgx := lt_of_block h.hx
  have hga := h.bo.m.lta
  have hgb := h.bo.m.ltb
  have hgc := h.bo.r.lta
  have hgd := h.bo.r.ltb
  have hgk := lt_of_block h.hk
  have hgr := lt_of_block h.hkr
  have hgl := lt_of_block h.hl
  have hgs := lt_of_block h.hlr
  have hw0 := h.fr.size
  clear h
  go_enter Try.func71, Try.ntmps71
  go_upto_region 27 with fail
  generalize (w.alloc (.cells #[.int .i64 11, .int .i64 st, .int .i64 ce, .int .i64 th, .int .u64 u] 103)).alloc (.cells #[.int .i64 0, .int .i64 0, .int .i64 st, .int .i64 ce, .int .i64 0, .int .i64 0] 35) = w1 at *
  have Pu := P1
  have Qu := Q1
  go_wp2_with fail
  refine (clones13 W1).mono ?_; rintro e w2 ⟨rfl, k', l', W2⟩
  clear Pu Qu P1 Q1 W1 hgk hgl
  have zx0 : w2.cell? ⟨x, 0, none⟩ = some (.pointer (some ⟨a, 0, none⟩)) := cell_of_blk W2.hx rfl
  have zx1 : w2.cell? ⟨x, 1, none⟩ = some (.pointer (some ⟨c, 0, none⟩)) := cell_of_blk W2.hx rfl
  have zx2 : w2.cell? ⟨x, 2, none⟩ = some (.pointer (some ⟨k', 0, none⟩)) := cell_of_blk W2.hx rfl
  have zx3 : w2.cell? ⟨x, 3, none⟩ = some (.pointer (some ⟨kr, 0, none⟩)) := cell_of_blk W2.hx rfl
  have zx4 : w2.cell? ⟨x, 4, none⟩ = some (.pointer (some ⟨l', 0, none⟩)) := cell_of_blk W2.hx rfl
  have zx5 : w2.cell? ⟨x, 5, none⟩ = some (.pointer (some ⟨lr, 0, none⟩)) := cell_of_blk W2.hx rfl
  go_wp2
  go_quiet (first | (go_at_call 64; exact Calls.quiet_of_same (claim_c _ W2.hk)) | (go_at_call 121; exact Calls.quiet_of_same (claim_r _ W2.hkr)) | (go_at_call 68; exact Calls.quiet_of_same (cstamp_c _ W2.hk)) | (go_at_call 122; exact Calls.quiet_of_same (cstamp_r _ W2.hkr)) | (go_at_call 60; exact Calls.quiet_of_same (at_c _ W2.hl)) | (go_at_call 123; exact Calls.quiet_of_same (at_r _ W2.hlr)) | (go_at_call 65; exact Calls.quiet_of_same (polls_c _ W2.hl)) | (go_at_call 124; exact Calls.quiet_of_same (polls_r _ W2.hlr)))
  go_wp2
  go_ret
  exact ⟨rfl, _, _, _, _, _, _, _, W2.drewN _, rfl⟩


set_option maxRecDepth 100000 in
set_option maxHeartbeats 40000000 in
theorem step13_0 (h : W13 w0 w x a b c d k kr l lr s co sc) (y st ce th u : Int) (n1 : (y == 1) = false) (n6 : (y == 6) = false) (n7 : (y == 7) = false) (n8 : (y == 8) = false) (n9 : (y == 9) = false) (n10 : (y == 10) = false) (n11 : (y == 11) = false) :
    Calls Try.prog 71 #[.pointer (some ⟨x, 0, none⟩), .agg #[.int .i64 y, .int .i64 st, .int .i64 ce, .int .i64 th, .int .u64 u]] w (Kept w0 x a b c d s.ws.length) := by
  have Q1 : ((w.alloc (.cells #[.int .i64 y, .int .i64 st, .int .i64 ce, .int .i64 th, .int .u64 u] 103)).alloc (.cells #[.int .i64 0, .int .i64 0, .int .i64 st, .int .i64 ce, .int .i64 0, .int .i64 0] 35)).heap[w.heap.size]? = some (.cells #[.int .i64 y, .int .i64 st, .int .i64 ce, .int .i64 th, .int .u64 u] 103 (0, 0)) := blk_alloc_old _ (heap_alloc_new _ _)
  have P1 : ((w.alloc (.cells #[.int .i64 y, .int .i64 st, .int .i64 ce, .int .i64 th, .int .u64 u] 103)).alloc (.cells #[.int .i64 0, .int .i64 0, .int .i64 st, .int .i64 ce, .int .i64 0, .int .i64 0] 35)).heap[w.heap.size + 1]? = some (.cells #[.int .i64 0, .int .i64 0, .int .i64 st, .int .i64 ce, .int .i64 0, .int .i64 0] 35 (0, 0)) := by
    have h := heap_alloc_new (w.alloc (.cells #[.int .i64 y, .int .i64 st, .int .i64 ce, .int .i64 th, .int .u64 u] 103)) (.cells #[.int .i64 0, .int .i64 0, .int .i64 st, .int .i64 ce, .int .i64 0, .int .i64 0] 35); rw [World.size_alloc] at h; exact h
  have W1 := (h.alloc (.cells #[.int .i64 y, .int .i64 st, .int .i64 ce, .int .i64 th, .int .u64 u] 103)).alloc (.cells #[.int .i64 0, .int .i64 0, .int .i64 st, .int .i64 ce, .int .i64 0, .int .i64 0] 35)
  have hgx := lt_of_block h.hx
  have hga := h.bo.m.lta
  have hgb := h.bo.m.ltb
  have hgc := h.bo.r.lta
  have hgd := h.bo.r.ltb
  have hgk := lt_of_block h.hk
  have hgr := lt_of_block h.hkr
  have hgl := lt_of_block h.hl
  have hgs := lt_of_block h.hlr
  have hw0 := h.fr.size
  clear h
  go_enter Try.func71, Try.ntmps71
  go_upto_region 3 with fail
  generalize (w.alloc (.cells #[.int .i64 y, .int .i64 st, .int .i64 ce, .int .i64 th, .int .u64 u] 103)).alloc (.cells #[.int .i64 0, .int .i64 0, .int .i64 st, .int .i64 ce, .int .i64 0, .int .i64 0] 35) = w1 at *
  have Pu := P1
  have Qu := Q1
  have up0 : w1.cell? ⟨w.heap.size + 1, 0, none⟩ = some (.int .i64 0) := cell_of_blk Pu rfl
  have up1 : w1.cell? ⟨w.heap.size + 1, 1, none⟩ = some (.int .i64 0) := cell_of_blk Pu rfl
  have up2 : w1.cell? ⟨w.heap.size + 1, 2, none⟩ = some (.int .i64 st) := cell_of_blk Pu rfl
  have up3 : w1.cell? ⟨w.heap.size + 1, 3, none⟩ = some (.int .i64 ce) := cell_of_blk Pu rfl
  have up4 : w1.cell? ⟨w.heap.size + 1, 4, none⟩ = some (.int .i64 0) := cell_of_blk Pu rfl
  have up5 : w1.cell? ⟨w.heap.size + 1, 5, none⟩ = some (.int .i64 0) := cell_of_blk Pu rfl
  have uq0 : w1.cell? ⟨w.heap.size, 0, none⟩ = some (.int .i64 y) := cell_of_blk Qu rfl
  have uq1 : w1.cell? ⟨w.heap.size, 1, none⟩ = some (.int .i64 st) := cell_of_blk Qu rfl
  have uq2 : w1.cell? ⟨w.heap.size, 2, none⟩ = some (.int .i64 ce) := cell_of_blk Qu rfl
  have uq3 : w1.cell? ⟨w.heap.size, 3, none⟩ = some (.int .i64 th) := cell_of_blk Qu rfl
  have uq4 : w1.cell? ⟨w.heap.size, 4, none⟩ = some (.int .u64 u) := cell_of_blk Qu rfl
  go_wp2_with fail
  refine (calls13 W1 y st ce th u 0 0 st ce 0 0).mono ?_; rintro e w2 ⟨rfl, k', r', l', s', t', co', sc', W2, hl⟩
  have HK := Lib.hid hl
  clear up0 up1 up2 up3 up4 up5 uq0 uq1 uq2 uq3 uq4 Pu Qu P1 Q1 W1 hl
  go_wp2
  go_ret
  exact ⟨rfl, _, _, _, _, _, _, _, W2, HK.out⟩

theorem step13 (h : W13 w0 w x a b c d k kr l lr s co sc) (y st ce th u : Int) :
    Calls Try.prog 71 #[.pointer (some ⟨x, 0, none⟩), .agg #[.int .i64 y, .int .i64 st, .int .i64 ce, .int .i64 th, .int .u64 u]] w (Kept w0 x a b c d s.ws.length) := by
  by_cases h1 : y = 1
  · subst h1; exact step13_1 h st ce th u
  by_cases h6 : y = 6
  · subst h6; exact step13_6 h st ce th u
  by_cases h7 : y = 7
  · subst h7; exact step13_7 h st ce th u
  by_cases h8 : y = 8
  · subst h8; exact step13_8 h st ce th u
  by_cases h9 : y = 9
  · subst h9; exact step13_9 h st ce th u
  by_cases h10 : y = 10
  · subst h10; exact step13_10 h st ce th u
  by_cases h11 : y = 11
  · subst h11; exact step13_11 h st ce th u
  exact step13_0 h y st ce th u (by simp [h1]) (by simp [h6]) (by simp [h7]) (by simp [h8]) (by simp [h9]) (by simp [h10]) (by simp [h11])

end Go.Proofs.Ytobmgnoceacoaaa

/- Layer 13: a step (71): steps of a coming and of a scan. -/
import Derived.Test.YtobmgnoceacoaaaPut13
import Derived.Test.YtobmgnoceacoaaaKept13
import Derived.Deep.RegionWith
import Derived.Deep.QuietTactic
import Derived.BigQuiet
import Derived.Deep.DeepCutAuto
import Derived.Deep.CutBlock
import Derived.StillTailTactics
import Derived.Deep.RegionHeld3
namespace Go.Proofs.Ytobmgnoceacoaaa
open Go.RowKit
variable {w0 w : World} {x a b c d k kr l lr : Nat} {s : MemS} {co : ComS} {sc : ScanS}


theorem ComS.mem_len (c : ComS) (s : MemS) : (c.mem s).ws.length = s.ws.length := by
  unfold ComS.mem; (repeat' split) <;> simp [len_store, len_load]
theorem ScanS.mem_len (c : ScanS) (s : MemS) : (c.mem s).ws.length = s.ws.length := by
  unfold ScanS.mem; (repeat' split) <;> simp [len_load]


set_option maxRecDepth 100000 in
set_option maxHeartbeats 40000000 in
theorem step13_7 (h : W13 w0 w x a b c d k kr l lr s co sc) (st ce th u : Int) :
    Calls Try.prog 71 #[.pointer (some ⟨x, 0, none⟩), .agg #[.int .i64 7, .int .i64 st, .int .i64 ce, .int .i64 th, .int .u64 u]] w (Kept w0 x a b c d s.ws.length) := by
  have Q1 : ((w.alloc (.cells #[.int .i64 7, .int .i64 st, .int .i64 ce, .int .i64 th, .int .u64 u] 103)).alloc (.cells #[.int .i64 0, .int .i64 0, .int .i64 st, .int .i64 ce, .int .i64 0, .int .i64 0] 35)).heap[w.heap.size]? = some (.cells #[.int .i64 7, .int .i64 st, .int .i64 ce, .int .i64 th, .int .u64 u] 103 (0, 0)) := blk_alloc_old _ (heap_alloc_new _ _)
  have P1 : ((w.alloc (.cells #[.int .i64 7, .int .i64 st, .int .i64 ce, .int .i64 th, .int .u64 u] 103)).alloc (.cells #[.int .i64 0, .int .i64 0, .int .i64 st, .int .i64 ce, .int .i64 0, .int .i64 0] 35)).heap[w.heap.size + 1]? = some (.cells #[.int .i64 0, .int .i64 0, .int .i64 st, .int .i64 ce, .int .i64 0, .int .i64 0] 35 (0, 0)) := by
    have h := heap_alloc_new (w.alloc (.cells #[.int .i64 7, .int .i64 st, .int .i64 ce, .int .i64 th, .int .u64 u] 103)) (.cells #[.int .i64 0, .int .i64 0, .int .i64 st, .int .i64 ce, .int .i64 0, .int .i64 0] 35); rw [World.size_alloc] at h; exact h
  have W1 := (h.alloc (.cells #[.int .i64 7, .int .i64 st, .int .i64 ce, .int .i64 th, .int .u64 u] 103)).alloc (.cells #[.int .i64 0, .int .i64 0, .int .i64 st, .int .i64 ce, .int .i64 0, .int .i64 0] 35)
  have hgx := lt_of_block h.hx
  have hga := h.bo.m.lta
  have hgb := h.bo.m.ltb
  have hgc := h.bo.r.lta
  have hgd := h.bo.r.ltb
  have hgk := lt_of_block h.hk
  have hgr := lt_of_block h.hkr
  have hgl := lt_of_block h.hl
  have hgs := lt_of_block h.hlr
  have hw0 := h.fr.size
  clear h
  go_enter Try.func71, Try.ntmps71
  go_upto_region 11 with fail
  generalize (w.alloc (.cells #[.int .i64 7, .int .i64 st, .int .i64 ce, .int .i64 th, .int .u64 u] 103)).alloc (.cells #[.int .i64 0, .int .i64 0, .int .i64 st, .int .i64 ce, .int .i64 0, .int .i64 0] 35) = w1 at *
  have Pu := P1
  have Qu := Q1
  have ux0 : w1.cell? ⟨x, 0, none⟩ = some (.pointer (some ⟨a, 0, none⟩)) := cell_of_blk W1.hx rfl
  have ux2 : w1.cell? ⟨x, 2, none⟩ = some (.pointer (some ⟨k, 0, none⟩)) := cell_of_blk W1.hx rfl
  go_cut [6, 7] (fun A C wx => A = .bool (co.over s) ∧ C = .int .i64 (co.err s) ∧ Mid w0 wx x a b c d k kr l lr s (co.mem s) co (co.next s) sc sc)
  case first =>
    go_region_held3 (fun wx => wx.cell? ⟨x, 0, none⟩ = some (.pointer (some ⟨a, 0, none⟩)) ∧ wx.cell? ⟨x, 2, none⟩ = some (.pointer (some ⟨k, 0, none⟩))) (first | exact ⟨ux0, ux2⟩ | exact ⟨cell_of_blk X2 rfl, cell_of_blk X2 rfl⟩)
      (first | (go_at_call 57; refine (comStep_c W1.drew.bo.m co W1.iC W1.drew.hk).mono ?_; rintro e w2 ⟨rfl, M2, K2, d2⟩; have X2 := (W1.drew.midC M2 K2 (ComS.next_inv W1.iC s) d2).hx))
    all_goals
      go_wp2_with fail
      go_meet
      exact ⟨rfl, rfl, W1.drew.midC M2 K2 (ComS.next_inv W1.iC s) d2⟩
  case rest =>
    obtain ⟨rfl, rfl, H3⟩ := hcut
    clear ux0 ux2 Pu Qu P1 Q1 W1
    have vx1 : wc.cell? ⟨x, 1, none⟩ = some (.pointer (some ⟨c, 0, none⟩)) := cell_of_blk H3.hx rfl
    have vx3 : wc.cell? ⟨x, 3, none⟩ = some (.pointer (some ⟨kr, 0, none⟩)) := cell_of_blk H3.hx rfl
    go_upto_region 12 with fail
    go_cut [8, 9] (fun A C wx => A = .bool (co.over s) ∧ C = .int .i64 (co.err s) ∧ W13 w0 wx x a b c d k kr l lr (co.mem s) (co.next s) sc)
    case first =>
      go_region_held3 (fun wx => wx.cell? ⟨x, 1, none⟩ = some (.pointer (some ⟨c, 0, none⟩)) ∧ wx.cell? ⟨x, 3, none⟩ = some (.pointer (some ⟨kr, 0, none⟩))) (first | exact ⟨vx1, vx3⟩ | exact ⟨cell_of_blk X2 rfl, cell_of_blk X2 rfl⟩)
        (first | (go_at_call 117; refine (comStep_r H3.drew.r co H3.iC H3.drew.hkr).mono ?_; rintro e w2 ⟨rfl, M2, K2, d2⟩; have X2 := (H3.drew.wholeC M2 K2 d2).hx))
      all_goals
        go_wp2_with fail
        go_meet
        exact ⟨rfl, rfl, H3.drew.wholeC M2 K2 d2⟩
    case rest =>
      obtain ⟨rfl, rfl, W4⟩ := hcut
      clear vx1 vx3 H3
      obtain ⟨wz, rfl⟩ : ∃ wz, wz = wc := ⟨_, rfl⟩
      generalize co.over s = ov at *
      generalize co.err s = er at *
      have zx0 : wz.cell? ⟨x, 0, none⟩ = some (.pointer (some ⟨a, 0, none⟩)) := cell_of_blk W4.hx rfl
      have zx1 : wz.cell? ⟨x, 1, none⟩ = some (.pointer (some ⟨c, 0, none⟩)) := cell_of_blk W4.hx rfl
      have zx2 : wz.cell? ⟨x, 2, none⟩ = some (.pointer (some ⟨k, 0, none⟩)) := cell_of_blk W4.hx rfl
      have zx3 : wz.cell? ⟨x, 3, none⟩ = some (.pointer (some ⟨kr, 0, none⟩)) := cell_of_blk W4.hx rfl
      have zx4 : wz.cell? ⟨x, 4, none⟩ = some (.pointer (some ⟨l, 0, none⟩)) := cell_of_blk W4.hx rfl
      have zx5 : wz.cell? ⟨x, 5, none⟩ = some (.pointer (some ⟨lr, 0, none⟩)) := cell_of_blk W4.hx rfl
      go_wp2
      go_quiet (first | (go_at_call 64; exact Calls.quiet_of_same (claim_c _ W4.hk)) | (go_at_call 121; exact Calls.quiet_of_same (claim_r _ W4.hkr)) | (go_at_call 68; exact Calls.quiet_of_same (cstamp_c _ W4.hk)) | (go_at_call 122; exact Calls.quiet_of_same (cstamp_r _ W4.hkr)) | (go_at_call 60; exact Calls.quiet_of_same (at_c _ W4.hl)) | (go_at_call 123; exact Calls.quiet_of_same (at_r _ W4.hlr)) | (go_at_call 65; exact Calls.quiet_of_same (polls_c _ W4.hl)) | (go_at_call 124; exact Calls.quiet_of_same (polls_r _ W4.hlr)))
      go_wp2
      go_ret
      exact ⟨rfl, _, _, _, _, _, _, _, W4.drewN _, ComS.mem_len _ _⟩


set_option maxRecDepth 100000 in
set_option maxHeartbeats 40000000 in
theorem step13_9 (h : W13 w0 w x a b c d k kr l lr s co sc) (st ce th u : Int) :
    Calls Try.prog 71 #[.pointer (some ⟨x, 0, none⟩), .agg #[.int .i64 9, .int .i64 st, .int .i64 ce, .int .i64 th, .int .u64 u]] w (Kept w0 x a b c d s.ws.length) := by
  have Q1 : ((w.alloc (.cells #[.int .i64 9, .int .i64 st, .int .i64 ce, .int .i64 th, .int .u64 u] 103)).alloc (.cells #[.int .i64 0, .int .i64 0, .int .i64 st, .int .i64 ce, .int .i64 0, .int .i64 0] 35)).heap[w.heap.size]? = some (.cells #[.int .i64 9, .int .i64 st, .int .i64 ce, .int .i64 th, .int .u64 u] 103 (0, 0)) := blk_alloc_old _ (heap_alloc_new _ _)
  have P1 : ((w.alloc (.cells #[.int .i64 9, .int .i64 st, .int .i64 ce, .int .i64 th, .int .u64 u] 103)).alloc (.cells #[.int .i64 0, .int .i64 0, .int .i64 st, .int .i64 ce, .int .i64 0, .int .i64 0] 35)).heap[w.heap.size + 1]? = some (.cells #[.int .i64 0, .int .i64 0, .int .i64 st, .int .i64 ce, .int .i64 0, .int .i64 0] 35 (0, 0)) := by
    have h := heap_alloc_new (w.alloc (.cells #[.int .i64 9, .int .i64 st, .int .i64 ce, .int .i64 th, .int .u64 u] 103)) (.cells #[.int .i64 0, .int .i64 0, .int .i64 st, .int .i64 ce, .int .i64 0, .int .i64 0] 35); rw [World.size_alloc] at h; exact h
  have W1 := (h.alloc (.cells #[.int .i64 9, .int .i64 st, .int .i64 ce, .int .i64 th, .int .u64 u] 103)).alloc (.cells #[.int .i64 0, .int .i64 0, .int .i64 st, .int .i64 ce, .int .i64 0, .int .i64 0] 35)
  have hgx := lt_of_block h.hx
  have hga := h.bo.m.lta
  have hgb := h.bo.m.ltb
  have hgc := h.bo.r.lta
  have hgd := h.bo.r.ltb
  have hgk := lt_of_block h.hk
  have hgr := lt_of_block h.hkr
  have hgl := lt_of_block h.hl
  have hgs := lt_of_block h.hlr
  have hw0 := h.fr.size
  clear h
  go_enter Try.func71, Try.ntmps71
  go_upto_region 19 with fail
  generalize (w.alloc (.cells #[.int .i64 9, .int .i64 st, .int .i64 ce, .int .i64 th, .int .u64 u] 103)).alloc (.cells #[.int .i64 0, .int .i64 0, .int .i64 st, .int .i64 ce, .int .i64 0, .int .i64 0] 35) = w1 at *
  have Pu := P1
  have Qu := Q1
  have ux0 : w1.cell? ⟨x, 0, none⟩ = some (.pointer (some ⟨a, 0, none⟩)) := cell_of_blk W1.hx rfl
  have ux4 : w1.cell? ⟨x, 4, none⟩ = some (.pointer (some ⟨l, 0, none⟩)) := cell_of_blk W1.hx rfl
  go_cut [10, 11] (fun A C wx => A = .bool (sc.over s) ∧ C = .int .i64 (sc.err s) ∧ Mid w0 wx x a b c d k kr l lr s (sc.mem s) co co sc (sc.next s))
  case first =>
    go_region_held3 (fun wx => wx.cell? ⟨x, 0, none⟩ = some (.pointer (some ⟨a, 0, none⟩)) ∧ wx.cell? ⟨x, 4, none⟩ = some (.pointer (some ⟨l, 0, none⟩))) (first | exact ⟨ux0, ux4⟩ | exact ⟨cell_of_blk X2 rfl, cell_of_blk X2 rfl⟩)
      (first | (go_at_call 58; refine (scanStep_c W1.drew.bo.m sc W1.iS W1.drew.hl).mono ?_; rintro e w2 ⟨rfl, M2, K2, d2⟩; have X2 := (W1.drew.midS M2 K2 (ScanS.next_inv W1.iS s) d2).hx))
    all_goals
      go_wp2_with fail
      go_meet
      exact ⟨rfl, rfl, W1.drew.midS M2 K2 (ScanS.next_inv W1.iS s) d2⟩
  case rest =>
    obtain ⟨rfl, rfl, H3⟩ := hcut
    clear ux0 ux4 Pu Qu P1 Q1 W1
    have vx1 : wc.cell? ⟨x, 1, none⟩ = some (.pointer (some ⟨c, 0, none⟩)) := cell_of_blk H3.hx rfl
    have vx5 : wc.cell? ⟨x, 5, none⟩ = some (.pointer (some ⟨lr, 0, none⟩)) := cell_of_blk H3.hx rfl
    go_upto_region 20 with fail
    go_cut [12, 13] (fun A C wx => A = .bool (sc.over s) ∧ C = .int .i64 (sc.err s) ∧ W13 w0 wx x a b c d k kr l lr (sc.mem s) co (sc.next s))
    case first =>
      go_region_held3 (fun wx => wx.cell? ⟨x, 1, none⟩ = some (.pointer (some ⟨c, 0, none⟩)) ∧ wx.cell? ⟨x, 5, none⟩ = some (.pointer (some ⟨lr, 0, none⟩))) (first | exact ⟨vx1, vx5⟩ | exact ⟨cell_of_blk X2 rfl, cell_of_blk X2 rfl⟩)
        (first | (go_at_call 118; refine (scanStep_r H3.drew.r sc H3.iS H3.drew.hlr).mono ?_; rintro e w2 ⟨rfl, M2, K2, d2⟩; have X2 := (H3.drew.wholeS M2 K2 d2).hx))
      all_goals
        go_wp2_with fail
        go_meet
        exact ⟨rfl, rfl, H3.drew.wholeS M2 K2 d2⟩
    case rest =>
      obtain ⟨rfl, rfl, W4⟩ := hcut
      clear vx1 vx5 H3
      obtain ⟨wz, rfl⟩ : ∃ wz, wz = wc := ⟨_, rfl⟩
      generalize sc.over s = ov at *
      generalize sc.err s = er at *
      have zx0 : wz.cell? ⟨x, 0, none⟩ = some (.pointer (some ⟨a, 0, none⟩)) := cell_of_blk W4.hx rfl
      have zx1 : wz.cell? ⟨x, 1, none⟩ = some (.pointer (some ⟨c, 0, none⟩)) := cell_of_blk W4.hx rfl
      have zx2 : wz.cell? ⟨x, 2, none⟩ = some (.pointer (some ⟨k, 0, none⟩)) := cell_of_blk W4.hx rfl
      have zx3 : wz.cell? ⟨x, 3, none⟩ = some (.pointer (some ⟨kr, 0, none⟩)) := cell_of_blk W4.hx rfl
      have zx4 : wz.cell? ⟨x, 4, none⟩ = some (.pointer (some ⟨l, 0, none⟩)) := cell_of_blk W4.hx rfl
      have zx5 : wz.cell? ⟨x, 5, none⟩ = some (.pointer (some ⟨lr, 0, none⟩)) := cell_of_blk W4.hx rfl
      go_wp2
      go_quiet (first | (go_at_call 64; exact Calls.quiet_of_same (claim_c _ W4.hk)) | (go_at_call 121; exact Calls.quiet_of_same (claim_r _ W4.hkr)) | (go_at_call 68; exact Calls.quiet_of_same (cstamp_c _ W4.hk)) | (go_at_call 122; exact Calls.quiet_of_same (cstamp_r _ W4.hkr)) | (go_at_call 60; exact Calls.quiet_of_same (at_c _ W4.hl)) | (go_at_call 123; exact Calls.quiet_of_same (at_r _ W4.hlr)) | (go_at_call 65; exact Calls.quiet_of_same (polls_c _ W4.hl)) | (go_at_call 124; exact Calls.quiet_of_same (polls_r _ W4.hlr)))
      go_wp2
      go_ret
      exact ⟨rfl, _, _, _, _, _, _, _, W4.drewN _, ScanS.mem_len _ _⟩

end Go.Proofs.Ytobmgnoceacoaaa

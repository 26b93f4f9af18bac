/- Layer 13: the calls that keep nothing (120: Peek, and all). -/
import Derived.Test.YtobmgnoceacoaaaCalls13
import Derived.Deep.RegionWith
import Derived.Deep.QuietTactic
import Derived.BigQuiet
import Derived.Deep.DeepCutAuto
import Derived.Deep.CutBlock
import Derived.Deep.RegionHeld3
namespace Go.Proofs.Ytobmgnoceacoaaa
open Go.RowKit
variable {w0 w : World} {x a b c d k kr l lr : Nat} {s : MemS} {co : ComS} {sc : ScanS}



set_option maxRecDepth 100000 in
set_option maxHeartbeats 40000000 in
theorem calls13_5 (h : W13 w0 w x a b c d k kr l lr s co sc) (st ce th u p0 p1 p2 p3 p4 p5 : Int) :
    Calls Try.prog 120 #[.pointer (some ⟨x, 0, none⟩), .agg #[.int .i64 5, .int .i64 st, .int .i64 ce, .int .i64 th, .int .u64 u], .agg #[.int .i64 p0, .int .i64 p1, .int .i64 p2, .int .i64 p3, .int .i64 p4, .int .i64 p5]] w (Kept w0 x a b c d s.ws.length) := by
  have Q1 : ((w.alloc (.cells #[.int .i64 5, .int .i64 st, .int .i64 ce, .int .i64 th, .int .u64 u] 103)).alloc (.cells #[.int .i64 p0, .int .i64 p1, .int .i64 p2, .int .i64 p3, .int .i64 p4, .int .i64 p5] 35)).heap[w.heap.size]? = some (.cells #[.int .i64 5, .int .i64 st, .int .i64 ce, .int .i64 th, .int .u64 u] 103 (0, 0)) := blk_alloc_old _ (heap_alloc_new _ _)
  have P1 : ((w.alloc (.cells #[.int .i64 5, .int .i64 st, .int .i64 ce, .int .i64 th, .int .u64 u] 103)).alloc (.cells #[.int .i64 p0, .int .i64 p1, .int .i64 p2, .int .i64 p3, .int .i64 p4, .int .i64 p5] 35)).heap[w.heap.size + 1]? = some (.cells #[.int .i64 p0, .int .i64 p1, .int .i64 p2, .int .i64 p3, .int .i64 p4, .int .i64 p5] 35 (0, 0)) := by
    have h := heap_alloc_new (w.alloc (.cells #[.int .i64 5, .int .i64 st, .int .i64 ce, .int .i64 th, .int .u64 u] 103)) (.cells #[.int .i64 p0, .int .i64 p1, .int .i64 p2, .int .i64 p3, .int .i64 p4, .int .i64 p5] 35); rw [World.size_alloc] at h; exact h
  have W1 := (h.alloc (.cells #[.int .i64 5, .int .i64 st, .int .i64 ce, .int .i64 th, .int .u64 u] 103)).alloc (.cells #[.int .i64 p0, .int .i64 p1, .int .i64 p2, .int .i64 p3, .int .i64 p4, .int .i64 p5] 35)
  have hgx := lt_of_block h.hx
  have hga := h.bo.m.lta
  have hgb := h.bo.m.ltb
  have hgc := h.bo.r.lta
  have hgd := h.bo.r.ltb
  go_enter Try.func120, Try.ntmps120
  go_upto_region 15 with fail
  generalize (w.alloc (.cells #[.int .i64 5, .int .i64 st, .int .i64 ce, .int .i64 th, .int .u64 u] 103)).alloc (.cells #[.int .i64 p0, .int .i64 p1, .int .i64 p2, .int .i64 p3, .int .i64 p4, .int .i64 p5] 35) = w1 at *
  have Pu := P1
  have Qu := Q1
  have ux0 : w1.cell? ⟨x, 0, none⟩ = some (.pointer (some ⟨a, 0, none⟩)) := cell_of_blk W1.hx rfl
  have ux1 : w1.cell? ⟨x, 1, none⟩ = some (.pointer (some ⟨c, 0, none⟩)) := cell_of_blk W1.hx rfl
  have ux2 : w1.cell? ⟨x, 2, none⟩ = some (.pointer (some ⟨k, 0, none⟩)) := cell_of_blk W1.hx rfl
  have ux3 : w1.cell? ⟨x, 3, none⟩ = some (.pointer (some ⟨kr, 0, none⟩)) := cell_of_blk W1.hx rfl
  have ux4 : w1.cell? ⟨x, 4, none⟩ = some (.pointer (some ⟨l, 0, none⟩)) := cell_of_blk W1.hx rfl
  have ux5 : w1.cell? ⟨x, 5, none⟩ = some (.pointer (some ⟨lr, 0, none⟩)) := cell_of_blk W1.hx rfl
  have up0 : w1.cell? ⟨w.heap.size + 1, 0, none⟩ = some (.int .i64 p0) := cell_of_blk Pu rfl
  have up1 : w1.cell? ⟨w.heap.size + 1, 1, none⟩ = some (.int .i64 p1) := cell_of_blk Pu rfl
  have up2 : w1.cell? ⟨w.heap.size + 1, 2, none⟩ = some (.int .i64 p2) := cell_of_blk Pu rfl
  have up3 : w1.cell? ⟨w.heap.size + 1, 3, none⟩ = some (.int .i64 p3) := cell_of_blk Pu rfl
  have up4 : w1.cell? ⟨w.heap.size + 1, 4, none⟩ = some (.int .i64 p4) := cell_of_blk Pu rfl
  have up5 : w1.cell? ⟨w.heap.size + 1, 5, none⟩ = some (.int .i64 p5) := cell_of_blk Pu rfl
  have uq0 : w1.cell? ⟨w.heap.size, 0, none⟩ = some (.int .i64 5) := cell_of_blk Qu rfl
  have uq1 : w1.cell? ⟨w.heap.size, 1, none⟩ = some (.int .i64 st) := cell_of_blk Qu rfl
  have uq2 : w1.cell? ⟨w.heap.size, 2, none⟩ = some (.int .i64 ce) := cell_of_blk Qu rfl
  have uq3 : w1.cell? ⟨w.heap.size, 3, none⟩ = some (.int .i64 th) := cell_of_blk Qu rfl
  have uq4 : w1.cell? ⟨w.heap.size, 4, none⟩ = some (.int .u64 u) := cell_of_blk Qu rfl
  go_cut [15, 16, 17] (fun A B C wx => A = .int .u64 (s.claimOf p3 th) ∧ B = .bool (s.isIn p3 th) ∧ C = .int .i64 (s.peekE p3 th) ∧ Half w0 wx x a b c d k kr l lr s (s) co sc ∧ wx.heap[w.heap.size]? = some (.cells #[.int .i64 5, .int .i64 st, .int .i64 ce, .int .i64 th, .int .u64 u] 103 (0, 0)) ∧ wx.heap[w.heap.size + 1]? = some (.cells #[.int .i64 p0, .int .i64 p1, .int .i64 p2, .int .i64 p3, .int .i64 p4, .int .i64 p5] 35 (0, 0)))
  case first =>
    go_region_held3 (fun wx => wx.cell? ⟨x, 0, none⟩ = some (.pointer (some ⟨a, 0, none⟩)) ∧ wx.cell? ⟨w.heap.size + 1, 0, none⟩ = some (.int .i64 p0) ∧ wx.cell? ⟨w.heap.size + 1, 1, none⟩ = some (.int .i64 p1) ∧ wx.cell? ⟨w.heap.size + 1, 2, none⟩ = some (.int .i64 p2) ∧ wx.cell? ⟨w.heap.size + 1, 3, none⟩ = some (.int .i64 p3) ∧ wx.cell? ⟨w.heap.size + 1, 4, none⟩ = some (.int .i64 p4) ∧ wx.cell? ⟨w.heap.size + 1, 5, none⟩ = some (.int .i64 p5) ∧ wx.cell? ⟨w.heap.size, 3, none⟩ = some (.int .i64 th)) (first | exact ⟨ux0, up0, up1, up2, up3, up4, up5, uq3⟩ | exact ⟨cell_of_blk H2.hx rfl, cell_of_blk P2 rfl, cell_of_blk P2 rfl, cell_of_blk P2 rfl, cell_of_blk P2 rfl, cell_of_blk P2 rfl, cell_of_blk P2 rfl, cell_of_blk Q2 rfl⟩)
      (first | (go_at_call 115; refine (peek13_c W1.drew.bo.m p0 p1 p2 p3 p4 p5 th).mono ?_; rintro e w2 ⟨rfl, M2, d2⟩; have H2 := W1.drew.half M2 d2; have Q2 := d2.at Q1 (by simp; omega); have P2 := d2.at P1 (by simp; omega)))
    all_goals
      go_wp2_with fail
      go_meet
      exact ⟨rfl, rfl, rfl, W1.drew.half M2 d2, d2.at Q1 (by simp; omega), d2.at P1 (by simp; omega)⟩
  case rest =>
    obtain ⟨rfl, rfl, rfl, H3, Q3, P3⟩ := hcut
    clear ux0 ux1 ux2 ux3 ux4 ux5 up0 up1 up2 up3 up4 up5 uq0 uq1 uq2 uq3 uq4 Pu Qu P1 Q1 W1
    have Pv := P3
    have Qv := Q3
    have vx0 : wc.cell? ⟨x, 0, none⟩ = some (.pointer (some ⟨a, 0, none⟩)) := cell_of_blk H3.hx rfl
    have vx1 : wc.cell? ⟨x, 1, none⟩ = some (.pointer (some ⟨c, 0, none⟩)) := cell_of_blk H3.hx rfl
    have vx2 : wc.cell? ⟨x, 2, none⟩ = some (.pointer (some ⟨k, 0, none⟩)) := cell_of_blk H3.hx rfl
    have vx3 : wc.cell? ⟨x, 3, none⟩ = some (.pointer (some ⟨kr, 0, none⟩)) := cell_of_blk H3.hx rfl
    have vx4 : wc.cell? ⟨x, 4, none⟩ = some (.pointer (some ⟨l, 0, none⟩)) := cell_of_blk H3.hx rfl
    have vx5 : wc.cell? ⟨x, 5, none⟩ = some (.pointer (some ⟨lr, 0, none⟩)) := cell_of_blk H3.hx rfl
    have vp0 : wc.cell? ⟨w.heap.size + 1, 0, none⟩ = some (.int .i64 p0) := cell_of_blk Pv rfl
    have vp1 : wc.cell? ⟨w.heap.size + 1, 1, none⟩ = some (.int .i64 p1) := cell_of_blk Pv rfl
    have vp2 : wc.cell? ⟨w.heap.size + 1, 2, none⟩ = some (.int .i64 p2) := cell_of_blk Pv rfl
    have vp3 : wc.cell? ⟨w.heap.size + 1, 3, none⟩ = some (.int .i64 p3) := cell_of_blk Pv rfl
    have vp4 : wc.cell? ⟨w.heap.size + 1, 4, none⟩ = some (.int .i64 p4) := cell_of_blk Pv rfl
    have vp5 : wc.cell? ⟨w.heap.size + 1, 5, none⟩ = some (.int .i64 p5) := cell_of_blk Pv rfl
    have vq0 : wc.cell? ⟨w.heap.size, 0, none⟩ = some (.int .i64 5) := cell_of_blk Qv rfl
    have vq1 : wc.cell? ⟨w.heap.size, 1, none⟩ = some (.int .i64 st) := cell_of_blk Qv rfl
    have vq2 : wc.cell? ⟨w.heap.size, 2, none⟩ = some (.int .i64 ce) := cell_of_blk Qv rfl
    have vq3 : wc.cell? ⟨w.heap.size, 3, none⟩ = some (.int .i64 th) := cell_of_blk Qv rfl
    have vq4 : wc.cell? ⟨w.heap.size, 4, none⟩ = some (.int .u64 u) := cell_of_blk Qv rfl
    go_upto_region 16 with fail
    go_cut [18, 19, 20] (fun A B C wx => A = .int .u64 (s.claimOf p3 th) ∧ B = .bool (s.isIn p3 th) ∧ C = .int .i64 (s.peekE p3 th) ∧ W13 w0 wx x a b c d k kr l lr (s) co sc)
    case first =>
      go_region_held3 (fun wx => wx.cell? ⟨x, 1, none⟩ = some (.pointer (some ⟨c, 0, none⟩)) ∧ wx.cell? ⟨w.heap.size + 1, 0, none⟩ = some (.int .i64 p0) ∧ wx.cell? ⟨w.heap.size + 1, 1, none⟩ = some (.int .i64 p1) ∧ wx.cell? ⟨w.heap.size + 1, 2, none⟩ = some (.int .i64 p2) ∧ wx.cell? ⟨w.heap.size + 1, 3, none⟩ = some (.int .i64 p3) ∧ wx.cell? ⟨w.heap.size + 1, 4, none⟩ = some (.int .i64 p4) ∧ wx.cell? ⟨w.heap.size + 1, 5, none⟩ = some (.int .i64 p5) ∧ wx.cell? ⟨w.heap.size, 3, none⟩ = some (.int .i64 th)) (first | exact ⟨vx1, vp0, vp1, vp2, vp3, vp4, vp5, vq3⟩ | exact ⟨cell_of_blk H2.hx rfl, cell_of_blk P2 rfl, cell_of_blk P2 rfl, cell_of_blk P2 rfl, cell_of_blk P2 rfl, cell_of_blk P2 rfl, cell_of_blk P2 rfl, cell_of_blk Q2 rfl⟩)
        (first | (go_at_call 150; refine (peek13_r H3.drew.r p0 p1 p2 p3 p4 p5 th).mono ?_; rintro e w2 ⟨rfl, M2, d2⟩; have H2 := H3.drew.whole M2 d2; have Q2 := d2.at Q3 (by simp; omega); have P2 := d2.at P3 (by simp; omega)))
      all_goals
        go_wp2_with fail
        go_meet
        exact ⟨rfl, rfl, rfl, H3.drew.whole M2 d2⟩
    case rest =>
      obtain ⟨rfl, rfl, rfl, H4⟩ := hcut
      clear vx0 vx1 vx2 vx3 vx4 vx5 vp0 vp1 vp2 vp3 vp4 vp5 vq0 vq1 vq2 vq3 vq4 Pv Qv P3 Q3 H3
      go_wp2
      go_ret
      exact ⟨rfl, _, _, _, _, _, _, _, H4, rfl⟩


set_option maxRecDepth 100000 in
set_option maxHeartbeats 1000000 in
theorem calls13_0 (h : W13 w0 w x a b c d k kr l lr s co sc) (y st ce th u p0 p1 p2 p3 p4 p5 : Int) (n2 : (y == 2) = false) (n3 : (y == 3) = false) (n4 : (y == 4) = false) (n5 : (y == 5) = false) :
    Calls Try.prog 120 #[.pointer (some ⟨x, 0, none⟩), .agg #[.int .i64 y, .int .i64 st, .int .i64 ce, .int .i64 th, .int .u64 u], .agg #[.int .i64 p0, .int .i64 p1, .int .i64 p2, .int .i64 p3, .int .i64 p4, .int .i64 p5]] w (Kept w0 x a b c d s.ws.length) := by
  go_enter Try.func120, Try.ntmps120
  go_wp2
  go_ret
  exact ⟨rfl, _, _, _, _, _, _, _, (h.alloc _).alloc _, rfl⟩

theorem calls13 (h : W13 w0 w x a b c d k kr l lr s co sc) (y st ce th u p0 p1 p2 p3 p4 p5 : Int) :
    Calls Try.prog 120 #[.pointer (some ⟨x, 0, none⟩), .agg #[.int .i64 y, .int .i64 st, .int .i64 ce, .int .i64 th, .int .u64 u], .agg #[.int .i64 p0, .int .i64 p1, .int .i64 p2, .int .i64 p3, .int .i64 p4, .int .i64 p5]] w (Kept w0 x a b c d s.ws.length) := by
  by_cases h2 : y = 2
  · subst h2; exact calls13_2 h st ce th u p0 p1 p2 p3 p4 p5
  by_cases h3 : y = 3
  · subst h3; exact calls13_3 h st ce th u p0 p1 p2 p3 p4 p5
  by_cases h4 : y = 4
  · subst h4; exact calls13_4 h st ce th u p0 p1 p2 p3 p4 p5
  by_cases h5 : y = 5
  · subst h5; exact calls13_5 h st ce th u p0 p1 p2 p3 p4 p5
  exact calls13_0 h y st ce th u p0 p1 p2 p3 p4 p5 (by simp [h2]) (by simp [h3]) (by simp [h4]) (by simp [h5])

end Go.Proofs.Ytobmgnoceacoaaa

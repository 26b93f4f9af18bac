/- Layer 11: the document's writings. -/
import Derived.Test.YtobmgnoceacoaaaYE
import Derived.Test.YtobmgnoceacoaaaXWP
import Derived.Deep.QuietTactic
import Derived.BigQuiet
import Derived.Deep.DeepCutAuto
import Derived.Deep.CutBlock
import Derived.Deep.RegionHeld3
import Derived.StillTailTactics
import Derived.IntWalk
namespace Go.Proofs.Ytobmgnoceacoaaa
open Go.RowKit
attribute [local go_sem] run_store_float

variable {a b k g : Nat} {s : MemS} {w w' : World} {q : WrS}
def wrefArr (q : WrS) (g : Nat) : Array Value := #[.int .i64 q.p0, .int .i64 q.p1, .int .i64 q.p2, .int .i64 q.p3, .int .i64 q.p4, .int .i64 q.p5, .int .i64 q.c, .slice (some ⟨g, 0, none⟩) 3 3, .int .i64 q.n]
/-- A writing of the document's: its struct in block k, its words in block g. -/
structure WrRef (w : World) (k g : Nat) (q : WrS) : Prop where
  hd : w.heap[k]? = some (.cells (wrefArr q g) 205 (0, 0))
  wd : w.heap[g]? = some (.cells #[.int .u64 q.u0, .int .u64 q.u1, .int .u64 q.u2] 28 (0, 0))
theorem WrRef.mod {S : List Nat} (h : WrRef w k g q) (m : Mod S w w') (hk : k ∉ S) (hg : g ∉ S) : WrRef w' k g q := ⟨m.at h.hd hk, m.at h.wd hg⟩
theorem WrRef.drewN (h : WrRef w k g q) (n : Nat) : WrRef (w.drewN n) k g q := ⟨h.hd, h.wd⟩
theorem WrRef.ne (h : WrRef w k g q) : k ≠ g := blk_ne h.hd h.wd (by decide)
theorem store_wd {p4 c k v : Int} (h0 : 0 ≤ c) (h8 : c < 256) : s.store (wdAt p4 c k) v = s.cellS p4 c k v := by
  unfold MemS.cellS
  by_cases h : p4 < 0 ∨ 4096 < p4
  · rw [wdAt_bad h, xpErr_place h0 h8 h, if_neg (by decide)]; unfold MemS.store; rw [acc_neg, if_neg (by decide)]
  · rw [wdAt_ok (by omega) (by omega), if_pos (xpErr_ok h0 h8 (by omega) (by omega))]
set_option maxRecDepth 100000 in
set_option maxHeartbeats 4000000 in
theorem write_r (p0 p1 p2 p3 p4 p5 c ve : Int) (x y : Nat) (w : World) :
    Calls Try.prog 159 #[.agg #[.int .i64 p0, .int .i64 p1, .int .i64 p2, .int .i64 p3, .int .i64 p4, .int .i64 p5], .int .i64 c, .int .u64 ve, .float .f64 x, .float .f64 y] w fun e w' => ∃ k g, e = .returned (.pointer (some ⟨k, 0, none⟩)) ∧ WrRef w' k g (WrS.mk p0 p1 p2 p3 p4 p5 c (fixB x : Int) ve (fixB y : Int) 0) ∧ w.heap.size ≤ k ∧ w.heap.size ≤ g ∧ Mod [] w w' := by
  have P1 : (w.alloc (.cells #[.int .i64 p0, .int .i64 p1, .int .i64 p2, .int .i64 p3, .int .i64 p4, .int .i64 p5] 35)).heap[w.heap.size]? = some (.cells #[.int .i64 p0, .int .i64 p1, .int .i64 p2, .int .i64 p3, .int .i64 p4, .int .i64 p5] 35 (0, 0)) := heap_alloc_new _ _
  go_enter Try.func159, Try.ntmps159
  go_wp2_with fail
  refine (bits_r x _).mono ?_; rintro e w1 ⟨rfl, hw1⟩
  have hw1' := hw1.symm
  subst hw1'
  clear hw1
  go_wp2_with fail
  refine (bits_r y _).mono ?_; rintro e w1 ⟨rfl, hw1⟩
  have hw1' := hw1.symm
  subst hw1'
  clear hw1
  have q0 : (w.alloc (.cells #[.int .i64 p0, .int .i64 p1, .int .i64 p2, .int .i64 p3, .int .i64 p4, .int .i64 p5] 35)).cell? ⟨w.heap.size, 0, none⟩ = some (.int .i64 p0) := cell_of_blk P1 rfl
  have q1 : (w.alloc (.cells #[.int .i64 p0, .int .i64 p1, .int .i64 p2, .int .i64 p3, .int .i64 p4, .int .i64 p5] 35)).cell? ⟨w.heap.size, 1, none⟩ = some (.int .i64 p1) := cell_of_blk P1 rfl
  have q2 : (w.alloc (.cells #[.int .i64 p0, .int .i64 p1, .int .i64 p2, .int .i64 p3, .int .i64 p4, .int .i64 p5] 35)).cell? ⟨w.heap.size, 2, none⟩ = some (.int .i64 p2) := cell_of_blk P1 rfl
  have q3 : (w.alloc (.cells #[.int .i64 p0, .int .i64 p1, .int .i64 p2, .int .i64 p3, .int .i64 p4, .int .i64 p5] 35)).cell? ⟨w.heap.size, 3, none⟩ = some (.int .i64 p3) := cell_of_blk P1 rfl
  have q4 : (w.alloc (.cells #[.int .i64 p0, .int .i64 p1, .int .i64 p2, .int .i64 p3, .int .i64 p4, .int .i64 p5] 35)).cell? ⟨w.heap.size, 4, none⟩ = some (.int .i64 p4) := cell_of_blk P1 rfl
  have q5 : (w.alloc (.cells #[.int .i64 p0, .int .i64 p1, .int .i64 p2, .int .i64 p3, .int .i64 p4, .int .i64 p5] 35)).cell? ⟨w.heap.size, 5, none⟩ = some (.int .i64 p5) := cell_of_blk P1 rfl
  go_wp2
  go_ret
  refine ⟨w.heap.size + 1 + 1, w.heap.size + 1, rfl, ⟨?_, ?_⟩, ?_, ?_, (((Mod.refl _ _).alloc _).alloc _).alloc _⟩
  · have h := heap_alloc_new ((w.alloc (.cells #[.int .i64 p0, .int .i64 p1, .int .i64 p2, .int .i64 p3, .int .i64 p4, .int .i64 p5] 35)).alloc (.cells #[.int .u64 (fixB x : Int), .int .u64 ve, .int .u64 (fixB y : Int)] 28)) (.cells (wrefArr (WrS.mk p0 p1 p2 p3 p4 p5 c (fixB x : Int) ve (fixB y : Int) 0) (w.heap.size + 1)) 205)
    rw [World.size_alloc, World.size_alloc] at h
    exact h
  · exact blk_alloc_old _ (blk2 w (.cells #[.int .i64 p0, .int .i64 p1, .int .i64 p2, .int .i64 p3, .int .i64 p4, .int .i64 p5] 35) _)
  · omega
  · omega
set_option maxRecDepth 100000 in
set_option maxHeartbeats 4000000 in
theorem wr_over (h : WrRef w k g q) (hn : q.n = 3) : Calls Try.prog 164 #[.pointer (some ⟨k, 0, none⟩), .pointer (some ⟨a, 0, none⟩)] w fun e w' => e = .returned (.tuple #[.bool false, .int .i64 3]) ∧ w' = w := by
  have r8 : w.cell? ⟨k, 8, none⟩ = some (.int .i64 3) := by rw [← hn]; exact cell_of_blk h.hd rfl
  clear h hn
  go_enter Try.func164, Try.ntmps164
  go_wp2
  go_ret2
  exact ⟨rfl, rfl⟩
set_option maxRecDepth 100000 in
set_option maxHeartbeats 4000000 in
theorem wr_cell (h : WrRef w k g q) (hn0 : 0 ≤ q.n) (hn : q.n ≤ 2) (hc : q.c < 0 ∨ 256 ≤ q.c) : Calls Try.prog 164 #[.pointer (some ⟨k, 0, none⟩), .pointer (some ⟨a, 0, none⟩)] w fun e w' => e = .returned (.tuple #[.bool false, .int .i64 60]) ∧ w' = w := by
  have r8 : w.cell? ⟨k, 8, none⟩ = some (.int .i64 q.n) := cell_of_blk h.hd rfl
  have r6 : w.cell? ⟨k, 6, none⟩ = some (.int .i64 q.c) := cell_of_blk h.hd rfl
  clear h
  go_enter Try.func164, Try.ntmps164
  go_wp2_with fail
  refine (mayBe_n q.c hc _).mono ?_; rintro e w1 ⟨rfl, rfl⟩
  go_wp2
  go_ret2
  exact ⟨rfl, rfl⟩

set_option maxRecDepth 100000 in
set_option maxHeartbeats 40000000 in
theorem wr_bad0 (hk : w.heap[k]? = some (.cells (#[.int .i64 q.p0, .int .i64 q.p1, .int .i64 q.p2, .int .i64 q.p3, .int .i64 q.p4, .int .i64 q.p5, .int .i64 q.c, .slice (some ⟨g, 0, none⟩) 3 3, .int .i64 0]) 205 (0, 0))) (hg : w.heap[g]? = some (.cells #[.int .u64 q.u0, .int .u64 q.u1, .int .u64 q.u2] 28 (0, 0))) (hM : MemAt 148 w a b s) (hga : g ≠ a) (hgb : g ≠ b) (h0 : 0 ≤ q.c) (h8 : q.c < 256) (he : (s.cellE q.p4 q.c 2 != 0) = true) :
    Calls Try.prog 164 #[.pointer (some ⟨k, 0, none⟩), .pointer (some ⟨a, 0, none⟩)] w fun e w' => e = .returned (.tuple #[.bool false, .int .i64 (s.cellE q.p4 q.c 2)]) ∧ MemAt 148 w' a b (s.cellS q.p4 q.c 2 q.u0) ∧ w'.heap[k]? = some (.cells (#[.int .i64 q.p0, .int .i64 q.p1, .int .i64 q.p2, .int .i64 q.p3, .int .i64 q.p4, .int .i64 q.p5, .int .i64 q.c, .slice (some ⟨g, 0, none⟩) 3 3, .int .i64 0]) 205 (0, 0)) ∧ w'.heap[g]? = some (.cells #[.int .u64 q.u0, .int .u64 q.u1, .int .u64 q.u2] 28 (0, 0)) ∧ Mod [a, b, k] w w' := by
  have hka : k ≠ a := blk_ne hk hM.hd (by decide)
  have hkb : k ≠ b := blk_ne hk hM.ws (by decide)
  have hgk : g ≠ k := Ne.symm (blk_ne hk hg (by decide))
  
  
  have r6 : w.cell? ⟨k, 6, none⟩ = some (.int .i64 q.c) := cell_of_blk hk rfl
  have r8 : w.cell? ⟨k, 8, none⟩ = some (.int .i64 0) := cell_of_blk hk rfl
  go_enter Try.func164, Try.ntmps164
  go_wp2_with fail
  refine (mayBe_y q.c h0 h8 _).mono ?_; rintro e w1 ⟨rfl, hw1⟩
  have hw1' := hw1.symm
  subst hw1'
  clear hw1 r6 r8
  go_upto_region 7 with fail
  have K1 := blk_alloc_old (.cells #[.int .i64 2, .int .i64 0, .int .i64 1] 3) hk
  have G1 := blk_alloc_old (.cells #[.int .i64 2, .int .i64 0, .int .i64 1] 3) hg
  have M1 := hM.alloc (.cells #[.int .i64 2, .int .i64 0, .int .i64 1] 3)
  have L1 : (w.alloc (.cells #[.int .i64 2, .int .i64 0, .int .i64 1] 3)).heap[w.heap.size]? = some (.cells #[.int .i64 2, .int .i64 0, .int .i64 1] 3 (0, 0)) := heap_alloc_new _ _
  have D1 : Mod [a, b, k] w (w.alloc (.cells #[.int .i64 2, .int .i64 0, .int .i64 1] 3)) := (Mod.refl _ _).alloc _
  clear hk hg hM
  generalize w.alloc (.cells #[.int .i64 2, .int .i64 0, .int .i64 1] 3) = w1 at *
  generalize w.heap.size = lb at *
  have l0 : w1.cell? ⟨lb, 0, none⟩ = some (.int .i64 2) := cell_of_blk L1 rfl
  have r0 : w1.cell? ⟨k, 0, none⟩ = some (.int .i64 q.p0) := cell_of_blk K1 rfl
  have r1 : w1.cell? ⟨k, 1, none⟩ = some (.int .i64 q.p1) := cell_of_blk K1 rfl
  have r2 : w1.cell? ⟨k, 2, none⟩ = some (.int .i64 q.p2) := cell_of_blk K1 rfl
  have r3 : w1.cell? ⟨k, 3, none⟩ = some (.int .i64 q.p3) := cell_of_blk K1 rfl
  have r4 : w1.cell? ⟨k, 4, none⟩ = some (.int .i64 q.p4) := cell_of_blk K1 rfl
  have r5 : w1.cell? ⟨k, 5, none⟩ = some (.int .i64 q.p5) := cell_of_blk K1 rfl
  have r6 : w1.cell? ⟨k, 6, none⟩ = some (.int .i64 q.c) := cell_of_blk K1 rfl
  have r8 : w1.cell? ⟨k, 8, none⟩ = some (.int .i64 0) := cell_of_blk K1 rfl
  go_cut [8] (fun A wx => A = .int .i64 (wdAt q.p4 q.c 2) ∧ wx.heap[k]? = some (.cells (#[.int .i64 q.p0, .int .i64 q.p1, .int .i64 q.p2, .int .i64 q.p3, .int .i64 q.p4, .int .i64 q.p5, .int .i64 q.c, .slice (some ⟨g, 0, none⟩) 3 3, .int .i64 0]) 205 (0, 0)) ∧ wx.heap[g]? = some (.cells #[.int .u64 q.u0, .int .u64 q.u1, .int .u64 q.u2] 28 (0, 0)) ∧ MemAt 148 wx a b s ∧ Mod [a, b, k] w wx)
  case first =>
    go_region_held3 (fun wx => wx.cell? ⟨k, 0, none⟩ = some (.int .i64 q.p0) ∧ wx.cell? ⟨k, 1, none⟩ = some (.int .i64 q.p1) ∧ wx.cell? ⟨k, 2, none⟩ = some (.int .i64 q.p2) ∧ wx.cell? ⟨k, 3, none⟩ = some (.int .i64 q.p3) ∧ wx.cell? ⟨k, 4, none⟩ = some (.int .i64 q.p4) ∧ wx.cell? ⟨k, 5, none⟩ = some (.int .i64 q.p5) ∧ wx.cell? ⟨k, 6, none⟩ = some (.int .i64 q.c) ∧ wx.cell? ⟨k, 8, none⟩ = some (.int .i64 0) ∧ wx.cell? ⟨lb, 0, none⟩ = some (.int .i64 2)) (first | exact ⟨r0, r1, r2, r3, r4, r5, r6, r8, l0⟩ | exact ⟨cell_of_blk K2 rfl, cell_of_blk K2 rfl, cell_of_blk K2 rfl, cell_of_blk K2 rfl, cell_of_blk K2 rfl, cell_of_blk K2 rfl, cell_of_blk K2 rfl, cell_of_blk K2 rfl, cell_of_blk L2 rfl⟩)
      (first | (go_at_call 156; refine (word_r q.p0 q.p1 q.p2 q.p3 q.p4 q.p5 q.c 2 h0 h8 (by omega) (by omega) _).mono ?_; rintro e w2 ⟨rfl, hw2⟩; have d2 : Mod [] w1.drew w2 := hw2 ▸ (Mod.refl _ _).alloc _; clear hw2; have K2 := d2.at (k := k) (o := .cells (#[.int .i64 q.p0, .int .i64 q.p1, .int .i64 q.p2, .int .i64 q.p3, .int .i64 q.p4, .int .i64 q.p5, .int .i64 q.c, .slice (some ⟨g, 0, none⟩) 3 3, .int .i64 0]) 205 (0, 0)) K1 (by simp); have L2 := d2.at (k := lb) (o := .cells #[.int .i64 2, .int .i64 0, .int .i64 1] 3 (0, 0)) L1 (by simp)))
    all_goals
      go_wp2_with fail
      go_meet
      exact ⟨rfl, K2, d2.at (k := g) (o := .cells #[.int .u64 q.u0, .int .u64 q.u1, .int .u64 q.u2] 28 (0, 0)) G1 (by simp), M1.drew.mod d2 (by simp) (by simp), D1.drew.trans (d2.weak _)⟩
  case rest =>
    obtain ⟨rfl, K3, G3, M3, D3⟩ := hcut
    clear r0 r1 r2 r3 r4 r5 r6 r8 l0 K1 G1 M1 L1 D1
    obtain ⟨w3, rfl⟩ : ∃ w3, w3 = wc := ⟨_, rfl⟩
    have g0 : w3.cell? ⟨g, 0, none⟩ = some (.int .u64 q.u0) := cell_of_blk G3 rfl
    have r7 : w3.cell? ⟨k, 7, none⟩ = some (.slice (some ⟨g, 0, none⟩) 3 3) := cell_of_blk K3 rfl
    have r8 : w3.cell? ⟨k, 8, none⟩ = some (.int .i64 0) := cell_of_blk K3 rfl
    go_upto_region 8 with fail
    go_cut [9] (fun A wx => A = .int .i64 (s.cellE q.p4 q.c 2) ∧ wx.heap[k]? = some (.cells (#[.int .i64 q.p0, .int .i64 q.p1, .int .i64 q.p2, .int .i64 q.p3, .int .i64 q.p4, .int .i64 q.p5, .int .i64 q.c, .slice (some ⟨g, 0, none⟩) 3 3, .int .i64 0]) 205 (0, 0)) ∧ wx.heap[g]? = some (.cells #[.int .u64 q.u0, .int .u64 q.u1, .int .u64 q.u2] 28 (0, 0)) ∧ MemAt 148 wx a b (s.cellS q.p4 q.c 2 q.u0) ∧ Mod [a, b, k] w wx)
    case first =>
      go_region_held3 (fun wx => wx.cell? ⟨k, 7, none⟩ = some (.slice (some ⟨g, 0, none⟩) 3 3) ∧ wx.cell? ⟨k, 8, none⟩ = some (.int .i64 0) ∧ wx.cell? ⟨g, 0, none⟩ = some (.int .u64 q.u0)) (first | exact ⟨r7, r8, g0⟩ | exact ⟨cell_of_blk K4 rfl, cell_of_blk K4 rfl, cell_of_blk G4 rfl⟩)
        (first | (go_at_call 98; refine (store_r M3.drew (wdAt q.p4 q.c 2) q.u0).mono ?_; rintro e w4 ⟨rfl, M4, d4⟩; rw [acc_wd h0 h8]; rw [store_wd h0 h8] at M4; have K4 := d4.at (k := k) (o := .cells (#[.int .i64 q.p0, .int .i64 q.p1, .int .i64 q.p2, .int .i64 q.p3, .int .i64 q.p4, .int .i64 q.p5, .int .i64 q.c, .slice (some ⟨g, 0, none⟩) 3 3, .int .i64 0]) 205 (0, 0)) K3 (by simp [hka, hkb]); have G4 := d4.at (k := g) (o := .cells #[.int .u64 q.u0, .int .u64 q.u1, .int .u64 q.u2] 28 (0, 0)) G3 (by simp [hga, hgb])))
      all_goals
        go_wp2_with fail
        go_meet
        exact ⟨rfl, K4, G4, M4, D3.drew.trans (d4.mono (by simp))⟩
    case rest =>
      obtain ⟨rfl, K5, G5, M5, D5⟩ := hcut
      clear g0 r7 r8 K3 G3 M3 D3
      obtain ⟨w5, rfl⟩ : ∃ w5, w5 = wc := ⟨_, rfl⟩
      go_wp2
      go_ret2
      exact ⟨rfl, M5, K5, G5, D5⟩

set_option maxRecDepth 100000 in
set_option maxHeartbeats 40000000 in
theorem wr_ok0 (hk : w.heap[k]? = some (.cells (#[.int .i64 q.p0, .int .i64 q.p1, .int .i64 q.p2, .int .i64 q.p3, .int .i64 q.p4, .int .i64 q.p5, .int .i64 q.c, .slice (some ⟨g, 0, none⟩) 3 3, .int .i64 0]) 205 (0, 0))) (hg : w.heap[g]? = some (.cells #[.int .u64 q.u0, .int .u64 q.u1, .int .u64 q.u2] 28 (0, 0))) (hM : MemAt 148 w a b s) (hga : g ≠ a) (hgb : g ≠ b) (h0 : 0 ≤ q.c) (h8 : q.c < 256) (he : s.cellE q.p4 q.c 2 = 0) :
    Calls Try.prog 164 #[.pointer (some ⟨k, 0, none⟩), .pointer (some ⟨a, 0, none⟩)] w fun e w' => e = .returned (.tuple #[.bool false, .int .i64 0]) ∧ MemAt 148 w' a b (s.cellS q.p4 q.c 2 q.u0) ∧ w'.heap[k]? = some (.cells (#[.int .i64 q.p0, .int .i64 q.p1, .int .i64 q.p2, .int .i64 q.p3, .int .i64 q.p4, .int .i64 q.p5, .int .i64 q.c, .slice (some ⟨g, 0, none⟩) 3 3, .int .i64 1]) 205 (0, 0)) ∧ w'.heap[g]? = some (.cells #[.int .u64 q.u0, .int .u64 q.u1, .int .u64 q.u2] 28 (0, 0)) ∧ Mod [a, b, k] w w' := by
  have hka : k ≠ a := blk_ne hk hM.hd (by decide)
  have hkb : k ≠ b := blk_ne hk hM.ws (by decide)
  have hgk : g ≠ k := Ne.symm (blk_ne hk hg (by decide))
  have He := Lib.hid he
  clear he
  have r6 : w.cell? ⟨k, 6, none⟩ = some (.int .i64 q.c) := cell_of_blk hk rfl
  have r8 : w.cell? ⟨k, 8, none⟩ = some (.int .i64 0) := cell_of_blk hk rfl
  go_enter Try.func164, Try.ntmps164
  go_wp2_with fail
  refine (mayBe_y q.c h0 h8 _).mono ?_; rintro e w1 ⟨rfl, hw1⟩
  have hw1' := hw1.symm
  subst hw1'
  clear hw1 r6 r8
  go_upto_region 7 with fail
  have K1 := blk_alloc_old (.cells #[.int .i64 2, .int .i64 0, .int .i64 1] 3) hk
  have G1 := blk_alloc_old (.cells #[.int .i64 2, .int .i64 0, .int .i64 1] 3) hg
  have M1 := hM.alloc (.cells #[.int .i64 2, .int .i64 0, .int .i64 1] 3)
  have L1 : (w.alloc (.cells #[.int .i64 2, .int .i64 0, .int .i64 1] 3)).heap[w.heap.size]? = some (.cells #[.int .i64 2, .int .i64 0, .int .i64 1] 3 (0, 0)) := heap_alloc_new _ _
  have D1 : Mod [a, b, k] w (w.alloc (.cells #[.int .i64 2, .int .i64 0, .int .i64 1] 3)) := (Mod.refl _ _).alloc _
  clear hk hg hM
  generalize w.alloc (.cells #[.int .i64 2, .int .i64 0, .int .i64 1] 3) = w1 at *
  generalize w.heap.size = lb at *
  have l0 : w1.cell? ⟨lb, 0, none⟩ = some (.int .i64 2) := cell_of_blk L1 rfl
  have r0 : w1.cell? ⟨k, 0, none⟩ = some (.int .i64 q.p0) := cell_of_blk K1 rfl
  have r1 : w1.cell? ⟨k, 1, none⟩ = some (.int .i64 q.p1) := cell_of_blk K1 rfl
  have r2 : w1.cell? ⟨k, 2, none⟩ = some (.int .i64 q.p2) := cell_of_blk K1 rfl
  have r3 : w1.cell? ⟨k, 3, none⟩ = some (.int .i64 q.p3) := cell_of_blk K1 rfl
  have r4 : w1.cell? ⟨k, 4, none⟩ = some (.int .i64 q.p4) := cell_of_blk K1 rfl
  have r5 : w1.cell? ⟨k, 5, none⟩ = some (.int .i64 q.p5) := cell_of_blk K1 rfl
  have r6 : w1.cell? ⟨k, 6, none⟩ = some (.int .i64 q.c) := cell_of_blk K1 rfl
  have r8 : w1.cell? ⟨k, 8, none⟩ = some (.int .i64 0) := cell_of_blk K1 rfl
  go_cut [8] (fun A wx => A = .int .i64 (wdAt q.p4 q.c 2) ∧ wx.heap[k]? = some (.cells (#[.int .i64 q.p0, .int .i64 q.p1, .int .i64 q.p2, .int .i64 q.p3, .int .i64 q.p4, .int .i64 q.p5, .int .i64 q.c, .slice (some ⟨g, 0, none⟩) 3 3, .int .i64 0]) 205 (0, 0)) ∧ wx.heap[g]? = some (.cells #[.int .u64 q.u0, .int .u64 q.u1, .int .u64 q.u2] 28 (0, 0)) ∧ MemAt 148 wx a b s ∧ Mod [a, b, k] w wx)
  case first =>
    go_region_held3 (fun wx => wx.cell? ⟨k, 0, none⟩ = some (.int .i64 q.p0) ∧ wx.cell? ⟨k, 1, none⟩ = some (.int .i64 q.p1) ∧ wx.cell? ⟨k, 2, none⟩ = some (.int .i64 q.p2) ∧ wx.cell? ⟨k, 3, none⟩ = some (.int .i64 q.p3) ∧ wx.cell? ⟨k, 4, none⟩ = some (.int .i64 q.p4) ∧ wx.cell? ⟨k, 5, none⟩ = some (.int .i64 q.p5) ∧ wx.cell? ⟨k, 6, none⟩ = some (.int .i64 q.c) ∧ wx.cell? ⟨k, 8, none⟩ = some (.int .i64 0) ∧ wx.cell? ⟨lb, 0, none⟩ = some (.int .i64 2)) (first | exact ⟨r0, r1, r2, r3, r4, r5, r6, r8, l0⟩ | exact ⟨cell_of_blk K2 rfl, cell_of_blk K2 rfl, cell_of_blk K2 rfl, cell_of_blk K2 rfl, cell_of_blk K2 rfl, cell_of_blk K2 rfl, cell_of_blk K2 rfl, cell_of_blk K2 rfl, cell_of_blk L2 rfl⟩)
      (first | (go_at_call 156; refine (word_r q.p0 q.p1 q.p2 q.p3 q.p4 q.p5 q.c 2 h0 h8 (by omega) (by omega) _).mono ?_; rintro e w2 ⟨rfl, hw2⟩; have d2 : Mod [] w1.drew w2 := hw2 ▸ (Mod.refl _ _).alloc _; clear hw2; have K2 := d2.at (k := k) (o := .cells (#[.int .i64 q.p0, .int .i64 q.p1, .int .i64 q.p2, .int .i64 q.p3, .int .i64 q.p4, .int .i64 q.p5, .int .i64 q.c, .slice (some ⟨g, 0, none⟩) 3 3, .int .i64 0]) 205 (0, 0)) K1 (by simp); have L2 := d2.at (k := lb) (o := .cells #[.int .i64 2, .int .i64 0, .int .i64 1] 3 (0, 0)) L1 (by simp)))
    all_goals
      go_wp2_with fail
      go_meet
      exact ⟨rfl, K2, d2.at (k := g) (o := .cells #[.int .u64 q.u0, .int .u64 q.u1, .int .u64 q.u2] 28 (0, 0)) G1 (by simp), M1.drew.mod d2 (by simp) (by simp), D1.drew.trans (d2.weak _)⟩
  case rest =>
    obtain ⟨rfl, K3, G3, M3, D3⟩ := hcut
    clear r0 r1 r2 r3 r4 r5 r6 r8 l0 K1 G1 M1 L1 D1
    obtain ⟨w3, rfl⟩ : ∃ w3, w3 = wc := ⟨_, rfl⟩
    have g0 : w3.cell? ⟨g, 0, none⟩ = some (.int .u64 q.u0) := cell_of_blk G3 rfl
    have r7 : w3.cell? ⟨k, 7, none⟩ = some (.slice (some ⟨g, 0, none⟩) 3 3) := cell_of_blk K3 rfl
    have r8 : w3.cell? ⟨k, 8, none⟩ = some (.int .i64 0) := cell_of_blk K3 rfl
    go_upto_region 8 with fail
    go_cut [9] (fun A wx => A = .int .i64 (s.cellE q.p4 q.c 2) ∧ wx.heap[k]? = some (.cells (#[.int .i64 q.p0, .int .i64 q.p1, .int .i64 q.p2, .int .i64 q.p3, .int .i64 q.p4, .int .i64 q.p5, .int .i64 q.c, .slice (some ⟨g, 0, none⟩) 3 3, .int .i64 0]) 205 (0, 0)) ∧ wx.heap[g]? = some (.cells #[.int .u64 q.u0, .int .u64 q.u1, .int .u64 q.u2] 28 (0, 0)) ∧ MemAt 148 wx a b (s.cellS q.p4 q.c 2 q.u0) ∧ Mod [a, b, k] w wx)
    case first =>
      go_region_held3 (fun wx => wx.cell? ⟨k, 7, none⟩ = some (.slice (some ⟨g, 0, none⟩) 3 3) ∧ wx.cell? ⟨k, 8, none⟩ = some (.int .i64 0) ∧ wx.cell? ⟨g, 0, none⟩ = some (.int .u64 q.u0)) (first | exact ⟨r7, r8, g0⟩ | exact ⟨cell_of_blk K4 rfl, cell_of_blk K4 rfl, cell_of_blk G4 rfl⟩)
        (first | (go_at_call 98; refine (store_r M3.drew (wdAt q.p4 q.c 2) q.u0).mono ?_; rintro e w4 ⟨rfl, M4, d4⟩; rw [acc_wd h0 h8]; rw [store_wd h0 h8] at M4; have K4 := d4.at (k := k) (o := .cells (#[.int .i64 q.p0, .int .i64 q.p1, .int .i64 q.p2, .int .i64 q.p3, .int .i64 q.p4, .int .i64 q.p5, .int .i64 q.c, .slice (some ⟨g, 0, none⟩) 3 3, .int .i64 0]) 205 (0, 0)) K3 (by simp [hka, hkb]); have G4 := d4.at (k := g) (o := .cells #[.int .u64 q.u0, .int .u64 q.u1, .int .u64 q.u2] 28 (0, 0)) G3 (by simp [hga, hgb])))
      all_goals
        go_wp2_with fail
        go_meet
        exact ⟨rfl, K4, G4, M4, D3.drew.trans (d4.mono (by simp))⟩
    case rest =>
      obtain ⟨rfl, K5, G5, M5, D5⟩ := hcut
      clear g0 r7 r8 K3 G3 M3 D3
      obtain ⟨w5, rfl⟩ : ∃ w5, w5 = wc := ⟨_, rfl⟩
      rw [He.out]
      have r8 : w5.cell? ⟨k, 8, none⟩ = some (.int .i64 0) := cell_of_blk K5 rfl
      have z8 := free_of_blk (i := 8) K5
      go_upto_region 12 with fail
      have K6 := blk_setCell_same (i := 8) (.int .i64 1) K5
      simp only [List.setIfInBounds_toArray, List.set_cons_succ, List.set_cons_zero] at K6
      have G6 := blk_setCell_other (i := 8) (.int .i64 1) G5 hgk
      have M6 := M5.other k 8 (.int .i64 1) (Ne.symm hka) (Ne.symm hkb)
      have D6 := D5.setCell ⟨k, 8, none⟩ (.int .i64 1) (.inl (by simp))
      clear r8 z8 K5 M5 G5 D5
      generalize w5.setCell ⟨k, 8, none⟩ (.int .i64 1) = w6 at *
      have r8 : w6.cell? ⟨k, 8, none⟩ = some (.int .i64 1) := cell_of_blk K6 rfl
      go_wp2
      go_ret2
      exact ⟨rfl, M6, K6, G6, D6⟩

set_option maxRecDepth 100000 in
set_option maxHeartbeats 40000000 in
theorem wr_bad1 (hk : w.heap[k]? = some (.cells (#[.int .i64 q.p0, .int .i64 q.p1, .int .i64 q.p2, .int .i64 q.p3, .int .i64 q.p4, .int .i64 q.p5, .int .i64 q.c, .slice (some ⟨g, 0, none⟩) 3 3, .int .i64 1]) 205 (0, 0))) (hg : w.heap[g]? = some (.cells #[.int .u64 q.u0, .int .u64 q.u1, .int .u64 q.u2] 28 (0, 0))) (hM : MemAt 148 w a b s) (hga : g ≠ a) (hgb : g ≠ b) (h0 : 0 ≤ q.c) (h8 : q.c < 256) (he : (s.cellE q.p4 q.c 0 != 0) = true) :
    Calls Try.prog 164 #[.pointer (some ⟨k, 0, none⟩), .pointer (some ⟨a, 0, none⟩)] w fun e w' => e = .returned (.tuple #[.bool false, .int .i64 (s.cellE q.p4 q.c 0)]) ∧ MemAt 148 w' a b (s.cellS q.p4 q.c 0 q.u1) ∧ w'.heap[k]? = some (.cells (#[.int .i64 q.p0, .int .i64 q.p1, .int .i64 q.p2, .int .i64 q.p3, .int .i64 q.p4, .int .i64 q.p5, .int .i64 q.c, .slice (some ⟨g, 0, none⟩) 3 3, .int .i64 1]) 205 (0, 0)) ∧ w'.heap[g]? = some (.cells #[.int .u64 q.u0, .int .u64 q.u1, .int .u64 q.u2] 28 (0, 0)) ∧ Mod [a, b, k] w w' := by
  have hka : k ≠ a := blk_ne hk hM.hd (by decide)
  have hkb : k ≠ b := blk_ne hk hM.ws (by decide)
  have hgk : g ≠ k := Ne.symm (blk_ne hk hg (by decide))
  
  
  have r6 : w.cell? ⟨k, 6, none⟩ = some (.int .i64 q.c) := cell_of_blk hk rfl
  have r8 : w.cell? ⟨k, 8, none⟩ = some (.int .i64 1) := cell_of_blk hk rfl
  go_enter Try.func164, Try.ntmps164
  go_wp2_with fail
  refine (mayBe_y q.c h0 h8 _).mono ?_; rintro e w1 ⟨rfl, hw1⟩
  have hw1' := hw1.symm
  subst hw1'
  clear hw1 r6 r8
  go_upto_region 7 with fail
  have K1 := blk_alloc_old (.cells #[.int .i64 2, .int .i64 0, .int .i64 1] 3) hk
  have G1 := blk_alloc_old (.cells #[.int .i64 2, .int .i64 0, .int .i64 1] 3) hg
  have M1 := hM.alloc (.cells #[.int .i64 2, .int .i64 0, .int .i64 1] 3)
  have L1 : (w.alloc (.cells #[.int .i64 2, .int .i64 0, .int .i64 1] 3)).heap[w.heap.size]? = some (.cells #[.int .i64 2, .int .i64 0, .int .i64 1] 3 (0, 0)) := heap_alloc_new _ _
  have D1 : Mod [a, b, k] w (w.alloc (.cells #[.int .i64 2, .int .i64 0, .int .i64 1] 3)) := (Mod.refl _ _).alloc _
  clear hk hg hM
  generalize w.alloc (.cells #[.int .i64 2, .int .i64 0, .int .i64 1] 3) = w1 at *
  generalize w.heap.size = lb at *
  have l1 : w1.cell? ⟨lb, 1, none⟩ = some (.int .i64 0) := cell_of_blk L1 rfl
  have r0 : w1.cell? ⟨k, 0, none⟩ = some (.int .i64 q.p0) := cell_of_blk K1 rfl
  have r1 : w1.cell? ⟨k, 1, none⟩ = some (.int .i64 q.p1) := cell_of_blk K1 rfl
  have r2 : w1.cell? ⟨k, 2, none⟩ = some (.int .i64 q.p2) := cell_of_blk K1 rfl
  have r3 : w1.cell? ⟨k, 3, none⟩ = some (.int .i64 q.p3) := cell_of_blk K1 rfl
  have r4 : w1.cell? ⟨k, 4, none⟩ = some (.int .i64 q.p4) := cell_of_blk K1 rfl
  have r5 : w1.cell? ⟨k, 5, none⟩ = some (.int .i64 q.p5) := cell_of_blk K1 rfl
  have r6 : w1.cell? ⟨k, 6, none⟩ = some (.int .i64 q.c) := cell_of_blk K1 rfl
  have r8 : w1.cell? ⟨k, 8, none⟩ = some (.int .i64 1) := cell_of_blk K1 rfl
  go_cut [8] (fun A wx => A = .int .i64 (wdAt q.p4 q.c 0) ∧ wx.heap[k]? = some (.cells (#[.int .i64 q.p0, .int .i64 q.p1, .int .i64 q.p2, .int .i64 q.p3, .int .i64 q.p4, .int .i64 q.p5, .int .i64 q.c, .slice (some ⟨g, 0, none⟩) 3 3, .int .i64 1]) 205 (0, 0)) ∧ wx.heap[g]? = some (.cells #[.int .u64 q.u0, .int .u64 q.u1, .int .u64 q.u2] 28 (0, 0)) ∧ MemAt 148 wx a b s ∧ Mod [a, b, k] w wx)
  case first =>
    go_region_held3 (fun wx => wx.cell? ⟨k, 0, none⟩ = some (.int .i64 q.p0) ∧ wx.cell? ⟨k, 1, none⟩ = some (.int .i64 q.p1) ∧ wx.cell? ⟨k, 2, none⟩ = some (.int .i64 q.p2) ∧ wx.cell? ⟨k, 3, none⟩ = some (.int .i64 q.p3) ∧ wx.cell? ⟨k, 4, none⟩ = some (.int .i64 q.p4) ∧ wx.cell? ⟨k, 5, none⟩ = some (.int .i64 q.p5) ∧ wx.cell? ⟨k, 6, none⟩ = some (.int .i64 q.c) ∧ wx.cell? ⟨k, 8, none⟩ = some (.int .i64 1) ∧ wx.cell? ⟨lb, 1, none⟩ = some (.int .i64 0)) (first | exact ⟨r0, r1, r2, r3, r4, r5, r6, r8, l1⟩ | exact ⟨cell_of_blk K2 rfl, cell_of_blk K2 rfl, cell_of_blk K2 rfl, cell_of_blk K2 rfl, cell_of_blk K2 rfl, cell_of_blk K2 rfl, cell_of_blk K2 rfl, cell_of_blk K2 rfl, cell_of_blk L2 rfl⟩)
      (first | (go_at_call 156; refine (word_r q.p0 q.p1 q.p2 q.p3 q.p4 q.p5 q.c 0 h0 h8 (by omega) (by omega) _).mono ?_; rintro e w2 ⟨rfl, hw2⟩; have d2 : Mod [] w1.drew w2 := hw2 ▸ (Mod.refl _ _).alloc _; clear hw2; have K2 := d2.at (k := k) (o := .cells (#[.int .i64 q.p0, .int .i64 q.p1, .int .i64 q.p2, .int .i64 q.p3, .int .i64 q.p4, .int .i64 q.p5, .int .i64 q.c, .slice (some ⟨g, 0, none⟩) 3 3, .int .i64 1]) 205 (0, 0)) K1 (by simp); have L2 := d2.at (k := lb) (o := .cells #[.int .i64 2, .int .i64 0, .int .i64 1] 3 (0, 0)) L1 (by simp)))
    all_goals
      go_wp2_with fail
      go_meet
      exact ⟨rfl, K2, d2.at (k := g) (o := .cells #[.int .u64 q.u0, .int .u64 q.u1, .int .u64 q.u2] 28 (0, 0)) G1 (by simp), M1.drew.mod d2 (by simp) (by simp), D1.drew.trans (d2.weak _)⟩
  case rest =>
    obtain ⟨rfl, K3, G3, M3, D3⟩ := hcut
    clear r0 r1 r2 r3 r4 r5 r6 r8 l1 K1 G1 M1 L1 D1
    obtain ⟨w3, rfl⟩ : ∃ w3, w3 = wc := ⟨_, rfl⟩
    have g1 : w3.cell? ⟨g, 1, none⟩ = some (.int .u64 q.u1) := cell_of_blk G3 rfl
    have r7 : w3.cell? ⟨k, 7, none⟩ = some (.slice (some ⟨g, 0, none⟩) 3 3) := cell_of_blk K3 rfl
    have r8 : w3.cell? ⟨k, 8, none⟩ = some (.int .i64 1) := cell_of_blk K3 rfl
    go_upto_region 8 with fail
    go_cut [9] (fun A wx => A = .int .i64 (s.cellE q.p4 q.c 0) ∧ wx.heap[k]? = some (.cells (#[.int .i64 q.p0, .int .i64 q.p1, .int .i64 q.p2, .int .i64 q.p3, .int .i64 q.p4, .int .i64 q.p5, .int .i64 q.c, .slice (some ⟨g, 0, none⟩) 3 3, .int .i64 1]) 205 (0, 0)) ∧ wx.heap[g]? = some (.cells #[.int .u64 q.u0, .int .u64 q.u1, .int .u64 q.u2] 28 (0, 0)) ∧ MemAt 148 wx a b (s.cellS q.p4 q.c 0 q.u1) ∧ Mod [a, b, k] w wx)
    case first =>
      go_region_held3 (fun wx => wx.cell? ⟨k, 7, none⟩ = some (.slice (some ⟨g, 0, none⟩) 3 3) ∧ wx.cell? ⟨k, 8, none⟩ = some (.int .i64 1) ∧ wx.cell? ⟨g, 1, none⟩ = some (.int .u64 q.u1)) (first | exact ⟨r7, r8, g1⟩ | exact ⟨cell_of_blk K4 rfl, cell_of_blk K4 rfl, cell_of_blk G4 rfl⟩)
        (first | (go_at_call 98; refine (store_r M3.drew (wdAt q.p4 q.c 0) q.u1).mono ?_; rintro e w4 ⟨rfl, M4, d4⟩; rw [acc_wd h0 h8]; rw [store_wd h0 h8] at M4; have K4 := d4.at (k := k) (o := .cells (#[.int .i64 q.p0, .int .i64 q.p1, .int .i64 q.p2, .int .i64 q.p3, .int .i64 q.p4, .int .i64 q.p5, .int .i64 q.c, .slice (some ⟨g, 0, none⟩) 3 3, .int .i64 1]) 205 (0, 0)) K3 (by simp [hka, hkb]); have G4 := d4.at (k := g) (o := .cells #[.int .u64 q.u0, .int .u64 q.u1, .int .u64 q.u2] 28 (0, 0)) G3 (by simp [hga, hgb])))
      all_goals
        go_wp2_with fail
        go_meet
        exact ⟨rfl, K4, G4, M4, D3.drew.trans (d4.mono (by simp))⟩
    case rest =>
      obtain ⟨rfl, K5, G5, M5, D5⟩ := hcut
      clear g1 r7 r8 K3 G3 M3 D3
      obtain ⟨w5, rfl⟩ : ∃ w5, w5 = wc := ⟨_, rfl⟩
      go_wp2
      go_ret2
      exact ⟨rfl, M5, K5, G5, D5⟩

set_option maxRecDepth 100000 in
set_option maxHeartbeats 40000000 in
theorem wr_ok1 (hk : w.heap[k]? = some (.cells (#[.int .i64 q.p0, .int .i64 q.p1, .int .i64 q.p2, .int .i64 q.p3, .int .i64 q.p4, .int .i64 q.p5, .int .i64 q.c, .slice (some ⟨g, 0, none⟩) 3 3, .int .i64 1]) 205 (0, 0))) (hg : w.heap[g]? = some (.cells #[.int .u64 q.u0, .int .u64 q.u1, .int .u64 q.u2] 28 (0, 0))) (hM : MemAt 148 w a b s) (hga : g ≠ a) (hgb : g ≠ b) (h0 : 0 ≤ q.c) (h8 : q.c < 256) (he : s.cellE q.p4 q.c 0 = 0) :
    Calls Try.prog 164 #[.pointer (some ⟨k, 0, none⟩), .pointer (some ⟨a, 0, none⟩)] w fun e w' => e = .returned (.tuple #[.bool false, .int .i64 0]) ∧ MemAt 148 w' a b (s.cellS q.p4 q.c 0 q.u1) ∧ w'.heap[k]? = some (.cells (#[.int .i64 q.p0, .int .i64 q.p1, .int .i64 q.p2, .int .i64 q.p3, .int .i64 q.p4, .int .i64 q.p5, .int .i64 q.c, .slice (some ⟨g, 0, none⟩) 3 3, .int .i64 2]) 205 (0, 0)) ∧ w'.heap[g]? = some (.cells #[.int .u64 q.u0, .int .u64 q.u1, .int .u64 q.u2] 28 (0, 0)) ∧ Mod [a, b, k] w w' := by
  have hka : k ≠ a := blk_ne hk hM.hd (by decide)
  have hkb : k ≠ b := blk_ne hk hM.ws (by decide)
  have hgk : g ≠ k := Ne.symm (blk_ne hk hg (by decide))
  have He := Lib.hid he
  clear he
  have r6 : w.cell? ⟨k, 6, none⟩ = some (.int .i64 q.c) := cell_of_blk hk rfl
  have r8 : w.cell? ⟨k, 8, none⟩ = some (.int .i64 1) := cell_of_blk hk rfl
  go_enter Try.func164, Try.ntmps164
  go_wp2_with fail
  refine (mayBe_y q.c h0 h8 _).mono ?_; rintro e w1 ⟨rfl, hw1⟩
  have hw1' := hw1.symm
  subst hw1'
  clear hw1 r6 r8
  go_upto_region 7 with fail
  have K1 := blk_alloc_old (.cells #[.int .i64 2, .int .i64 0, .int .i64 1] 3) hk
  have G1 := blk_alloc_old (.cells #[.int .i64 2, .int .i64 0, .int .i64 1] 3) hg
  have M1 := hM.alloc (.cells #[.int .i64 2, .int .i64 0, .int .i64 1] 3)
  have L1 : (w.alloc (.cells #[.int .i64 2, .int .i64 0, .int .i64 1] 3)).heap[w.heap.size]? = some (.cells #[.int .i64 2, .int .i64 0, .int .i64 1] 3 (0, 0)) := heap_alloc_new _ _
  have D1 : Mod [a, b, k] w (w.alloc (.cells #[.int .i64 2, .int .i64 0, .int .i64 1] 3)) := (Mod.refl _ _).alloc _
  clear hk hg hM
  generalize w.alloc (.cells #[.int .i64 2, .int .i64 0, .int .i64 1] 3) = w1 at *
  generalize w.heap.size = lb at *
  have l1 : w1.cell? ⟨lb, 1, none⟩ = some (.int .i64 0) := cell_of_blk L1 rfl
  have r0 : w1.cell? ⟨k, 0, none⟩ = some (.int .i64 q.p0) := cell_of_blk K1 rfl
  have r1 : w1.cell? ⟨k, 1, none⟩ = some (.int .i64 q.p1) := cell_of_blk K1 rfl
  have r2 : w1.cell? ⟨k, 2, none⟩ = some (.int .i64 q.p2) := cell_of_blk K1 rfl
  have r3 : w1.cell? ⟨k, 3, none⟩ = some (.int .i64 q.p3) := cell_of_blk K1 rfl
  have r4 : w1.cell? ⟨k, 4, none⟩ = some (.int .i64 q.p4) := cell_of_blk K1 rfl
  have r5 : w1.cell? ⟨k, 5, none⟩ = some (.int .i64 q.p5) := cell_of_blk K1 rfl
  have r6 : w1.cell? ⟨k, 6, none⟩ = some (.int .i64 q.c) := cell_of_blk K1 rfl
  have r8 : w1.cell? ⟨k, 8, none⟩ = some (.int .i64 1) := cell_of_blk K1 rfl
  go_cut [8] (fun A wx => A = .int .i64 (wdAt q.p4 q.c 0) ∧ wx.heap[k]? = some (.cells (#[.int .i64 q.p0, .int .i64 q.p1, .int .i64 q.p2, .int .i64 q.p3, .int .i64 q.p4, .int .i64 q.p5, .int .i64 q.c, .slice (some ⟨g, 0, none⟩) 3 3, .int .i64 1]) 205 (0, 0)) ∧ wx.heap[g]? = some (.cells #[.int .u64 q.u0, .int .u64 q.u1, .int .u64 q.u2] 28 (0, 0)) ∧ MemAt 148 wx a b s ∧ Mod [a, b, k] w wx)
  case first =>
    go_region_held3 (fun wx => wx.cell? ⟨k, 0, none⟩ = some (.int .i64 q.p0) ∧ wx.cell? ⟨k, 1, none⟩ = some (.int .i64 q.p1) ∧ wx.cell? ⟨k, 2, none⟩ = some (.int .i64 q.p2) ∧ wx.cell? ⟨k, 3, none⟩ = some (.int .i64 q.p3) ∧ wx.cell? ⟨k, 4, none⟩ = some (.int .i64 q.p4) ∧ wx.cell? ⟨k, 5, none⟩ = some (.int .i64 q.p5) ∧ wx.cell? ⟨k, 6, none⟩ = some (.int .i64 q.c) ∧ wx.cell? ⟨k, 8, none⟩ = some (.int .i64 1) ∧ wx.cell? ⟨lb, 1, none⟩ = some (.int .i64 0)) (first | exact ⟨r0, r1, r2, r3, r4, r5, r6, r8, l1⟩ | exact ⟨cell_of_blk K2 rfl, cell_of_blk K2 rfl, cell_of_blk K2 rfl, cell_of_blk K2 rfl, cell_of_blk K2 rfl, cell_of_blk K2 rfl, cell_of_blk K2 rfl, cell_of_blk K2 rfl, cell_of_blk L2 rfl⟩)
      (first | (go_at_call 156; refine (word_r q.p0 q.p1 q.p2 q.p3 q.p4 q.p5 q.c 0 h0 h8 (by omega) (by omega) _).mono ?_; rintro e w2 ⟨rfl, hw2⟩; have d2 : Mod [] w1.drew w2 := hw2 ▸ (Mod.refl _ _).alloc _; clear hw2; have K2 := d2.at (k := k) (o := .cells (#[.int .i64 q.p0, .int .i64 q.p1, .int .i64 q.p2, .int .i64 q.p3, .int .i64 q.p4, .int .i64 q.p5, .int .i64 q.c, .slice (some ⟨g, 0, none⟩) 3 3, .int .i64 1]) 205 (0, 0)) K1 (by simp); have L2 := d2.at (k := lb) (o := .cells #[.int .i64 2, .int .i64 0, .int .i64 1] 3 (0, 0)) L1 (by simp)))
    all_goals
      go_wp2_with fail
      go_meet
      exact ⟨rfl, K2, d2.at (k := g) (o := .cells #[.int .u64 q.u0, .int .u64 q.u1, .int .u64 q.u2] 28 (0, 0)) G1 (by simp), M1.drew.mod d2 (by simp) (by simp), D1.drew.trans (d2.weak _)⟩
  case rest =>
    obtain ⟨rfl, K3, G3, M3, D3⟩ := hcut
    clear r0 r1 r2 r3 r4 r5 r6 r8 l1 K1 G1 M1 L1 D1
    obtain ⟨w3, rfl⟩ : ∃ w3, w3 = wc := ⟨_, rfl⟩
    have g1 : w3.cell? ⟨g, 1, none⟩ = some (.int .u64 q.u1) := cell_of_blk G3 rfl
    have r7 : w3.cell? ⟨k, 7, none⟩ = some (.slice (some ⟨g, 0, none⟩) 3 3) := cell_of_blk K3 rfl
    have r8 : w3.cell? ⟨k, 8, none⟩ = some (.int .i64 1) := cell_of_blk K3 rfl
    go_upto_region 8 with fail
    go_cut [9] (fun A wx => A = .int .i64 (s.cellE q.p4 q.c 0) ∧ wx.heap[k]? = some (.cells (#[.int .i64 q.p0, .int .i64 q.p1, .int .i64 q.p2, .int .i64 q.p3, .int .i64 q.p4, .int .i64 q.p5, .int .i64 q.c, .slice (some ⟨g, 0, none⟩) 3 3, .int .i64 1]) 205 (0, 0)) ∧ wx.heap[g]? = some (.cells #[.int .u64 q.u0, .int .u64 q.u1, .int .u64 q.u2] 28 (0, 0)) ∧ MemAt 148 wx a b (s.cellS q.p4 q.c 0 q.u1) ∧ Mod [a, b, k] w wx)
    case first =>
      go_region_held3 (fun wx => wx.cell? ⟨k, 7, none⟩ = some (.slice (some ⟨g, 0, none⟩) 3 3) ∧ wx.cell? ⟨k, 8, none⟩ = some (.int .i64 1) ∧ wx.cell? ⟨g, 1, none⟩ = some (.int .u64 q.u1)) (first | exact ⟨r7, r8, g1⟩ | exact ⟨cell_of_blk K4 rfl, cell_of_blk K4 rfl, cell_of_blk G4 rfl⟩)
        (first | (go_at_call 98; refine (store_r M3.drew (wdAt q.p4 q.c 0) q.u1).mono ?_; rintro e w4 ⟨rfl, M4, d4⟩; rw [acc_wd h0 h8]; rw [store_wd h0 h8] at M4; have K4 := d4.at (k := k) (o := .cells (#[.int .i64 q.p0, .int .i64 q.p1, .int .i64 q.p2, .int .i64 q.p3, .int .i64 q.p4, .int .i64 q.p5, .int .i64 q.c, .slice (some ⟨g, 0, none⟩) 3 3, .int .i64 1]) 205 (0, 0)) K3 (by simp [hka, hkb]); have G4 := d4.at (k := g) (o := .cells #[.int .u64 q.u0, .int .u64 q.u1, .int .u64 q.u2] 28 (0, 0)) G3 (by simp [hga, hgb])))
      all_goals
        go_wp2_with fail
        go_meet
        exact ⟨rfl, K4, G4, M4, D3.drew.trans (d4.mono (by simp))⟩
    case rest =>
      obtain ⟨rfl, K5, G5, M5, D5⟩ := hcut
      clear g1 r7 r8 K3 G3 M3 D3
      obtain ⟨w5, rfl⟩ : ∃ w5, w5 = wc := ⟨_, rfl⟩
      rw [He.out]
      have r8 : w5.cell? ⟨k, 8, none⟩ = some (.int .i64 1) := cell_of_blk K5 rfl
      have z8 := free_of_blk (i := 8) K5
      go_upto_region 12 with fail
      have K6 := blk_setCell_same (i := 8) (.int .i64 2) K5
      simp only [List.setIfInBounds_toArray, List.set_cons_succ, List.set_cons_zero] at K6
      have G6 := blk_setCell_other (i := 8) (.int .i64 2) G5 hgk
      have M6 := M5.other k 8 (.int .i64 2) (Ne.symm hka) (Ne.symm hkb)
      have D6 := D5.setCell ⟨k, 8, none⟩ (.int .i64 2) (.inl (by simp))
      clear r8 z8 K5 M5 G5 D5
      generalize w5.setCell ⟨k, 8, none⟩ (.int .i64 2) = w6 at *
      have r8 : w6.cell? ⟨k, 8, none⟩ = some (.int .i64 2) := cell_of_blk K6 rfl
      go_wp2
      go_ret2
      exact ⟨rfl, M6, K6, G6, D6⟩

set_option maxRecDepth 100000 in
set_option maxHeartbeats 40000000 in
theorem wr_bad2 (hk : w.heap[k]? = some (.cells (#[.int .i64 q.p0, .int .i64 q.p1, .int .i64 q.p2, .int .i64 q.p3, .int .i64 q.p4, .int .i64 q.p5, .int .i64 q.c, .slice (some ⟨g, 0, none⟩) 3 3, .int .i64 2]) 205 (0, 0))) (hg : w.heap[g]? = some (.cells #[.int .u64 q.u0, .int .u64 q.u1, .int .u64 q.u2] 28 (0, 0))) (hM : MemAt 148 w a b s) (hga : g ≠ a) (hgb : g ≠ b) (h0 : 0 ≤ q.c) (h8 : q.c < 256) (he : (s.cellE q.p4 q.c 1 != 0) = true) :
    Calls Try.prog 164 #[.pointer (some ⟨k, 0, none⟩), .pointer (some ⟨a, 0, none⟩)] w fun e w' => e = .returned (.tuple #[.bool false, .int .i64 (s.cellE q.p4 q.c 1)]) ∧ MemAt 148 w' a b (s.cellS q.p4 q.c 1 q.u2) ∧ w'.heap[k]? = some (.cells (#[.int .i64 q.p0, .int .i64 q.p1, .int .i64 q.p2, .int .i64 q.p3, .int .i64 q.p4, .int .i64 q.p5, .int .i64 q.c, .slice (some ⟨g, 0, none⟩) 3 3, .int .i64 2]) 205 (0, 0)) ∧ w'.heap[g]? = some (.cells #[.int .u64 q.u0, .int .u64 q.u1, .int .u64 q.u2] 28 (0, 0)) ∧ Mod [a, b, k] w w' := by
  have hka : k ≠ a := blk_ne hk hM.hd (by decide)
  have hkb : k ≠ b := blk_ne hk hM.ws (by decide)
  have hgk : g ≠ k := Ne.symm (blk_ne hk hg (by decide))
  
  
  have r6 : w.cell? ⟨k, 6, none⟩ = some (.int .i64 q.c) := cell_of_blk hk rfl
  have r8 : w.cell? ⟨k, 8, none⟩ = some (.int .i64 2) := cell_of_blk hk rfl
  go_enter Try.func164, Try.ntmps164
  go_wp2_with fail
  refine (mayBe_y q.c h0 h8 _).mono ?_; rintro e w1 ⟨rfl, hw1⟩
  have hw1' := hw1.symm
  subst hw1'
  clear hw1 r6 r8
  go_upto_region 7 with fail
  have K1 := blk_alloc_old (.cells #[.int .i64 2, .int .i64 0, .int .i64 1] 3) hk
  have G1 := blk_alloc_old (.cells #[.int .i64 2, .int .i64 0, .int .i64 1] 3) hg
  have M1 := hM.alloc (.cells #[.int .i64 2, .int .i64 0, .int .i64 1] 3)
  have L1 : (w.alloc (.cells #[.int .i64 2, .int .i64 0, .int .i64 1] 3)).heap[w.heap.size]? = some (.cells #[.int .i64 2, .int .i64 0, .int .i64 1] 3 (0, 0)) := heap_alloc_new _ _
  have D1 : Mod [a, b, k] w (w.alloc (.cells #[.int .i64 2, .int .i64 0, .int .i64 1] 3)) := (Mod.refl _ _).alloc _
  clear hk hg hM
  generalize w.alloc (.cells #[.int .i64 2, .int .i64 0, .int .i64 1] 3) = w1 at *
  generalize w.heap.size = lb at *
  have l2 : w1.cell? ⟨lb, 2, none⟩ = some (.int .i64 1) := cell_of_blk L1 rfl
  have r0 : w1.cell? ⟨k, 0, none⟩ = some (.int .i64 q.p0) := cell_of_blk K1 rfl
  have r1 : w1.cell? ⟨k, 1, none⟩ = some (.int .i64 q.p1) := cell_of_blk K1 rfl
  have r2 : w1.cell? ⟨k, 2, none⟩ = some (.int .i64 q.p2) := cell_of_blk K1 rfl
  have r3 : w1.cell? ⟨k, 3, none⟩ = some (.int .i64 q.p3) := cell_of_blk K1 rfl
  have r4 : w1.cell? ⟨k, 4, none⟩ = some (.int .i64 q.p4) := cell_of_blk K1 rfl
  have r5 : w1.cell? ⟨k, 5, none⟩ = some (.int .i64 q.p5) := cell_of_blk K1 rfl
  have r6 : w1.cell? ⟨k, 6, none⟩ = some (.int .i64 q.c) := cell_of_blk K1 rfl
  have r8 : w1.cell? ⟨k, 8, none⟩ = some (.int .i64 2) := cell_of_blk K1 rfl
  go_cut [8] (fun A wx => A = .int .i64 (wdAt q.p4 q.c 1) ∧ wx.heap[k]? = some (.cells (#[.int .i64 q.p0, .int .i64 q.p1, .int .i64 q.p2, .int .i64 q.p3, .int .i64 q.p4, .int .i64 q.p5, .int .i64 q.c, .slice (some ⟨g, 0, none⟩) 3 3, .int .i64 2]) 205 (0, 0)) ∧ wx.heap[g]? = some (.cells #[.int .u64 q.u0, .int .u64 q.u1, .int .u64 q.u2] 28 (0, 0)) ∧ MemAt 148 wx a b s ∧ Mod [a, b, k] w wx)
  case first =>
    go_region_held3 (fun wx => wx.cell? ⟨k, 0, none⟩ = some (.int .i64 q.p0) ∧ wx.cell? ⟨k, 1, none⟩ = some (.int .i64 q.p1) ∧ wx.cell? ⟨k, 2, none⟩ = some (.int .i64 q.p2) ∧ wx.cell? ⟨k, 3, none⟩ = some (.int .i64 q.p3) ∧ wx.cell? ⟨k, 4, none⟩ = some (.int .i64 q.p4) ∧ wx.cell? ⟨k, 5, none⟩ = some (.int .i64 q.p5) ∧ wx.cell? ⟨k, 6, none⟩ = some (.int .i64 q.c) ∧ wx.cell? ⟨k, 8, none⟩ = some (.int .i64 2) ∧ wx.cell? ⟨lb, 2, none⟩ = some (.int .i64 1)) (first | exact ⟨r0, r1, r2, r3, r4, r5, r6, r8, l2⟩ | exact ⟨cell_of_blk K2 rfl, cell_of_blk K2 rfl, cell_of_blk K2 rfl, cell_of_blk K2 rfl, cell_of_blk K2 rfl, cell_of_blk K2 rfl, cell_of_blk K2 rfl, cell_of_blk K2 rfl, cell_of_blk L2 rfl⟩)
      (first | (go_at_call 156; refine (word_r q.p0 q.p1 q.p2 q.p3 q.p4 q.p5 q.c 1 h0 h8 (by omega) (by omega) _).mono ?_; rintro e w2 ⟨rfl, hw2⟩; have d2 : Mod [] w1.drew w2 := hw2 ▸ (Mod.refl _ _).alloc _; clear hw2; have K2 := d2.at (k := k) (o := .cells (#[.int .i64 q.p0, .int .i64 q.p1, .int .i64 q.p2, .int .i64 q.p3, .int .i64 q.p4, .int .i64 q.p5, .int .i64 q.c, .slice (some ⟨g, 0, none⟩) 3 3, .int .i64 2]) 205 (0, 0)) K1 (by simp); have L2 := d2.at (k := lb) (o := .cells #[.int .i64 2, .int .i64 0, .int .i64 1] 3 (0, 0)) L1 (by simp)))
    all_goals
      go_wp2_with fail
      go_meet
      exact ⟨rfl, K2, d2.at (k := g) (o := .cells #[.int .u64 q.u0, .int .u64 q.u1, .int .u64 q.u2] 28 (0, 0)) G1 (by simp), M1.drew.mod d2 (by simp) (by simp), D1.drew.trans (d2.weak _)⟩
  case rest =>
    obtain ⟨rfl, K3, G3, M3, D3⟩ := hcut
    clear r0 r1 r2 r3 r4 r5 r6 r8 l2 K1 G1 M1 L1 D1
    obtain ⟨w3, rfl⟩ : ∃ w3, w3 = wc := ⟨_, rfl⟩
    have g2 : w3.cell? ⟨g, 2, none⟩ = some (.int .u64 q.u2) := cell_of_blk G3 rfl
    have r7 : w3.cell? ⟨k, 7, none⟩ = some (.slice (some ⟨g, 0, none⟩) 3 3) := cell_of_blk K3 rfl
    have r8 : w3.cell? ⟨k, 8, none⟩ = some (.int .i64 2) := cell_of_blk K3 rfl
    go_upto_region 8 with fail
    go_cut [9] (fun A wx => A = .int .i64 (s.cellE q.p4 q.c 1) ∧ wx.heap[k]? = some (.cells (#[.int .i64 q.p0, .int .i64 q.p1, .int .i64 q.p2, .int .i64 q.p3, .int .i64 q.p4, .int .i64 q.p5, .int .i64 q.c, .slice (some ⟨g, 0, none⟩) 3 3, .int .i64 2]) 205 (0, 0)) ∧ wx.heap[g]? = some (.cells #[.int .u64 q.u0, .int .u64 q.u1, .int .u64 q.u2] 28 (0, 0)) ∧ MemAt 148 wx a b (s.cellS q.p4 q.c 1 q.u2) ∧ Mod [a, b, k] w wx)
    case first =>
      go_region_held3 (fun wx => wx.cell? ⟨k, 7, none⟩ = some (.slice (some ⟨g, 0, none⟩) 3 3) ∧ wx.cell? ⟨k, 8, none⟩ = some (.int .i64 2) ∧ wx.cell? ⟨g, 2, none⟩ = some (.int .u64 q.u2)) (first | exact ⟨r7, r8, g2⟩ | exact ⟨cell_of_blk K4 rfl, cell_of_blk K4 rfl, cell_of_blk G4 rfl⟩)
        (first | (go_at_call 98; refine (store_r M3.drew (wdAt q.p4 q.c 1) q.u2).mono ?_; rintro e w4 ⟨rfl, M4, d4⟩; rw [acc_wd h0 h8]; rw [store_wd h0 h8] at M4; have K4 := d4.at (k := k) (o := .cells (#[.int .i64 q.p0, .int .i64 q.p1, .int .i64 q.p2, .int .i64 q.p3, .int .i64 q.p4, .int .i64 q.p5, .int .i64 q.c, .slice (some ⟨g, 0, none⟩) 3 3, .int .i64 2]) 205 (0, 0)) K3 (by simp [hka, hkb]); have G4 := d4.at (k := g) (o := .cells #[.int .u64 q.u0, .int .u64 q.u1, .int .u64 q.u2] 28 (0, 0)) G3 (by simp [hga, hgb])))
      all_goals
        go_wp2_with fail
        go_meet
        exact ⟨rfl, K4, G4, M4, D3.drew.trans (d4.mono (by simp))⟩
    case rest =>
      obtain ⟨rfl, K5, G5, M5, D5⟩ := hcut
      clear g2 r7 r8 K3 G3 M3 D3
      obtain ⟨w5, rfl⟩ : ∃ w5, w5 = wc := ⟨_, rfl⟩
      go_wp2
      go_ret2
      exact ⟨rfl, M5, K5, G5, D5⟩

set_option maxRecDepth 100000 in
set_option maxHeartbeats 40000000 in
theorem wr_ok2 (hk : w.heap[k]? = some (.cells (#[.int .i64 q.p0, .int .i64 q.p1, .int .i64 q.p2, .int .i64 q.p3, .int .i64 q.p4, .int .i64 q.p5, .int .i64 q.c, .slice (some ⟨g, 0, none⟩) 3 3, .int .i64 2]) 205 (0, 0))) (hg : w.heap[g]? = some (.cells #[.int .u64 q.u0, .int .u64 q.u1, .int .u64 q.u2] 28 (0, 0))) (hM : MemAt 148 w a b s) (hga : g ≠ a) (hgb : g ≠ b) (h0 : 0 ≤ q.c) (h8 : q.c < 256) (he : s.cellE q.p4 q.c 1 = 0) :
    Calls Try.prog 164 #[.pointer (some ⟨k, 0, none⟩), .pointer (some ⟨a, 0, none⟩)] w fun e w' => e = .returned (.tuple #[.bool true, .int .i64 0]) ∧ MemAt 148 w' a b (s.cellS q.p4 q.c 1 q.u2) ∧ w'.heap[k]? = some (.cells (#[.int .i64 q.p0, .int .i64 q.p1, .int .i64 q.p2, .int .i64 q.p3, .int .i64 q.p4, .int .i64 q.p5, .int .i64 q.c, .slice (some ⟨g, 0, none⟩) 3 3, .int .i64 3]) 205 (0, 0)) ∧ w'.heap[g]? = some (.cells #[.int .u64 q.u0, .int .u64 q.u1, .int .u64 q.u2] 28 (0, 0)) ∧ Mod [a, b, k] w w' := by
  have hka : k ≠ a := blk_ne hk hM.hd (by decide)
  have hkb : k ≠ b := blk_ne hk hM.ws (by decide)
  have hgk : g ≠ k := Ne.symm (blk_ne hk hg (by decide))
  have He := Lib.hid he
  clear he
  have r6 : w.cell? ⟨k, 6, none⟩ = some (.int .i64 q.c) := cell_of_blk hk rfl
  have r8 : w.cell? ⟨k, 8, none⟩ = some (.int .i64 2) := cell_of_blk hk rfl
  go_enter Try.func164, Try.ntmps164
  go_wp2_with fail
  refine (mayBe_y q.c h0 h8 _).mono ?_; rintro e w1 ⟨rfl, hw1⟩
  have hw1' := hw1.symm
  subst hw1'
  clear hw1 r6 r8
  go_upto_region 7 with fail
  have K1 := blk_alloc_old (.cells #[.int .i64 2, .int .i64 0, .int .i64 1] 3) hk
  have G1 := blk_alloc_old (.cells #[.int .i64 2, .int .i64 0, .int .i64 1] 3) hg
  have M1 := hM.alloc (.cells #[.int .i64 2, .int .i64 0, .int .i64 1] 3)
  have L1 : (w.alloc (.cells #[.int .i64 2, .int .i64 0, .int .i64 1] 3)).heap[w.heap.size]? = some (.cells #[.int .i64 2, .int .i64 0, .int .i64 1] 3 (0, 0)) := heap_alloc_new _ _
  have D1 : Mod [a, b, k] w (w.alloc (.cells #[.int .i64 2, .int .i64 0, .int .i64 1] 3)) := (Mod.refl _ _).alloc _
  clear hk hg hM
  generalize w.alloc (.cells #[.int .i64 2, .int .i64 0, .int .i64 1] 3) = w1 at *
  generalize w.heap.size = lb at *
  have l2 : w1.cell? ⟨lb, 2, none⟩ = some (.int .i64 1) := cell_of_blk L1 rfl
  have r0 : w1.cell? ⟨k, 0, none⟩ = some (.int .i64 q.p0) := cell_of_blk K1 rfl
  have r1 : w1.cell? ⟨k, 1, none⟩ = some (.int .i64 q.p1) := cell_of_blk K1 rfl
  have r2 : w1.cell? ⟨k, 2, none⟩ = some (.int .i64 q.p2) := cell_of_blk K1 rfl
  have r3 : w1.cell? ⟨k, 3, none⟩ = some (.int .i64 q.p3) := cell_of_blk K1 rfl
  have r4 : w1.cell? ⟨k, 4, none⟩ = some (.int .i64 q.p4) := cell_of_blk K1 rfl
  have r5 : w1.cell? ⟨k, 5, none⟩ = some (.int .i64 q.p5) := cell_of_blk K1 rfl
  have r6 : w1.cell? ⟨k, 6, none⟩ = some (.int .i64 q.c) := cell_of_blk K1 rfl
  have r8 : w1.cell? ⟨k, 8, none⟩ = some (.int .i64 2) := cell_of_blk K1 rfl
  go_cut [8] (fun A wx => A = .int .i64 (wdAt q.p4 q.c 1) ∧ wx.heap[k]? = some (.cells (#[.int .i64 q.p0, .int .i64 q.p1, .int .i64 q.p2, .int .i64 q.p3, .int .i64 q.p4, .int .i64 q.p5, .int .i64 q.c, .slice (some ⟨g, 0, none⟩) 3 3, .int .i64 2]) 205 (0, 0)) ∧ wx.heap[g]? = some (.cells #[.int .u64 q.u0, .int .u64 q.u1, .int .u64 q.u2] 28 (0, 0)) ∧ MemAt 148 wx a b s ∧ Mod [a, b, k] w wx)
  case first =>
    go_region_held3 (fun wx => wx.cell? ⟨k, 0, none⟩ = some (.int .i64 q.p0) ∧ wx.cell? ⟨k, 1, none⟩ = some (.int .i64 q.p1) ∧ wx.cell? ⟨k, 2, none⟩ = some (.int .i64 q.p2) ∧ wx.cell? ⟨k, 3, none⟩ = some (.int .i64 q.p3) ∧ wx.cell? ⟨k, 4, none⟩ = some (.int .i64 q.p4) ∧ wx.cell? ⟨k, 5, none⟩ = some (.int .i64 q.p5) ∧ wx.cell? ⟨k, 6, none⟩ = some (.int .i64 q.c) ∧ wx.cell? ⟨k, 8, none⟩ = some (.int .i64 2) ∧ wx.cell? ⟨lb, 2, none⟩ = some (.int .i64 1)) (first | exact ⟨r0, r1, r2, r3, r4, r5, r6, r8, l2⟩ | exact ⟨cell_of_blk K2 rfl, cell_of_blk K2 rfl, cell_of_blk K2 rfl, cell_of_blk K2 rfl, cell_of_blk K2 rfl, cell_of_blk K2 rfl, cell_of_blk K2 rfl, cell_of_blk K2 rfl, cell_of_blk L2 rfl⟩)
      (first | (go_at_call 156; refine (word_r q.p0 q.p1 q.p2 q.p3 q.p4 q.p5 q.c 1 h0 h8 (by omega) (by omega) _).mono ?_; rintro e w2 ⟨rfl, hw2⟩; have d2 : Mod [] w1.drew w2 := hw2 ▸ (Mod.refl _ _).alloc _; clear hw2; have K2 := d2.at (k := k) (o := .cells (#[.int .i64 q.p0, .int .i64 q.p1, .int .i64 q.p2, .int .i64 q.p3, .int .i64 q.p4, .int .i64 q.p5, .int .i64 q.c, .slice (some ⟨g, 0, none⟩) 3 3, .int .i64 2]) 205 (0, 0)) K1 (by simp); have L2 := d2.at (k := lb) (o := .cells #[.int .i64 2, .int .i64 0, .int .i64 1] 3 (0, 0)) L1 (by simp)))
    all_goals
      go_wp2_with fail
      go_meet
      exact ⟨rfl, K2, d2.at (k := g) (o := .cells #[.int .u64 q.u0, .int .u64 q.u1, .int .u64 q.u2] 28 (0, 0)) G1 (by simp), M1.drew.mod d2 (by simp) (by simp), D1.drew.trans (d2.weak _)⟩
  case rest =>
    obtain ⟨rfl, K3, G3, M3, D3⟩ := hcut
    clear r0 r1 r2 r3 r4 r5 r6 r8 l2 K1 G1 M1 L1 D1
    obtain ⟨w3, rfl⟩ : ∃ w3, w3 = wc := ⟨_, rfl⟩
    have g2 : w3.cell? ⟨g, 2, none⟩ = some (.int .u64 q.u2) := cell_of_blk G3 rfl
    have r7 : w3.cell? ⟨k, 7, none⟩ = some (.slice (some ⟨g, 0, none⟩) 3 3) := cell_of_blk K3 rfl
    have r8 : w3.cell? ⟨k, 8, none⟩ = some (.int .i64 2) := cell_of_blk K3 rfl
    go_upto_region 8 with fail
    go_cut [9] (fun A wx => A = .int .i64 (s.cellE q.p4 q.c 1) ∧ wx.heap[k]? = some (.cells (#[.int .i64 q.p0, .int .i64 q.p1, .int .i64 q.p2, .int .i64 q.p3, .int .i64 q.p4, .int .i64 q.p5, .int .i64 q.c, .slice (some ⟨g, 0, none⟩) 3 3, .int .i64 2]) 205 (0, 0)) ∧ wx.heap[g]? = some (.cells #[.int .u64 q.u0, .int .u64 q.u1, .int .u64 q.u2] 28 (0, 0)) ∧ MemAt 148 wx a b (s.cellS q.p4 q.c 1 q.u2) ∧ Mod [a, b, k] w wx)
    case first =>
      go_region_held3 (fun wx => wx.cell? ⟨k, 7, none⟩ = some (.slice (some ⟨g, 0, none⟩) 3 3) ∧ wx.cell? ⟨k, 8, none⟩ = some (.int .i64 2) ∧ wx.cell? ⟨g, 2, none⟩ = some (.int .u64 q.u2)) (first | exact ⟨r7, r8, g2⟩ | exact ⟨cell_of_blk K4 rfl, cell_of_blk K4 rfl, cell_of_blk G4 rfl⟩)
        (first | (go_at_call 98; refine (store_r M3.drew (wdAt q.p4 q.c 1) q.u2).mono ?_; rintro e w4 ⟨rfl, M4, d4⟩; rw [acc_wd h0 h8]; rw [store_wd h0 h8] at M4; have K4 := d4.at (k := k) (o := .cells (#[.int .i64 q.p0, .int .i64 q.p1, .int .i64 q.p2, .int .i64 q.p3, .int .i64 q.p4, .int .i64 q.p5, .int .i64 q.c, .slice (some ⟨g, 0, none⟩) 3 3, .int .i64 2]) 205 (0, 0)) K3 (by simp [hka, hkb]); have G4 := d4.at (k := g) (o := .cells #[.int .u64 q.u0, .int .u64 q.u1, .int .u64 q.u2] 28 (0, 0)) G3 (by simp [hga, hgb])))
      all_goals
        go_wp2_with fail
        go_meet
        exact ⟨rfl, K4, G4, M4, D3.drew.trans (d4.mono (by simp))⟩
    case rest =>
      obtain ⟨rfl, K5, G5, M5, D5⟩ := hcut
      clear g2 r7 r8 K3 G3 M3 D3
      obtain ⟨w5, rfl⟩ : ∃ w5, w5 = wc := ⟨_, rfl⟩
      rw [He.out]
      have r8 : w5.cell? ⟨k, 8, none⟩ = some (.int .i64 2) := cell_of_blk K5 rfl
      have z8 := free_of_blk (i := 8) K5
      go_upto_region 12 with fail
      have K6 := blk_setCell_same (i := 8) (.int .i64 3) K5
      simp only [List.setIfInBounds_toArray, List.set_cons_succ, List.set_cons_zero] at K6
      have G6 := blk_setCell_other (i := 8) (.int .i64 3) G5 hgk
      have M6 := M5.other k 8 (.int .i64 3) (Ne.symm hka) (Ne.symm hkb)
      have D6 := D5.setCell ⟨k, 8, none⟩ (.int .i64 3) (.inl (by simp))
      clear r8 z8 K5 M5 G5 D5
      generalize w5.setCell ⟨k, 8, none⟩ (.int .i64 3) = w6 at *
      have r8 : w6.cell? ⟨k, 8, none⟩ = some (.int .i64 3) := cell_of_blk K6 rfl
      go_wp2
      go_ret2
      exact ⟨rfl, M6, K6, G6, D6⟩

theorem cellE_cS {p4 c k v : Int} (h : c < 0 ∨ 256 ≤ c) : s.cellS p4 c k v = s := by unfold MemS.cellS; rw [xpErr_cell h]; rfl
theorem wstep_r (h : WrRef w k g q) (hi : q.Inv) (hM : MemAt 148 w a b s) (hga : g ≠ a) (hgb : g ≠ b) :
    Calls Try.prog 164 #[.pointer (some ⟨k, 0, none⟩), .pointer (some ⟨a, 0, none⟩)] w fun e w' => e = .returned (.tuple #[.bool (q.over s), .int .i64 (q.err s)]) ∧ MemAt 148 w' a b (q.mem s) ∧ WrRef w' k g (q.next s) ∧ Mod [a, b, k] w w' := by
  obtain ⟨hlo, hhi⟩ := hi
  by_cases h3 : q.n = 3
  · have e1 : q.err s = 3 := if_pos h3
    have e2 : q.mem s = s := if_pos h3
    have e3 : q.next s = q := by unfold WrS.next; rw [e1, if_neg (by decide)]
    have e4 : q.over s = false := by unfold WrS.over; rw [e1, if_neg (by decide)]
    rw [e1, e2, e3, e4]
    exact (wr_over h h3).mono fun e w' ⟨he, hw⟩ => ⟨he, hw ▸ hM, hw ▸ h, hw ▸ Mod.refl _ _⟩
  · have f1 : q.err s = s.cellE q.p4 q.c q.which := if_neg h3
    have f2 : q.mem s = s.cellS q.p4 q.c q.which q.val := if_neg h3
    by_cases hc : q.c < 0 ∨ 256 ≤ q.c
    · obtain ⟨c1, c2, c3⟩ := cellE_c (s := s) (p4 := q.p4) (k := q.which) hc
      have e3 : q.next s = q := by unfold WrS.next; rw [f1, c1, if_neg (by decide)]
      have e4 : q.over s = false := by unfold WrS.over; rw [f1, c1, if_neg (by decide)]
      rw [f1, f2, e3, e4, c1, cellE_cS hc]
      exact (wr_cell h hlo (by omega) hc).mono fun e w' ⟨he, hw⟩ => ⟨he, hw ▸ hM, hw ▸ h, hw ▸ Mod.refl _ _⟩
    · have h0 : 0 ≤ q.c := by omega
      have h8 : q.c < 256 := by omega
      obtain ⟨p0, p1, p2, p3, p4, p5, c, u0, u1, u2, n⟩ := q
      dsimp only at hlo hhi h3 h0 h8
      rcases (show n = 0 ∨ n = 1 ∨ n = 2 by omega) with rfl | rfl | rfl
      · have f1' : (WrS.mk p0 p1 p2 p3 p4 p5 c u0 u1 u2 0).err s = s.cellE p4 c 2 := f1
        have f2' : (WrS.mk p0 p1 p2 p3 p4 p5 c u0 u1 u2 0).mem s = s.cellS p4 c 2 u0 := f2
        by_cases he : s.cellE p4 c 2 = 0
        · have e3 : (WrS.mk p0 p1 p2 p3 p4 p5 c u0 u1 u2 0).next s = (WrS.mk p0 p1 p2 p3 p4 p5 c u0 u1 u2 1) := by unfold WrS.next; rw [f1', if_pos he]; rfl
          have e4 : (WrS.mk p0 p1 p2 p3 p4 p5 c u0 u1 u2 0).over s = false := by unfold WrS.over; rw [f1', if_pos he]; rfl
          rw [f1', f2', e3, e4, he]
          exact (wr_ok0 (q := (WrS.mk p0 p1 p2 p3 p4 p5 c u0 u1 u2 0)) h.hd h.wd hM hga hgb h0 h8 he).mono fun e w' ⟨he, m, k', g', d⟩ => ⟨he, m, ⟨k', g'⟩, d⟩
        · have e3 : (WrS.mk p0 p1 p2 p3 p4 p5 c u0 u1 u2 0).next s = (WrS.mk p0 p1 p2 p3 p4 p5 c u0 u1 u2 0) := by unfold WrS.next; rw [f1', if_neg he]
          have e4 : (WrS.mk p0 p1 p2 p3 p4 p5 c u0 u1 u2 0).over s = false := by unfold WrS.over; rw [f1', if_neg he]
          rw [f1', f2', e3, e4]
          exact (wr_bad0 (q := (WrS.mk p0 p1 p2 p3 p4 p5 c u0 u1 u2 0)) h.hd h.wd hM hga hgb h0 h8 (by simpa using he)).mono fun e w' ⟨he, m, k', g', d⟩ => ⟨he, m, ⟨k', g'⟩, d⟩
      · have f1' : (WrS.mk p0 p1 p2 p3 p4 p5 c u0 u1 u2 1).err s = s.cellE p4 c 0 := f1
        have f2' : (WrS.mk p0 p1 p2 p3 p4 p5 c u0 u1 u2 1).mem s = s.cellS p4 c 0 u1 := f2
        by_cases he : s.cellE p4 c 0 = 0
        · have e3 : (WrS.mk p0 p1 p2 p3 p4 p5 c u0 u1 u2 1).next s = (WrS.mk p0 p1 p2 p3 p4 p5 c u0 u1 u2 2) := by unfold WrS.next; rw [f1', if_pos he]; rfl
          have e4 : (WrS.mk p0 p1 p2 p3 p4 p5 c u0 u1 u2 1).over s = false := by unfold WrS.over; rw [f1', if_pos he]; rfl
          rw [f1', f2', e3, e4, he]
          exact (wr_ok1 (q := (WrS.mk p0 p1 p2 p3 p4 p5 c u0 u1 u2 1)) h.hd h.wd hM hga hgb h0 h8 he).mono fun e w' ⟨he, m, k', g', d⟩ => ⟨he, m, ⟨k', g'⟩, d⟩
        · have e3 : (WrS.mk p0 p1 p2 p3 p4 p5 c u0 u1 u2 1).next s = (WrS.mk p0 p1 p2 p3 p4 p5 c u0 u1 u2 1) := by unfold WrS.next; rw [f1', if_neg he]
          have e4 : (WrS.mk p0 p1 p2 p3 p4 p5 c u0 u1 u2 1).over s = false := by unfold WrS.over; rw [f1', if_neg he]
          rw [f1', f2', e3, e4]
          exact (wr_bad1 (q := (WrS.mk p0 p1 p2 p3 p4 p5 c u0 u1 u2 1)) h.hd h.wd hM hga hgb h0 h8 (by simpa using he)).mono fun e w' ⟨he, m, k', g', d⟩ => ⟨he, m, ⟨k', g'⟩, d⟩
      · have f1' : (WrS.mk p0 p1 p2 p3 p4 p5 c u0 u1 u2 2).err s = s.cellE p4 c 1 := f1
        have f2' : (WrS.mk p0 p1 p2 p3 p4 p5 c u0 u1 u2 2).mem s = s.cellS p4 c 1 u2 := f2
        by_cases he : s.cellE p4 c 1 = 0
        · have e3 : (WrS.mk p0 p1 p2 p3 p4 p5 c u0 u1 u2 2).next s = (WrS.mk p0 p1 p2 p3 p4 p5 c u0 u1 u2 3) := by unfold WrS.next; rw [f1', if_pos he]; rfl
          have e4 : (WrS.mk p0 p1 p2 p3 p4 p5 c u0 u1 u2 2).over s = true := by unfold WrS.over; rw [f1', if_pos he]; rfl
          rw [f1', f2', e3, e4, he]
          exact (wr_ok2 (q := (WrS.mk p0 p1 p2 p3 p4 p5 c u0 u1 u2 2)) h.hd h.wd hM hga hgb h0 h8 he).mono fun e w' ⟨he, m, k', g', d⟩ => ⟨he, m, ⟨k', g'⟩, d⟩
        · have e3 : (WrS.mk p0 p1 p2 p3 p4 p5 c u0 u1 u2 2).next s = (WrS.mk p0 p1 p2 p3 p4 p5 c u0 u1 u2 2) := by unfold WrS.next; rw [f1', if_neg he]
          have e4 : (WrS.mk p0 p1 p2 p3 p4 p5 c u0 u1 u2 2).over s = false := by unfold WrS.over; rw [f1', if_neg he]
          rw [f1', f2', e3, e4]
          exact (wr_bad2 (q := (WrS.mk p0 p1 p2 p3 p4 p5 c u0 u1 u2 2)) h.hd h.wd hM hga hgb h0 h8 (by simpa using he)).mono fun e w' ⟨he, m, k', g', d⟩ => ⟨he, m, ⟨k', g'⟩, d⟩

end Go.Proofs.Ytobmgnoceacoaaa

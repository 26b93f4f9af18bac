/- Layer 11: writings. -/
import Derived.Test.YtobmgnoceacoaaaXL
import Derived.Test.YtobmgnoceacoaaaPlays03
import Derived.Deep.QuietTactic
import Derived.BigQuiet
import Derived.Deep.DeepCutAuto
import Derived.Deep.CutBlock
import Derived.Deep.RegionHeld3
import Derived.StillTailTactics
import Derived.IntWalk
namespace Go.Proofs.Ytobmgnoceacoaaa
open Go.RowKit
attribute [local go_sem] run_store_float

/-- A writing: the words in the order in which they are stored. -/
structure WrS where
  (p0 p1 p2 p3 p4 p5 c u0 u1 u2 n : Int)
def WrS.arr (r : WrS) : Array Value := #[.int .i64 r.p0, .int .i64 r.p1, .int .i64 r.p2, .int .i64 r.p3, .int .i64 r.p4, .int .i64 r.p5, .int .i64 r.c, .int .u64 r.u0, .int .u64 r.u1, .int .u64 r.u2, .int .i64 r.n]
def WrS.which (r : WrS) : Int := if r.n = 0 then 2 else if r.n = 1 then 0 else 1
def WrS.val (r : WrS) : Int := if r.n = 0 then r.u0 else if r.n = 1 then r.u1 else r.u2
def MemS.cellS (s : MemS) (p4 c k v : Int) : MemS := if xpErr p4 c = 0 then s.store (p4 + 3 * c + k) v else s
def WrS.err (r : WrS) (s : MemS) : Int := if r.n = 3 then 3 else s.cellE r.p4 r.c r.which
def WrS.mem (r : WrS) (s : MemS) : MemS := if r.n = 3 then s else s.cellS r.p4 r.c r.which r.val
def WrS.next (r : WrS) (s : MemS) : WrS := if r.err s = 0 then { r with n := r.n + 1 } else r
def WrS.over (r : WrS) (s : MemS) : Bool := if r.err s = 0 then r.n + 1 == 3 else false
variable {a b k : Nat} {s : MemS} {w : World} {p0 p1 p2 p3 p4 p5 c u0 u1 u2 n : Int}
theorem blk2 (w : World) (x y : Obj) : ((w.alloc x).alloc y).heap[w.heap.size + 1]? = some y := by
  have h := heap_alloc_new (w.alloc x) y
  rwa [World.size_alloc] at h

set_option maxRecDepth 100000 in
set_option maxHeartbeats 40000000 in
theorem write11 (p0 p1 p2 p3 p4 p5 c ve : Int) (x y : Nat) (w : World) :
    Calls Try.prog 77 #[.agg #[.int .i64 p0, .int .i64 p1, .int .i64 p2, .int .i64 p3, .int .i64 p4, .int .i64 p5], .int .i64 c, .int .u64 ve, .float .f64 x, .float .f64 y] w fun e w' => ∃ k, e = .returned (.pointer (some ⟨k, 0, none⟩)) ∧ w'.heap[k]? = some (.cells (WrS.mk p0 p1 p2 p3 p4 p5 c (fixB x : Int) ve (fixB y : Int) 0).arr 180 (0, 0)) ∧ w.heap.size ≤ k ∧ Mod [] w w' := by
  have B1 : (w.alloc (.cells #[.int .i64 p0, .int .i64 p1, .int .i64 p2, .int .i64 p3, .int .i64 p4, .int .i64 p5] 35)).heap[w.heap.size]? = some (.cells #[.int .i64 p0, .int .i64 p1, .int .i64 p2, .int .i64 p3, .int .i64 p4, .int .i64 p5] 35 (0, 0)) := heap_alloc_new _ _
  have q0 : (w.alloc (.cells #[.int .i64 p0, .int .i64 p1, .int .i64 p2, .int .i64 p3, .int .i64 p4, .int .i64 p5] 35)).cell? ⟨w.heap.size, 0, none⟩ = some (.int .i64 p0) := cell_of_blk B1 rfl
  have q1 : (w.alloc (.cells #[.int .i64 p0, .int .i64 p1, .int .i64 p2, .int .i64 p3, .int .i64 p4, .int .i64 p5] 35)).cell? ⟨w.heap.size, 1, none⟩ = some (.int .i64 p1) := cell_of_blk B1 rfl
  have q2 : (w.alloc (.cells #[.int .i64 p0, .int .i64 p1, .int .i64 p2, .int .i64 p3, .int .i64 p4, .int .i64 p5] 35)).cell? ⟨w.heap.size, 2, none⟩ = some (.int .i64 p2) := cell_of_blk B1 rfl
  have q3 : (w.alloc (.cells #[.int .i64 p0, .int .i64 p1, .int .i64 p2, .int .i64 p3, .int .i64 p4, .int .i64 p5] 35)).cell? ⟨w.heap.size, 3, none⟩ = some (.int .i64 p3) := cell_of_blk B1 rfl
  have q4 : (w.alloc (.cells #[.int .i64 p0, .int .i64 p1, .int .i64 p2, .int .i64 p3, .int .i64 p4, .int .i64 p5] 35)).cell? ⟨w.heap.size, 4, none⟩ = some (.int .i64 p4) := cell_of_blk B1 rfl
  have q5 : (w.alloc (.cells #[.int .i64 p0, .int .i64 p1, .int .i64 p2, .int .i64 p3, .int .i64 p4, .int .i64 p5] 35)).cell? ⟨w.heap.size, 5, none⟩ = some (.int .i64 p5) := cell_of_blk B1 rfl
  go_enter Try.func77, Try.ntmps77
  go_upto_region 1 with fail
  go_region_held3 (fun wx => wx.cell? ⟨w.heap.size, 0, none⟩ = some (.int .i64 p0) ∧ wx.cell? ⟨w.heap.size, 1, none⟩ = some (.int .i64 p1) ∧ wx.cell? ⟨w.heap.size, 2, none⟩ = some (.int .i64 p2) ∧ wx.cell? ⟨w.heap.size, 3, none⟩ = some (.int .i64 p3) ∧ wx.cell? ⟨w.heap.size, 4, none⟩ = some (.int .i64 p4) ∧ wx.cell? ⟨w.heap.size, 5, none⟩ = some (.int .i64 p5)) (first | exact ⟨q0, q1, q2, q3, q4, q5⟩ | (go_split_ands; refine ⟨?_, ?_, ?_, ?_, ?_, ?_⟩ <;> (refine cell_of_blk (blk_alloc_old _ (blk_alloc_old _ B1)) ?_; rfl)) | go_keep)
    (first
      | (go_at_call_of 126 (Value.float .f64 x); refine (bits_c x _).mono ?_; rintro e w2 ⟨rfl, rfl⟩)
      | (go_at_call_of 126 (Value.float .f64 y); refine (bits_c y _).mono ?_; rintro e w2 ⟨rfl, rfl⟩))
  all_goals
    go_wp2
    go_ret
    exact ⟨_, rfl, by have h := blk2 w (.cells #[.int .i64 p0, .int .i64 p1, .int .i64 p2, .int .i64 p3, .int .i64 p4, .int .i64 p5] 35) (.cells (WrS.mk p0 p1 p2 p3 p4 p5 c (fixB x : Int) ve (fixB y : Int) 0).arr 180); exact h, by omega, by repeat (first | exact Mod.refl _ _ | refine Mod.drew ?_ | refine Mod.alloc ?_ _)⟩

theorem store_bad0 (s : MemS) {i : Int} (v : Int) (h : s.acc i ≠ 0) : s.store i v = s := if_neg h
set_option maxRecDepth 100000 in
set_option maxHeartbeats 40000000 in
theorem wstep3 (hk : w.heap[k]? = some (.cells #[.int .i64 p0, .int .i64 p1, .int .i64 p2, .int .i64 p3, .int .i64 p4, .int .i64 p5, .int .i64 c, .int .u64 u0, .int .u64 u1, .int .u64 u2, .int .i64 3] 180 (0, 0))) :
    Calls Try.prog 79 #[.pointer (some ⟨k, 0, none⟩), .pointer (some ⟨a, 0, none⟩)] w fun e w' => e = .returned (.tuple #[.bool false, .int .i64 3]) ∧ w' = w := by
  have r10 : w.cell? ⟨k, 10, none⟩ = some (.int .i64 3) := cell_of_blk hk rfl
  go_enter Try.func79, Try.ntmps79
  go_wp2
  go_ret2
  exact ⟨rfl, rfl⟩

set_option maxRecDepth 100000 in
set_option maxHeartbeats 40000000 in
theorem wbadP0 (hM : MemAt 142 w a b s) (hk : w.heap[k]? = some (.cells #[.int .i64 p0, .int .i64 p1, .int .i64 p2, .int .i64 p3, .int .i64 p4, .int .i64 p5, .int .i64 c, .int .u64 u0, .int .u64 u1, .int .u64 u2, .int .i64 0] 180 (0, 0))) (he : (xpErr p4 c == 0) = false) (he' : (xpErr p4 c != 0) = true) :
    Calls Try.prog 79 #[.pointer (some ⟨k, 0, none⟩), .pointer (some ⟨a, 0, none⟩)] w fun e w' => e = .returned (.tuple #[.bool false, .int .i64 (xpErr p4 c)]) ∧ MemAt 142 w' a b s ∧ w'.heap[k]? = some (.cells #[.int .i64 p0, .int .i64 p1, .int .i64 p2, .int .i64 p3, .int .i64 p4, .int .i64 p5, .int .i64 c, .int .u64 u0, .int .u64 u1, .int .u64 u2, .int .i64 0] 180 (0, 0)) ∧ Mod [a, b, k] w w' := by
  have hka : k ≠ a := blk_ne hk hM.hd (by decide)
  have hkb : k ≠ b := blk_ne hk hM.ws (by decide)
  have r0 : w.cell? ⟨k, 0, none⟩ = some (.int .i64 p0) := cell_of_blk hk rfl
  have r1 : w.cell? ⟨k, 1, none⟩ = some (.int .i64 p1) := cell_of_blk hk rfl
  have r2 : w.cell? ⟨k, 2, none⟩ = some (.int .i64 p2) := cell_of_blk hk rfl
  have r3 : w.cell? ⟨k, 3, none⟩ = some (.int .i64 p3) := cell_of_blk hk rfl
  have r4 : w.cell? ⟨k, 4, none⟩ = some (.int .i64 p4) := cell_of_blk hk rfl
  have r5 : w.cell? ⟨k, 5, none⟩ = some (.int .i64 p5) := cell_of_blk hk rfl
  have r6 : w.cell? ⟨k, 6, none⟩ = some (.int .i64 c) := cell_of_blk hk rfl
  have r10 : w.cell? ⟨k, 10, none⟩ = some (.int .i64 0) := cell_of_blk hk rfl
  have hix : ∀ wx : World, (Instr.index 185 (.agg #[.int .i64 2, .int .i64 0, .int .i64 1]) (.int .i64 0)).run Try.prog wx = .ok (.int .i64 2) wx := fun _ => by kernel_rfl
  go_enter Try.func79, Try.ntmps79
  go_upto_region 3 with fail
  go_cut [6, 7] (fun A C wx => A = .int .i64 (xpAt p4 c 2) ∧ C = .int .i64 (xpErr p4 c) ∧ MemAt 142 wx a b s ∧ wx.heap[k]? = some (.cells #[.int .i64 p0, .int .i64 p1, .int .i64 p2, .int .i64 p3, .int .i64 p4, .int .i64 p5, .int .i64 c, .int .u64 u0, .int .u64 u1, .int .u64 u2, .int .i64 0] 180 (0, 0)) ∧ Mod [a, b, k] w wx)
  case first =>
    go_region_held3 (fun wx => wx.cell? ⟨k, 0, none⟩ = some (.int .i64 p0) ∧ wx.cell? ⟨k, 1, none⟩ = some (.int .i64 p1) ∧ wx.cell? ⟨k, 2, none⟩ = some (.int .i64 p2) ∧ wx.cell? ⟨k, 3, none⟩ = some (.int .i64 p3) ∧ wx.cell? ⟨k, 4, none⟩ = some (.int .i64 p4) ∧ wx.cell? ⟨k, 5, none⟩ = some (.int .i64 p5) ∧ wx.cell? ⟨k, 6, none⟩ = some (.int .i64 c) ∧ wx.cell? ⟨k, 10, none⟩ = some (.int .i64 0)) (first | exact ⟨r0, r1, r2, r3, r4, r5, r6, r10⟩ | exact ⟨cell_of_blk K2 rfl, cell_of_blk K2 rfl, cell_of_blk K2 rfl, cell_of_blk K2 rfl, cell_of_blk K2 rfl, cell_of_blk K2 rfl, cell_of_blk K2 rfl, cell_of_blk K2 rfl⟩)
      (first | (go_at_call 90; refine (place11 p0 p1 p2 p3 p4 p5 c 2 (by omega) (by omega) _).mono ?_; rintro e w2 ⟨rfl, hw2⟩; have d2 : Mod [] w.drew w2 := hw2 ▸ (Mod.refl _ _).alloc _; clear hw2; have K2 := d2.at (k := k) (o := .cells #[.int .i64 p0, .int .i64 p1, .int .i64 p2, .int .i64 p3, .int .i64 p4, .int .i64 p5, .int .i64 c, .int .u64 u0, .int .u64 u1, .int .u64 u2, .int .i64 0] 180 (0, 0)) hk (by simp)))
    all_goals
      go_wp2_with fail
      go_meet
      exact ⟨rfl, rfl, hM.drew.mod d2 (by simp) (by simp), K2, ((Mod.refl _ _).drew.trans d2).weak _⟩
  case rest =>
    obtain ⟨rfl, rfl, M3, K3, D3⟩ := hcut
    clear r0 r1 r2 r3 r4 r5 r6 r10 hM hk
    obtain ⟨w3, rfl⟩ : ∃ w3, w3 = wc := ⟨_, rfl⟩
    go_wp2
    go_ret2
    exact ⟨rfl, M3, K3, D3⟩

set_option maxRecDepth 100000 in
set_option maxHeartbeats 40000000 in
theorem wbadS0 (hM : MemAt 142 w a b s) (hk : w.heap[k]? = some (.cells #[.int .i64 p0, .int .i64 p1, .int .i64 p2, .int .i64 p3, .int .i64 p4, .int .i64 p5, .int .i64 c, .int .u64 u0, .int .u64 u1, .int .u64 u2, .int .i64 0] 180 (0, 0))) (h0 : 0 ≤ c) (h1 : c < 256) (h2 : 0 ≤ p4) (h3 : p4 ≤ 4096) (he : (s.acc (p4 + 3 * c + 2) != 0) = true) :
    Calls Try.prog 79 #[.pointer (some ⟨k, 0, none⟩), .pointer (some ⟨a, 0, none⟩)] w fun e w' => e = .returned (.tuple #[.bool false, .int .i64 (s.acc (p4 + 3 * c + 2))]) ∧ MemAt 142 w' a b (s.store (p4 + 3 * c + 2) u0) ∧ w'.heap[k]? = some (.cells #[.int .i64 p0, .int .i64 p1, .int .i64 p2, .int .i64 p3, .int .i64 p4, .int .i64 p5, .int .i64 c, .int .u64 u0, .int .u64 u1, .int .u64 u2, .int .i64 0] 180 (0, 0)) ∧ Mod [a, b, k] w w' := by
  have hx : xpAt p4 c 2 = p4 + 3 * c + 2 := by unfold xpAt; rw [if_pos (xpErr_ok h0 h1 h2 h3)]
  have Hx := Lib.hid hx
  have Hp := Lib.hid (xpErr_ok h0 h1 h2 h3)
  clear hx
  have hka : k ≠ a := blk_ne hk hM.hd (by decide)
  have hkb : k ≠ b := blk_ne hk hM.ws (by decide)
  have r0 : w.cell? ⟨k, 0, none⟩ = some (.int .i64 p0) := cell_of_blk hk rfl
  have r1 : w.cell? ⟨k, 1, none⟩ = some (.int .i64 p1) := cell_of_blk hk rfl
  have r2 : w.cell? ⟨k, 2, none⟩ = some (.int .i64 p2) := cell_of_blk hk rfl
  have r3 : w.cell? ⟨k, 3, none⟩ = some (.int .i64 p3) := cell_of_blk hk rfl
  have r4 : w.cell? ⟨k, 4, none⟩ = some (.int .i64 p4) := cell_of_blk hk rfl
  have r5 : w.cell? ⟨k, 5, none⟩ = some (.int .i64 p5) := cell_of_blk hk rfl
  have r6 : w.cell? ⟨k, 6, none⟩ = some (.int .i64 c) := cell_of_blk hk rfl
  have r10 : w.cell? ⟨k, 10, none⟩ = some (.int .i64 0) := cell_of_blk hk rfl
  have hix : ∀ wx : World, (Instr.index 185 (.agg #[.int .i64 2, .int .i64 0, .int .i64 1]) (.int .i64 0)).run Try.prog wx = .ok (.int .i64 2) wx := fun _ => by kernel_rfl
  go_enter Try.func79, Try.ntmps79
  go_upto_region 3 with fail
  go_cut [6, 7] (fun A C wx => A = .int .i64 (xpAt p4 c 2) ∧ C = .int .i64 (xpErr p4 c) ∧ MemAt 142 wx a b s ∧ wx.heap[k]? = some (.cells #[.int .i64 p0, .int .i64 p1, .int .i64 p2, .int .i64 p3, .int .i64 p4, .int .i64 p5, .int .i64 c, .int .u64 u0, .int .u64 u1, .int .u64 u2, .int .i64 0] 180 (0, 0)) ∧ Mod [a, b, k] w wx)
  case first =>
    go_region_held3 (fun wx => wx.cell? ⟨k, 0, none⟩ = some (.int .i64 p0) ∧ wx.cell? ⟨k, 1, none⟩ = some (.int .i64 p1) ∧ wx.cell? ⟨k, 2, none⟩ = some (.int .i64 p2) ∧ wx.cell? ⟨k, 3, none⟩ = some (.int .i64 p3) ∧ wx.cell? ⟨k, 4, none⟩ = some (.int .i64 p4) ∧ wx.cell? ⟨k, 5, none⟩ = some (.int .i64 p5) ∧ wx.cell? ⟨k, 6, none⟩ = some (.int .i64 c) ∧ wx.cell? ⟨k, 10, none⟩ = some (.int .i64 0)) (first | exact ⟨r0, r1, r2, r3, r4, r5, r6, r10⟩ | exact ⟨cell_of_blk K2 rfl, cell_of_blk K2 rfl, cell_of_blk K2 rfl, cell_of_blk K2 rfl, cell_of_blk K2 rfl, cell_of_blk K2 rfl, cell_of_blk K2 rfl, cell_of_blk K2 rfl⟩)
      (first | (go_at_call 90; refine (place11 p0 p1 p2 p3 p4 p5 c 2 (by omega) (by omega) _).mono ?_; rintro e w2 ⟨rfl, hw2⟩; have d2 : Mod [] w.drew w2 := hw2 ▸ (Mod.refl _ _).alloc _; clear hw2; have K2 := d2.at (k := k) (o := .cells #[.int .i64 p0, .int .i64 p1, .int .i64 p2, .int .i64 p3, .int .i64 p4, .int .i64 p5, .int .i64 c, .int .u64 u0, .int .u64 u1, .int .u64 u2, .int .i64 0] 180 (0, 0)) hk (by simp)))
    all_goals
      go_wp2_with fail
      go_meet
      exact ⟨rfl, rfl, hM.drew.mod d2 (by simp) (by simp), K2, ((Mod.refl _ _).drew.trans d2).weak _⟩
  case rest =>
    obtain ⟨rfl, rfl, M3, K3, D3⟩ := hcut
    clear r0 r1 r2 r3 r4 r5 r6 r10 hM hk
    obtain ⟨w3, rfl⟩ : ∃ w3, w3 = wc := ⟨_, rfl⟩
    rw [Hx.out, Hp.out]
    have r7 : w3.cell? ⟨k, 7, none⟩ = some (.int .u64 u0) := cell_of_blk K3 rfl
    have r10 : w3.cell? ⟨k, 10, none⟩ = some (.int .i64 0) := cell_of_blk K3 rfl
    go_upto_region 5 with fail
    go_cut [7] (fun A wx => A = .int .i64 (s.acc (p4 + 3 * c + 2)) ∧ MemAt 142 wx a b (s.store (p4 + 3 * c + 2) u0) ∧ wx.heap[k]? = some (.cells #[.int .i64 p0, .int .i64 p1, .int .i64 p2, .int .i64 p3, .int .i64 p4, .int .i64 p5, .int .i64 c, .int .u64 u0, .int .u64 u1, .int .u64 u2, .int .i64 0] 180 (0, 0)) ∧ Mod [a, b, k] w wx)
    case first =>
      go_region_held3 (fun wx => wx.cell? ⟨k, 7, none⟩ = some (.int .u64 u0) ∧ wx.cell? ⟨k, 10, none⟩ = some (.int .i64 0)) (first | exact ⟨r7, r10⟩ | exact ⟨cell_of_blk K4 rfl, cell_of_blk K4 rfl⟩)
        (first | (go_at_call 34; refine (store_c M3.drew (p4 + 3 * c + 2) u0).mono ?_; rintro e w4 ⟨rfl, M4, d4⟩; have K4 := d4.at (k := k) (o := .cells #[.int .i64 p0, .int .i64 p1, .int .i64 p2, .int .i64 p3, .int .i64 p4, .int .i64 p5, .int .i64 c, .int .u64 u0, .int .u64 u1, .int .u64 u2, .int .i64 0] 180 (0, 0)) K3 (by simp [hka, hkb])))
      all_goals
        go_wp2_with fail
        go_meet
        exact ⟨rfl, M4, K4, (D3.drew).trans (d4.mono (by simp))⟩
    case rest =>
      obtain ⟨rfl, M5, K5, D5⟩ := hcut
      clear r7 r10 M3 K3 D3
      obtain ⟨w5, rfl⟩ : ∃ w5, w5 = wc := ⟨_, rfl⟩
      go_wp2
      go_ret2
      exact ⟨rfl, M5, K5, D5⟩

set_option maxRecDepth 100000 in
set_option maxHeartbeats 40000000 in
theorem wok0 (hM : MemAt 142 w a b s) (hk : w.heap[k]? = some (.cells #[.int .i64 p0, .int .i64 p1, .int .i64 p2, .int .i64 p3, .int .i64 p4, .int .i64 p5, .int .i64 c, .int .u64 u0, .int .u64 u1, .int .u64 u2, .int .i64 0] 180 (0, 0))) (h0 : 0 ≤ c) (h1 : c < 256) (h2 : 0 ≤ p4) (h3 : p4 ≤ 4096) (he : s.acc (p4 + 3 * c + 2) = 0) :
    Calls Try.prog 79 #[.pointer (some ⟨k, 0, none⟩), .pointer (some ⟨a, 0, none⟩)] w fun e w' => e = .returned (.tuple #[.bool false, .int .i64 0]) ∧ MemAt 142 w' a b (s.store (p4 + 3 * c + 2) u0) ∧ w'.heap[k]? = some (.cells #[.int .i64 p0, .int .i64 p1, .int .i64 p2, .int .i64 p3, .int .i64 p4, .int .i64 p5, .int .i64 c, .int .u64 u0, .int .u64 u1, .int .u64 u2, .int .i64 1] 180 (0, 0)) ∧ Mod [a, b, k] w w' := by
  have He := Lib.hid he
  clear he
  have hx : xpAt p4 c 2 = p4 + 3 * c + 2 := by unfold xpAt; rw [if_pos (xpErr_ok h0 h1 h2 h3)]
  have Hx := Lib.hid hx
  have Hp := Lib.hid (xpErr_ok h0 h1 h2 h3)
  clear hx
  have hka : k ≠ a := blk_ne hk hM.hd (by decide)
  have hkb : k ≠ b := blk_ne hk hM.ws (by decide)
  have r0 : w.cell? ⟨k, 0, none⟩ = some (.int .i64 p0) := cell_of_blk hk rfl
  have r1 : w.cell? ⟨k, 1, none⟩ = some (.int .i64 p1) := cell_of_blk hk rfl
  have r2 : w.cell? ⟨k, 2, none⟩ = some (.int .i64 p2) := cell_of_blk hk rfl
  have r3 : w.cell? ⟨k, 3, none⟩ = some (.int .i64 p3) := cell_of_blk hk rfl
  have r4 : w.cell? ⟨k, 4, none⟩ = some (.int .i64 p4) := cell_of_blk hk rfl
  have r5 : w.cell? ⟨k, 5, none⟩ = some (.int .i64 p5) := cell_of_blk hk rfl
  have r6 : w.cell? ⟨k, 6, none⟩ = some (.int .i64 c) := cell_of_blk hk rfl
  have r10 : w.cell? ⟨k, 10, none⟩ = some (.int .i64 0) := cell_of_blk hk rfl
  have hix : ∀ wx : World, (Instr.index 185 (.agg #[.int .i64 2, .int .i64 0, .int .i64 1]) (.int .i64 0)).run Try.prog wx = .ok (.int .i64 2) wx := fun _ => by kernel_rfl
  go_enter Try.func79, Try.ntmps79
  go_upto_region 3 with fail
  go_cut [6, 7] (fun A C wx => A = .int .i64 (xpAt p4 c 2) ∧ C = .int .i64 (xpErr p4 c) ∧ MemAt 142 wx a b s ∧ wx.heap[k]? = some (.cells #[.int .i64 p0, .int .i64 p1, .int .i64 p2, .int .i64 p3, .int .i64 p4, .int .i64 p5, .int .i64 c, .int .u64 u0, .int .u64 u1, .int .u64 u2, .int .i64 0] 180 (0, 0)) ∧ Mod [a, b, k] w wx)
  case first =>
    go_region_held3 (fun wx => wx.cell? ⟨k, 0, none⟩ = some (.int .i64 p0) ∧ wx.cell? ⟨k, 1, none⟩ = some (.int .i64 p1) ∧ wx.cell? ⟨k, 2, none⟩ = some (.int .i64 p2) ∧ wx.cell? ⟨k, 3, none⟩ = some (.int .i64 p3) ∧ wx.cell? ⟨k, 4, none⟩ = some (.int .i64 p4) ∧ wx.cell? ⟨k, 5, none⟩ = some (.int .i64 p5) ∧ wx.cell? ⟨k, 6, none⟩ = some (.int .i64 c) ∧ wx.cell? ⟨k, 10, none⟩ = some (.int .i64 0)) (first | exact ⟨r0, r1, r2, r3, r4, r5, r6, r10⟩ | exact ⟨cell_of_blk K2 rfl, cell_of_blk K2 rfl, cell_of_blk K2 rfl, cell_of_blk K2 rfl, cell_of_blk K2 rfl, cell_of_blk K2 rfl, cell_of_blk K2 rfl, cell_of_blk K2 rfl⟩)
      (first | (go_at_call 90; refine (place11 p0 p1 p2 p3 p4 p5 c 2 (by omega) (by omega) _).mono ?_; rintro e w2 ⟨rfl, hw2⟩; have d2 : Mod [] w.drew w2 := hw2 ▸ (Mod.refl _ _).alloc _; clear hw2; have K2 := d2.at (k := k) (o := .cells #[.int .i64 p0, .int .i64 p1, .int .i64 p2, .int .i64 p3, .int .i64 p4, .int .i64 p5, .int .i64 c, .int .u64 u0, .int .u64 u1, .int .u64 u2, .int .i64 0] 180 (0, 0)) hk (by simp)))
    all_goals
      go_wp2_with fail
      go_meet
      exact ⟨rfl, rfl, hM.drew.mod d2 (by simp) (by simp), K2, ((Mod.refl _ _).drew.trans d2).weak _⟩
  case rest =>
    obtain ⟨rfl, rfl, M3, K3, D3⟩ := hcut
    clear r0 r1 r2 r3 r4 r5 r6 r10 hM hk
    obtain ⟨w3, rfl⟩ : ∃ w3, w3 = wc := ⟨_, rfl⟩
    rw [Hx.out, Hp.out]
    have r7 : w3.cell? ⟨k, 7, none⟩ = some (.int .u64 u0) := cell_of_blk K3 rfl
    have r10 : w3.cell? ⟨k, 10, none⟩ = some (.int .i64 0) := cell_of_blk K3 rfl
    go_upto_region 5 with fail
    go_cut [7] (fun A wx => A = .int .i64 (s.acc (p4 + 3 * c + 2)) ∧ MemAt 142 wx a b (s.store (p4 + 3 * c + 2) u0) ∧ wx.heap[k]? = some (.cells #[.int .i64 p0, .int .i64 p1, .int .i64 p2, .int .i64 p3, .int .i64 p4, .int .i64 p5, .int .i64 c, .int .u64 u0, .int .u64 u1, .int .u64 u2, .int .i64 0] 180 (0, 0)) ∧ Mod [a, b, k] w wx)
    case first =>
      go_region_held3 (fun wx => wx.cell? ⟨k, 7, none⟩ = some (.int .u64 u0) ∧ wx.cell? ⟨k, 10, none⟩ = some (.int .i64 0)) (first | exact ⟨r7, r10⟩ | exact ⟨cell_of_blk K4 rfl, cell_of_blk K4 rfl⟩)
        (first | (go_at_call 34; refine (store_c M3.drew (p4 + 3 * c + 2) u0).mono ?_; rintro e w4 ⟨rfl, M4, d4⟩; have K4 := d4.at (k := k) (o := .cells #[.int .i64 p0, .int .i64 p1, .int .i64 p2, .int .i64 p3, .int .i64 p4, .int .i64 p5, .int .i64 c, .int .u64 u0, .int .u64 u1, .int .u64 u2, .int .i64 0] 180 (0, 0)) K3 (by simp [hka, hkb])))
      all_goals
        go_wp2_with fail
        go_meet
        exact ⟨rfl, M4, K4, (D3.drew).trans (d4.mono (by simp))⟩
    case rest =>
      obtain ⟨rfl, M5, K5, D5⟩ := hcut
      clear r7 r10 M3 K3 D3
      obtain ⟨w5, rfl⟩ : ∃ w5, w5 = wc := ⟨_, rfl⟩
      rw [He.out]
      have r10 : w5.cell? ⟨k, 10, none⟩ = some (.int .i64 0) := cell_of_blk K5 rfl
      have z10 := free_of_blk (i := 10) K5
      go_upto_region 9 with fail
      have K6 := blk_setCell_same (i := 10) (.int .i64 1) K5
      simp only [List.setIfInBounds_toArray, List.set_cons_succ, List.set_cons_zero] at K6
      have M6 := M5.other k 10 (.int .i64 1) (Ne.symm hka) (Ne.symm hkb)
      have D6 := D5.setCell ⟨k, 10, none⟩ (.int .i64 1) (.inl (by simp))
      clear r10 z10 K5 M5 D5
      generalize w5.setCell ⟨k, 10, none⟩ (.int .i64 1) = w6 at *
      have r10 : w6.cell? ⟨k, 10, none⟩ = some (.int .i64 1) := cell_of_blk K6 rfl
      go_wp2
      go_ret2
      exact ⟨rfl, M6, K6, D6⟩

set_option maxRecDepth 100000 in
set_option maxHeartbeats 40000000 in
theorem wbadP1 (hM : MemAt 142 w a b s) (hk : w.heap[k]? = some (.cells #[.int .i64 p0, .int .i64 p1, .int .i64 p2, .int .i64 p3, .int .i64 p4, .int .i64 p5, .int .i64 c, .int .u64 u0, .int .u64 u1, .int .u64 u2, .int .i64 1] 180 (0, 0))) (he : (xpErr p4 c == 0) = false) (he' : (xpErr p4 c != 0) = true) :
    Calls Try.prog 79 #[.pointer (some ⟨k, 0, none⟩), .pointer (some ⟨a, 0, none⟩)] w fun e w' => e = .returned (.tuple #[.bool false, .int .i64 (xpErr p4 c)]) ∧ MemAt 142 w' a b s ∧ w'.heap[k]? = some (.cells #[.int .i64 p0, .int .i64 p1, .int .i64 p2, .int .i64 p3, .int .i64 p4, .int .i64 p5, .int .i64 c, .int .u64 u0, .int .u64 u1, .int .u64 u2, .int .i64 1] 180 (0, 0)) ∧ Mod [a, b, k] w w' := by
  have hka : k ≠ a := blk_ne hk hM.hd (by decide)
  have hkb : k ≠ b := blk_ne hk hM.ws (by decide)
  have r0 : w.cell? ⟨k, 0, none⟩ = some (.int .i64 p0) := cell_of_blk hk rfl
  have r1 : w.cell? ⟨k, 1, none⟩ = some (.int .i64 p1) := cell_of_blk hk rfl
  have r2 : w.cell? ⟨k, 2, none⟩ = some (.int .i64 p2) := cell_of_blk hk rfl
  have r3 : w.cell? ⟨k, 3, none⟩ = some (.int .i64 p3) := cell_of_blk hk rfl
  have r4 : w.cell? ⟨k, 4, none⟩ = some (.int .i64 p4) := cell_of_blk hk rfl
  have r5 : w.cell? ⟨k, 5, none⟩ = some (.int .i64 p5) := cell_of_blk hk rfl
  have r6 : w.cell? ⟨k, 6, none⟩ = some (.int .i64 c) := cell_of_blk hk rfl
  have r10 : w.cell? ⟨k, 10, none⟩ = some (.int .i64 1) := cell_of_blk hk rfl
  have hix : ∀ wx : World, (Instr.index 185 (.agg #[.int .i64 2, .int .i64 0, .int .i64 1]) (.int .i64 1)).run Try.prog wx = .ok (.int .i64 0) wx := fun _ => by kernel_rfl
  go_enter Try.func79, Try.ntmps79
  go_upto_region 3 with fail
  go_cut [6, 7] (fun A C wx => A = .int .i64 (xpAt p4 c 0) ∧ C = .int .i64 (xpErr p4 c) ∧ MemAt 142 wx a b s ∧ wx.heap[k]? = some (.cells #[.int .i64 p0, .int .i64 p1, .int .i64 p2, .int .i64 p3, .int .i64 p4, .int .i64 p5, .int .i64 c, .int .u64 u0, .int .u64 u1, .int .u64 u2, .int .i64 1] 180 (0, 0)) ∧ Mod [a, b, k] w wx)
  case first =>
    go_region_held3 (fun wx => wx.cell? ⟨k, 0, none⟩ = some (.int .i64 p0) ∧ wx.cell? ⟨k, 1, none⟩ = some (.int .i64 p1) ∧ wx.cell? ⟨k, 2, none⟩ = some (.int .i64 p2) ∧ wx.cell? ⟨k, 3, none⟩ = some (.int .i64 p3) ∧ wx.cell? ⟨k, 4, none⟩ = some (.int .i64 p4) ∧ wx.cell? ⟨k, 5, none⟩ = some (.int .i64 p5) ∧ wx.cell? ⟨k, 6, none⟩ = some (.int .i64 c) ∧ wx.cell? ⟨k, 10, none⟩ = some (.int .i64 1)) (first | exact ⟨r0, r1, r2, r3, r4, r5, r6, r10⟩ | exact ⟨cell_of_blk K2 rfl, cell_of_blk K2 rfl, cell_of_blk K2 rfl, cell_of_blk K2 rfl, cell_of_blk K2 rfl, cell_of_blk K2 rfl, cell_of_blk K2 rfl, cell_of_blk K2 rfl⟩)
      (first | (go_at_call 90; refine (place11 p0 p1 p2 p3 p4 p5 c 0 (by omega) (by omega) _).mono ?_; rintro e w2 ⟨rfl, hw2⟩; have d2 : Mod [] w.drew w2 := hw2 ▸ (Mod.refl _ _).alloc _; clear hw2; have K2 := d2.at (k := k) (o := .cells #[.int .i64 p0, .int .i64 p1, .int .i64 p2, .int .i64 p3, .int .i64 p4, .int .i64 p5, .int .i64 c, .int .u64 u0, .int .u64 u1, .int .u64 u2, .int .i64 1] 180 (0, 0)) hk (by simp)))
    all_goals
      go_wp2_with fail
      go_meet
      exact ⟨rfl, rfl, hM.drew.mod d2 (by simp) (by simp), K2, ((Mod.refl _ _).drew.trans d2).weak _⟩
  case rest =>
    obtain ⟨rfl, rfl, M3, K3, D3⟩ := hcut
    clear r0 r1 r2 r3 r4 r5 r6 r10 hM hk
    obtain ⟨w3, rfl⟩ : ∃ w3, w3 = wc := ⟨_, rfl⟩
    go_wp2
    go_ret2
    exact ⟨rfl, M3, K3, D3⟩

set_option maxRecDepth 100000 in
set_option maxHeartbeats 40000000 in
theorem wbadS1 (hM : MemAt 142 w a b s) (hk : w.heap[k]? = some (.cells #[.int .i64 p0, .int .i64 p1, .int .i64 p2, .int .i64 p3, .int .i64 p4, .int .i64 p5, .int .i64 c, .int .u64 u0, .int .u64 u1, .int .u64 u2, .int .i64 1] 180 (0, 0))) (h0 : 0 ≤ c) (h1 : c < 256) (h2 : 0 ≤ p4) (h3 : p4 ≤ 4096) (he : (s.acc (p4 + 3 * c) != 0) = true) :
    Calls Try.prog 79 #[.pointer (some ⟨k, 0, none⟩), .pointer (some ⟨a, 0, none⟩)] w fun e w' => e = .returned (.tuple #[.bool false, .int .i64 (s.acc (p4 + 3 * c))]) ∧ MemAt 142 w' a b (s.store (p4 + 3 * c) u1) ∧ w'.heap[k]? = some (.cells #[.int .i64 p0, .int .i64 p1, .int .i64 p2, .int .i64 p3, .int .i64 p4, .int .i64 p5, .int .i64 c, .int .u64 u0, .int .u64 u1, .int .u64 u2, .int .i64 1] 180 (0, 0)) ∧ Mod [a, b, k] w w' := by
  have hx : xpAt p4 c 0 = p4 + 3 * c := by unfold xpAt; rw [if_pos (xpErr_ok h0 h1 h2 h3)]; omega
  have Hx := Lib.hid hx
  have Hp := Lib.hid (xpErr_ok h0 h1 h2 h3)
  clear hx
  have hka : k ≠ a := blk_ne hk hM.hd (by decide)
  have hkb : k ≠ b := blk_ne hk hM.ws (by decide)
  have r0 : w.cell? ⟨k, 0, none⟩ = some (.int .i64 p0) := cell_of_blk hk rfl
  have r1 : w.cell? ⟨k, 1, none⟩ = some (.int .i64 p1) := cell_of_blk hk rfl
  have r2 : w.cell? ⟨k, 2, none⟩ = some (.int .i64 p2) := cell_of_blk hk rfl
  have r3 : w.cell? ⟨k, 3, none⟩ = some (.int .i64 p3) := cell_of_blk hk rfl
  have r4 : w.cell? ⟨k, 4, none⟩ = some (.int .i64 p4) := cell_of_blk hk rfl
  have r5 : w.cell? ⟨k, 5, none⟩ = some (.int .i64 p5) := cell_of_blk hk rfl
  have r6 : w.cell? ⟨k, 6, none⟩ = some (.int .i64 c) := cell_of_blk hk rfl
  have r10 : w.cell? ⟨k, 10, none⟩ = some (.int .i64 1) := cell_of_blk hk rfl
  have hix : ∀ wx : World, (Instr.index 185 (.agg #[.int .i64 2, .int .i64 0, .int .i64 1]) (.int .i64 1)).run Try.prog wx = .ok (.int .i64 0) wx := fun _ => by kernel_rfl
  go_enter Try.func79, Try.ntmps79
  go_upto_region 3 with fail
  go_cut [6, 7] (fun A C wx => A = .int .i64 (xpAt p4 c 0) ∧ C = .int .i64 (xpErr p4 c) ∧ MemAt 142 wx a b s ∧ wx.heap[k]? = some (.cells #[.int .i64 p0, .int .i64 p1, .int .i64 p2, .int .i64 p3, .int .i64 p4, .int .i64 p5, .int .i64 c, .int .u64 u0, .int .u64 u1, .int .u64 u2, .int .i64 1] 180 (0, 0)) ∧ Mod [a, b, k] w wx)
  case first =>
    go_region_held3 (fun wx => wx.cell? ⟨k, 0, none⟩ = some (.int .i64 p0) ∧ wx.cell? ⟨k, 1, none⟩ = some (.int .i64 p1) ∧ wx.cell? ⟨k, 2, none⟩ = some (.int .i64 p2) ∧ wx.cell? ⟨k, 3, none⟩ = some (.int .i64 p3) ∧ wx.cell? ⟨k, 4, none⟩ = some (.int .i64 p4) ∧ wx.cell? ⟨k, 5, none⟩ = some (.int .i64 p5) ∧ wx.cell? ⟨k, 6, none⟩ = some (.int .i64 c) ∧ wx.cell? ⟨k, 10, none⟩ = some (.int .i64 1)) (first | exact ⟨r0, r1, r2, r3, r4, r5, r6, r10⟩ | exact ⟨cell_of_blk K2 rfl, cell_of_blk K2 rfl, cell_of_blk K2 rfl, cell_of_blk K2 rfl, cell_of_blk K2 rfl, cell_of_blk K2 rfl, cell_of_blk K2 rfl, cell_of_blk K2 rfl⟩)
      (first | (go_at_call 90; refine (place11 p0 p1 p2 p3 p4 p5 c 0 (by omega) (by omega) _).mono ?_; rintro e w2 ⟨rfl, hw2⟩; have d2 : Mod [] w.drew w2 := hw2 ▸ (Mod.refl _ _).alloc _; clear hw2; have K2 := d2.at (k := k) (o := .cells #[.int .i64 p0, .int .i64 p1, .int .i64 p2, .int .i64 p3, .int .i64 p4, .int .i64 p5, .int .i64 c, .int .u64 u0, .int .u64 u1, .int .u64 u2, .int .i64 1] 180 (0, 0)) hk (by simp)))
    all_goals
      go_wp2_with fail
      go_meet
      exact ⟨rfl, rfl, hM.drew.mod d2 (by simp) (by simp), K2, ((Mod.refl _ _).drew.trans d2).weak _⟩
  case rest =>
    obtain ⟨rfl, rfl, M3, K3, D3⟩ := hcut
    clear r0 r1 r2 r3 r4 r5 r6 r10 hM hk
    obtain ⟨w3, rfl⟩ : ∃ w3, w3 = wc := ⟨_, rfl⟩
    rw [Hx.out, Hp.out]
    have r8 : w3.cell? ⟨k, 8, none⟩ = some (.int .u64 u1) := cell_of_blk K3 rfl
    have r10 : w3.cell? ⟨k, 10, none⟩ = some (.int .i64 1) := cell_of_blk K3 rfl
    go_upto_region 5 with fail
    go_cut [7] (fun A wx => A = .int .i64 (s.acc (p4 + 3 * c)) ∧ MemAt 142 wx a b (s.store (p4 + 3 * c) u1) ∧ wx.heap[k]? = some (.cells #[.int .i64 p0, .int .i64 p1, .int .i64 p2, .int .i64 p3, .int .i64 p4, .int .i64 p5, .int .i64 c, .int .u64 u0, .int .u64 u1, .int .u64 u2, .int .i64 1] 180 (0, 0)) ∧ Mod [a, b, k] w wx)
    case first =>
      go_region_held3 (fun wx => wx.cell? ⟨k, 8, none⟩ = some (.int .u64 u1) ∧ wx.cell? ⟨k, 10, none⟩ = some (.int .i64 1)) (first | exact ⟨r8, r10⟩ | exact ⟨cell_of_blk K4 rfl, cell_of_blk K4 rfl⟩)
        (first | (go_at_call 34; refine (store_c M3.drew (p4 + 3 * c) u1).mono ?_; rintro e w4 ⟨rfl, M4, d4⟩; have K4 := d4.at (k := k) (o := .cells #[.int .i64 p0, .int .i64 p1, .int .i64 p2, .int .i64 p3, .int .i64 p4, .int .i64 p5, .int .i64 c, .int .u64 u0, .int .u64 u1, .int .u64 u2, .int .i64 1] 180 (0, 0)) K3 (by simp [hka, hkb])))
      all_goals
        go_wp2_with fail
        go_meet
        exact ⟨rfl, M4, K4, (D3.drew).trans (d4.mono (by simp))⟩
    case rest =>
      obtain ⟨rfl, M5, K5, D5⟩ := hcut
      clear r8 r10 M3 K3 D3
      obtain ⟨w5, rfl⟩ : ∃ w5, w5 = wc := ⟨_, rfl⟩
      go_wp2
      go_ret2
      exact ⟨rfl, M5, K5, D5⟩

set_option maxRecDepth 100000 in
set_option maxHeartbeats 40000000 in
theorem wok1 (hM : MemAt 142 w a b s) (hk : w.heap[k]? = some (.cells #[.int .i64 p0, .int .i64 p1, .int .i64 p2, .int .i64 p3, .int .i64 p4, .int .i64 p5, .int .i64 c, .int .u64 u0, .int .u64 u1, .int .u64 u2, .int .i64 1] 180 (0, 0))) (h0 : 0 ≤ c) (h1 : c < 256) (h2 : 0 ≤ p4) (h3 : p4 ≤ 4096) (he : s.acc (p4 + 3 * c) = 0) :
    Calls Try.prog 79 #[.pointer (some ⟨k, 0, none⟩), .pointer (some ⟨a, 0, none⟩)] w fun e w' => e = .returned (.tuple #[.bool false, .int .i64 0]) ∧ MemAt 142 w' a b (s.store (p4 + 3 * c) u1) ∧ w'.heap[k]? = some (.cells #[.int .i64 p0, .int .i64 p1, .int .i64 p2, .int .i64 p3, .int .i64 p4, .int .i64 p5, .int .i64 c, .int .u64 u0, .int .u64 u1, .int .u64 u2, .int .i64 2] 180 (0, 0)) ∧ Mod [a, b, k] w w' := by
  have He := Lib.hid he
  clear he
  have hx : xpAt p4 c 0 = p4 + 3 * c := by unfold xpAt; rw [if_pos (xpErr_ok h0 h1 h2 h3)]; omega
  have Hx := Lib.hid hx
  have Hp := Lib.hid (xpErr_ok h0 h1 h2 h3)
  clear hx
  have hka : k ≠ a := blk_ne hk hM.hd (by decide)
  have hkb : k ≠ b := blk_ne hk hM.ws (by decide)
  have r0 : w.cell? ⟨k, 0, none⟩ = some (.int .i64 p0) := cell_of_blk hk rfl
  have r1 : w.cell? ⟨k, 1, none⟩ = some (.int .i64 p1) := cell_of_blk hk rfl
  have r2 : w.cell? ⟨k, 2, none⟩ = some (.int .i64 p2) := cell_of_blk hk rfl
  have r3 : w.cell? ⟨k, 3, none⟩ = some (.int .i64 p3) := cell_of_blk hk rfl
  have r4 : w.cell? ⟨k, 4, none⟩ = some (.int .i64 p4) := cell_of_blk hk rfl
  have r5 : w.cell? ⟨k, 5, none⟩ = some (.int .i64 p5) := cell_of_blk hk rfl
  have r6 : w.cell? ⟨k, 6, none⟩ = some (.int .i64 c) := cell_of_blk hk rfl
  have r10 : w.cell? ⟨k, 10, none⟩ = some (.int .i64 1) := cell_of_blk hk rfl
  have hix : ∀ wx : World, (Instr.index 185 (.agg #[.int .i64 2, .int .i64 0, .int .i64 1]) (.int .i64 1)).run Try.prog wx = .ok (.int .i64 0) wx := fun _ => by kernel_rfl
  go_enter Try.func79, Try.ntmps79
  go_upto_region 3 with fail
  go_cut [6, 7] (fun A C wx => A = .int .i64 (xpAt p4 c 0) ∧ C = .int .i64 (xpErr p4 c) ∧ MemAt 142 wx a b s ∧ wx.heap[k]? = some (.cells #[.int .i64 p0, .int .i64 p1, .int .i64 p2, .int .i64 p3, .int .i64 p4, .int .i64 p5, .int .i64 c, .int .u64 u0, .int .u64 u1, .int .u64 u2, .int .i64 1] 180 (0, 0)) ∧ Mod [a, b, k] w wx)
  case first =>
    go_region_held3 (fun wx => wx.cell? ⟨k, 0, none⟩ = some (.int .i64 p0) ∧ wx.cell? ⟨k, 1, none⟩ = some (.int .i64 p1) ∧ wx.cell? ⟨k, 2, none⟩ = some (.int .i64 p2) ∧ wx.cell? ⟨k, 3, none⟩ = some (.int .i64 p3) ∧ wx.cell? ⟨k, 4, none⟩ = some (.int .i64 p4) ∧ wx.cell? ⟨k, 5, none⟩ = some (.int .i64 p5) ∧ wx.cell? ⟨k, 6, none⟩ = some (.int .i64 c) ∧ wx.cell? ⟨k, 10, none⟩ = some (.int .i64 1)) (first | exact ⟨r0, r1, r2, r3, r4, r5, r6, r10⟩ | exact ⟨cell_of_blk K2 rfl, cell_of_blk K2 rfl, cell_of_blk K2 rfl, cell_of_blk K2 rfl, cell_of_blk K2 rfl, cell_of_blk K2 rfl, cell_of_blk K2 rfl, cell_of_blk K2 rfl⟩)
      (first | (go_at_call 90; refine (place11 p0 p1 p2 p3 p4 p5 c 0 (by omega) (by omega) _).mono ?_; rintro e w2 ⟨rfl, hw2⟩; have d2 : Mod [] w.drew w2 := hw2 ▸ (Mod.refl _ _).alloc _; clear hw2; have K2 := d2.at (k := k) (o := .cells #[.int .i64 p0, .int .i64 p1, .int .i64 p2, .int .i64 p3, .int .i64 p4, .int .i64 p5, .int .i64 c, .int .u64 u0, .int .u64 u1, .int .u64 u2, .int .i64 1] 180 (0, 0)) hk (by simp)))
    all_goals
      go_wp2_with fail
      go_meet
      exact ⟨rfl, rfl, hM.drew.mod d2 (by simp) (by simp), K2, ((Mod.refl _ _).drew.trans d2).weak _⟩
  case rest =>
    obtain ⟨rfl, rfl, M3, K3, D3⟩ := hcut
    clear r0 r1 r2 r3 r4 r5 r6 r10 hM hk
    obtain ⟨w3, rfl⟩ : ∃ w3, w3 = wc := ⟨_, rfl⟩
    rw [Hx.out, Hp.out]
    have r8 : w3.cell? ⟨k, 8, none⟩ = some (.int .u64 u1) := cell_of_blk K3 rfl
    have r10 : w3.cell? ⟨k, 10, none⟩ = some (.int .i64 1) := cell_of_blk K3 rfl
    go_upto_region 5 with fail
    go_cut [7] (fun A wx => A = .int .i64 (s.acc (p4 + 3 * c)) ∧ MemAt 142 wx a b (s.store (p4 + 3 * c) u1) ∧ wx.heap[k]? = some (.cells #[.int .i64 p0, .int .i64 p1, .int .i64 p2, .int .i64 p3, .int .i64 p4, .int .i64 p5, .int .i64 c, .int .u64 u0, .int .u64 u1, .int .u64 u2, .int .i64 1] 180 (0, 0)) ∧ Mod [a, b, k] w wx)
    case first =>
      go_region_held3 (fun wx => wx.cell? ⟨k, 8, none⟩ = some (.int .u64 u1) ∧ wx.cell? ⟨k, 10, none⟩ = some (.int .i64 1)) (first | exact ⟨r8, r10⟩ | exact ⟨cell_of_blk K4 rfl, cell_of_blk K4 rfl⟩)
        (first | (go_at_call 34; refine (store_c M3.drew (p4 + 3 * c) u1).mono ?_; rintro e w4 ⟨rfl, M4, d4⟩; have K4 := d4.at (k := k) (o := .cells #[.int .i64 p0, .int .i64 p1, .int .i64 p2, .int .i64 p3, .int .i64 p4, .int .i64 p5, .int .i64 c, .int .u64 u0, .int .u64 u1, .int .u64 u2, .int .i64 1] 180 (0, 0)) K3 (by simp [hka, hkb])))
      all_goals
        go_wp2_with fail
        go_meet
        exact ⟨rfl, M4, K4, (D3.drew).trans (d4.mono (by simp))⟩
    case rest =>
      obtain ⟨rfl, M5, K5, D5⟩ := hcut
      clear r8 r10 M3 K3 D3
      obtain ⟨w5, rfl⟩ : ∃ w5, w5 = wc := ⟨_, rfl⟩
      rw [He.out]
      have r10 : w5.cell? ⟨k, 10, none⟩ = some (.int .i64 1) := cell_of_blk K5 rfl
      have z10 := free_of_blk (i := 10) K5
      go_upto_region 9 with fail
      have K6 := blk_setCell_same (i := 10) (.int .i64 2) K5
      simp only [List.setIfInBounds_toArray, List.set_cons_succ, List.set_cons_zero] at K6
      have M6 := M5.other k 10 (.int .i64 2) (Ne.symm hka) (Ne.symm hkb)
      have D6 := D5.setCell ⟨k, 10, none⟩ (.int .i64 2) (.inl (by simp))
      clear r10 z10 K5 M5 D5
      generalize w5.setCell ⟨k, 10, none⟩ (.int .i64 2) = w6 at *
      have r10 : w6.cell? ⟨k, 10, none⟩ = some (.int .i64 2) := cell_of_blk K6 rfl
      go_wp2
      go_ret2
      exact ⟨rfl, M6, K6, D6⟩

set_option maxRecDepth 100000 in
set_option maxHeartbeats 40000000 in
theorem wbadP2 (hM : MemAt 142 w a b s) (hk : w.heap[k]? = some (.cells #[.int .i64 p0, .int .i64 p1, .int .i64 p2, .int .i64 p3, .int .i64 p4, .int .i64 p5, .int .i64 c, .int .u64 u0, .int .u64 u1, .int .u64 u2, .int .i64 2] 180 (0, 0))) (he : (xpErr p4 c == 0) = false) (he' : (xpErr p4 c != 0) = true) :
    Calls Try.prog 79 #[.pointer (some ⟨k, 0, none⟩), .pointer (some ⟨a, 0, none⟩)] w fun e w' => e = .returned (.tuple #[.bool false, .int .i64 (xpErr p4 c)]) ∧ MemAt 142 w' a b s ∧ w'.heap[k]? = some (.cells #[.int .i64 p0, .int .i64 p1, .int .i64 p2, .int .i64 p3, .int .i64 p4, .int .i64 p5, .int .i64 c, .int .u64 u0, .int .u64 u1, .int .u64 u2, .int .i64 2] 180 (0, 0)) ∧ Mod [a, b, k] w w' := by
  have hka : k ≠ a := blk_ne hk hM.hd (by decide)
  have hkb : k ≠ b := blk_ne hk hM.ws (by decide)
  have r0 : w.cell? ⟨k, 0, none⟩ = some (.int .i64 p0) := cell_of_blk hk rfl
  have r1 : w.cell? ⟨k, 1, none⟩ = some (.int .i64 p1) := cell_of_blk hk rfl
  have r2 : w.cell? ⟨k, 2, none⟩ = some (.int .i64 p2) := cell_of_blk hk rfl
  have r3 : w.cell? ⟨k, 3, none⟩ = some (.int .i64 p3) := cell_of_blk hk rfl
  have r4 : w.cell? ⟨k, 4, none⟩ = some (.int .i64 p4) := cell_of_blk hk rfl
  have r5 : w.cell? ⟨k, 5, none⟩ = some (.int .i64 p5) := cell_of_blk hk rfl
  have r6 : w.cell? ⟨k, 6, none⟩ = some (.int .i64 c) := cell_of_blk hk rfl
  have r10 : w.cell? ⟨k, 10, none⟩ = some (.int .i64 2) := cell_of_blk hk rfl
  have hix : ∀ wx : World, (Instr.index 185 (.agg #[.int .i64 2, .int .i64 0, .int .i64 1]) (.int .i64 2)).run Try.prog wx = .ok (.int .i64 1) wx := fun _ => by kernel_rfl
  go_enter Try.func79, Try.ntmps79
  go_upto_region 3 with fail
  go_cut [6, 7] (fun A C wx => A = .int .i64 (xpAt p4 c 1) ∧ C = .int .i64 (xpErr p4 c) ∧ MemAt 142 wx a b s ∧ wx.heap[k]? = some (.cells #[.int .i64 p0, .int .i64 p1, .int .i64 p2, .int .i64 p3, .int .i64 p4, .int .i64 p5, .int .i64 c, .int .u64 u0, .int .u64 u1, .int .u64 u2, .int .i64 2] 180 (0, 0)) ∧ Mod [a, b, k] w wx)
  case first =>
    go_region_held3 (fun wx => wx.cell? ⟨k, 0, none⟩ = some (.int .i64 p0) ∧ wx.cell? ⟨k, 1, none⟩ = some (.int .i64 p1) ∧ wx.cell? ⟨k, 2, none⟩ = some (.int .i64 p2) ∧ wx.cell? ⟨k, 3, none⟩ = some (.int .i64 p3) ∧ wx.cell? ⟨k, 4, none⟩ = some (.int .i64 p4) ∧ wx.cell? ⟨k, 5, none⟩ = some (.int .i64 p5) ∧ wx.cell? ⟨k, 6, none⟩ = some (.int .i64 c) ∧ wx.cell? ⟨k, 10, none⟩ = some (.int .i64 2)) (first | exact ⟨r0, r1, r2, r3, r4, r5, r6, r10⟩ | exact ⟨cell_of_blk K2 rfl, cell_of_blk K2 rfl, cell_of_blk K2 rfl, cell_of_blk K2 rfl, cell_of_blk K2 rfl, cell_of_blk K2 rfl, cell_of_blk K2 rfl, cell_of_blk K2 rfl⟩)
      (first | (go_at_call 90; refine (place11 p0 p1 p2 p3 p4 p5 c 1 (by omega) (by omega) _).mono ?_; rintro e w2 ⟨rfl, hw2⟩; have d2 : Mod [] w.drew w2 := hw2 ▸ (Mod.refl _ _).alloc _; clear hw2; have K2 := d2.at (k := k) (o := .cells #[.int .i64 p0, .int .i64 p1, .int .i64 p2, .int .i64 p3, .int .i64 p4, .int .i64 p5, .int .i64 c, .int .u64 u0, .int .u64 u1, .int .u64 u2, .int .i64 2] 180 (0, 0)) hk (by simp)))
    all_goals
      go_wp2_with fail
      go_meet
      exact ⟨rfl, rfl, hM.drew.mod d2 (by simp) (by simp), K2, ((Mod.refl _ _).drew.trans d2).weak _⟩
  case rest =>
    obtain ⟨rfl, rfl, M3, K3, D3⟩ := hcut
    clear r0 r1 r2 r3 r4 r5 r6 r10 hM hk
    obtain ⟨w3, rfl⟩ : ∃ w3, w3 = wc := ⟨_, rfl⟩
    go_wp2
    go_ret2
    exact ⟨rfl, M3, K3, D3⟩

set_option maxRecDepth 100000 in
set_option maxHeartbeats 40000000 in
theorem wbadS2 (hM : MemAt 142 w a b s) (hk : w.heap[k]? = some (.cells #[.int .i64 p0, .int .i64 p1, .int .i64 p2, .int .i64 p3, .int .i64 p4, .int .i64 p5, .int .i64 c, .int .u64 u0, .int .u64 u1, .int .u64 u2, .int .i64 2] 180 (0, 0))) (h0 : 0 ≤ c) (h1 : c < 256) (h2 : 0 ≤ p4) (h3 : p4 ≤ 4096) (he : (s.acc (p4 + 3 * c + 1) != 0) = true) :
    Calls Try.prog 79 #[.pointer (some ⟨k, 0, none⟩), .pointer (some ⟨a, 0, none⟩)] w fun e w' => e = .returned (.tuple #[.bool false, .int .i64 (s.acc (p4 + 3 * c + 1))]) ∧ MemAt 142 w' a b (s.store (p4 + 3 * c + 1) u2) ∧ w'.heap[k]? = some (.cells #[.int .i64 p0, .int .i64 p1, .int .i64 p2, .int .i64 p3, .int .i64 p4, .int .i64 p5, .int .i64 c, .int .u64 u0, .int .u64 u1, .int .u64 u2, .int .i64 2] 180 (0, 0)) ∧ Mod [a, b, k] w w' := by
  have hx : xpAt p4 c 1 = p4 + 3 * c + 1 := by unfold xpAt; rw [if_pos (xpErr_ok h0 h1 h2 h3)]
  have Hx := Lib.hid hx
  have Hp := Lib.hid (xpErr_ok h0 h1 h2 h3)
  clear hx
  have hka : k ≠ a := blk_ne hk hM.hd (by decide)
  have hkb : k ≠ b := blk_ne hk hM.ws (by decide)
  have r0 : w.cell? ⟨k, 0, none⟩ = some (.int .i64 p0) := cell_of_blk hk rfl
  have r1 : w.cell? ⟨k, 1, none⟩ = some (.int .i64 p1) := cell_of_blk hk rfl
  have r2 : w.cell? ⟨k, 2, none⟩ = some (.int .i64 p2) := cell_of_blk hk rfl
  have r3 : w.cell? ⟨k, 3, none⟩ = some (.int .i64 p3) := cell_of_blk hk rfl
  have r4 : w.cell? ⟨k, 4, none⟩ = some (.int .i64 p4) := cell_of_blk hk rfl
  have r5 : w.cell? ⟨k, 5, none⟩ = some (.int .i64 p5) := cell_of_blk hk rfl
  have r6 : w.cell? ⟨k, 6, none⟩ = some (.int .i64 c) := cell_of_blk hk rfl
  have r10 : w.cell? ⟨k, 10, none⟩ = some (.int .i64 2) := cell_of_blk hk rfl
  have hix : ∀ wx : World, (Instr.index 185 (.agg #[.int .i64 2, .int .i64 0, .int .i64 1]) (.int .i64 2)).run Try.prog wx = .ok (.int .i64 1) wx := fun _ => by kernel_rfl
  go_enter Try.func79, Try.ntmps79
  go_upto_region 3 with fail
  go_cut [6, 7] (fun A C wx => A = .int .i64 (xpAt p4 c 1) ∧ C = .int .i64 (xpErr p4 c) ∧ MemAt 142 wx a b s ∧ wx.heap[k]? = some (.cells #[.int .i64 p0, .int .i64 p1, .int .i64 p2, .int .i64 p3, .int .i64 p4, .int .i64 p5, .int .i64 c, .int .u64 u0, .int .u64 u1, .int .u64 u2, .int .i64 2] 180 (0, 0)) ∧ Mod [a, b, k] w wx)
  case first =>
    go_region_held3 (fun wx => wx.cell? ⟨k, 0, none⟩ = some (.int .i64 p0) ∧ wx.cell? ⟨k, 1, none⟩ = some (.int .i64 p1) ∧ wx.cell? ⟨k, 2, none⟩ = some (.int .i64 p2) ∧ wx.cell? ⟨k, 3, none⟩ = some (.int .i64 p3) ∧ wx.cell? ⟨k, 4, none⟩ = some (.int .i64 p4) ∧ wx.cell? ⟨k, 5, none⟩ = some (.int .i64 p5) ∧ wx.cell? ⟨k, 6, none⟩ = some (.int .i64 c) ∧ wx.cell? ⟨k, 10, none⟩ = some (.int .i64 2)) (first | exact ⟨r0, r1, r2, r3, r4, r5, r6, r10⟩ | exact ⟨cell_of_blk K2 rfl, cell_of_blk K2 rfl, cell_of_blk K2 rfl, cell_of_blk K2 rfl, cell_of_blk K2 rfl, cell_of_blk K2 rfl, cell_of_blk K2 rfl, cell_of_blk K2 rfl⟩)
      (first | (go_at_call 90; refine (place11 p0 p1 p2 p3 p4 p5 c 1 (by omega) (by omega) _).mono ?_; rintro e w2 ⟨rfl, hw2⟩; have d2 : Mod [] w.drew w2 := hw2 ▸ (Mod.refl _ _).alloc _; clear hw2; have K2 := d2.at (k := k) (o := .cells #[.int .i64 p0, .int .i64 p1, .int .i64 p2, .int .i64 p3, .int .i64 p4, .int .i64 p5, .int .i64 c, .int .u64 u0, .int .u64 u1, .int .u64 u2, .int .i64 2] 180 (0, 0)) hk (by simp)))
    all_goals
      go_wp2_with fail
      go_meet
      exact ⟨rfl, rfl, hM.drew.mod d2 (by simp) (by simp), K2, ((Mod.refl _ _).drew.trans d2).weak _⟩
  case rest =>
    obtain ⟨rfl, rfl, M3, K3, D3⟩ := hcut
    clear r0 r1 r2 r3 r4 r5 r6 r10 hM hk
    obtain ⟨w3, rfl⟩ : ∃ w3, w3 = wc := ⟨_, rfl⟩
    rw [Hx.out, Hp.out]
    have r9 : w3.cell? ⟨k, 9, none⟩ = some (.int .u64 u2) := cell_of_blk K3 rfl
    have r10 : w3.cell? ⟨k, 10, none⟩ = some (.int .i64 2) := cell_of_blk K3 rfl
    go_upto_region 5 with fail
    go_cut [7] (fun A wx => A = .int .i64 (s.acc (p4 + 3 * c + 1)) ∧ MemAt 142 wx a b (s.store (p4 + 3 * c + 1) u2) ∧ wx.heap[k]? = some (.cells #[.int .i64 p0, .int .i64 p1, .int .i64 p2, .int .i64 p3, .int .i64 p4, .int .i64 p5, .int .i64 c, .int .u64 u0, .int .u64 u1, .int .u64 u2, .int .i64 2] 180 (0, 0)) ∧ Mod [a, b, k] w wx)
    case first =>
      go_region_held3 (fun wx => wx.cell? ⟨k, 9, none⟩ = some (.int .u64 u2) ∧ wx.cell? ⟨k, 10, none⟩ = some (.int .i64 2)) (first | exact ⟨r9, r10⟩ | exact ⟨cell_of_blk K4 rfl, cell_of_blk K4 rfl⟩)
        (first | (go_at_call 34; refine (store_c M3.drew (p4 + 3 * c + 1) u2).mono ?_; rintro e w4 ⟨rfl, M4, d4⟩; have K4 := d4.at (k := k) (o := .cells #[.int .i64 p0, .int .i64 p1, .int .i64 p2, .int .i64 p3, .int .i64 p4, .int .i64 p5, .int .i64 c, .int .u64 u0, .int .u64 u1, .int .u64 u2, .int .i64 2] 180 (0, 0)) K3 (by simp [hka, hkb])))
      all_goals
        go_wp2_with fail
        go_meet
        exact ⟨rfl, M4, K4, (D3.drew).trans (d4.mono (by simp))⟩
    case rest =>
      obtain ⟨rfl, M5, K5, D5⟩ := hcut
      clear r9 r10 M3 K3 D3
      obtain ⟨w5, rfl⟩ : ∃ w5, w5 = wc := ⟨_, rfl⟩
      go_wp2
      go_ret2
      exact ⟨rfl, M5, K5, D5⟩

set_option maxRecDepth 100000 in
set_option maxHeartbeats 40000000 in
theorem wok2 (hM : MemAt 142 w a b s) (hk : w.heap[k]? = some (.cells #[.int .i64 p0, .int .i64 p1, .int .i64 p2, .int .i64 p3, .int .i64 p4, .int .i64 p5, .int .i64 c, .int .u64 u0, .int .u64 u1, .int .u64 u2, .int .i64 2] 180 (0, 0))) (h0 : 0 ≤ c) (h1 : c < 256) (h2 : 0 ≤ p4) (h3 : p4 ≤ 4096) (he : s.acc (p4 + 3 * c + 1) = 0) :
    Calls Try.prog 79 #[.pointer (some ⟨k, 0, none⟩), .pointer (some ⟨a, 0, none⟩)] w fun e w' => e = .returned (.tuple #[.bool true, .int .i64 0]) ∧ MemAt 142 w' a b (s.store (p4 + 3 * c + 1) u2) ∧ w'.heap[k]? = some (.cells #[.int .i64 p0, .int .i64 p1, .int .i64 p2, .int .i64 p3, .int .i64 p4, .int .i64 p5, .int .i64 c, .int .u64 u0, .int .u64 u1, .int .u64 u2, .int .i64 3] 180 (0, 0)) ∧ Mod [a, b, k] w w' := by
  have He := Lib.hid he
  clear he
  have hx : xpAt p4 c 1 = p4 + 3 * c + 1 := by unfold xpAt; rw [if_pos (xpErr_ok h0 h1 h2 h3)]
  have Hx := Lib.hid hx
  have Hp := Lib.hid (xpErr_ok h0 h1 h2 h3)
  clear hx
  have hka : k ≠ a := blk_ne hk hM.hd (by decide)
  have hkb : k ≠ b := blk_ne hk hM.ws (by decide)
  have r0 : w.cell? ⟨k, 0, none⟩ = some (.int .i64 p0) := cell_of_blk hk rfl
  have r1 : w.cell? ⟨k, 1, none⟩ = some (.int .i64 p1) := cell_of_blk hk rfl
  have r2 : w.cell? ⟨k, 2, none⟩ = some (.int .i64 p2) := cell_of_blk hk rfl
  have r3 : w.cell? ⟨k, 3, none⟩ = some (.int .i64 p3) := cell_of_blk hk rfl
  have r4 : w.cell? ⟨k, 4, none⟩ = some (.int .i64 p4) := cell_of_blk hk rfl
  have r5 : w.cell? ⟨k, 5, none⟩ = some (.int .i64 p5) := cell_of_blk hk rfl
  have r6 : w.cell? ⟨k, 6, none⟩ = some (.int .i64 c) := cell_of_blk hk rfl
  have r10 : w.cell? ⟨k, 10, none⟩ = some (.int .i64 2) := cell_of_blk hk rfl
  have hix : ∀ wx : World, (Instr.index 185 (.agg #[.int .i64 2, .int .i64 0, .int .i64 1]) (.int .i64 2)).run Try.prog wx = .ok (.int .i64 1) wx := fun _ => by kernel_rfl
  go_enter Try.func79, Try.ntmps79
  go_upto_region 3 with fail
  go_cut [6, 7] (fun A C wx => A = .int .i64 (xpAt p4 c 1) ∧ C = .int .i64 (xpErr p4 c) ∧ MemAt 142 wx a b s ∧ wx.heap[k]? = some (.cells #[.int .i64 p0, .int .i64 p1, .int .i64 p2, .int .i64 p3, .int .i64 p4, .int .i64 p5, .int .i64 c, .int .u64 u0, .int .u64 u1, .int .u64 u2, .int .i64 2] 180 (0, 0)) ∧ Mod [a, b, k] w wx)
  case first =>
    go_region_held3 (fun wx => wx.cell? ⟨k, 0, none⟩ = some (.int .i64 p0) ∧ wx.cell? ⟨k, 1, none⟩ = some (.int .i64 p1) ∧ wx.cell? ⟨k, 2, none⟩ = some (.int .i64 p2) ∧ wx.cell? ⟨k, 3, none⟩ = some (.int .i64 p3) ∧ wx.cell? ⟨k, 4, none⟩ = some (.int .i64 p4) ∧ wx.cell? ⟨k, 5, none⟩ = some (.int .i64 p5) ∧ wx.cell? ⟨k, 6, none⟩ = some (.int .i64 c) ∧ wx.cell? ⟨k, 10, none⟩ = some (.int .i64 2)) (first | exact ⟨r0, r1, r2, r3, r4, r5, r6, r10⟩ | exact ⟨cell_of_blk K2 rfl, cell_of_blk K2 rfl, cell_of_blk K2 rfl, cell_of_blk K2 rfl, cell_of_blk K2 rfl, cell_of_blk K2 rfl, cell_of_blk K2 rfl, cell_of_blk K2 rfl⟩)
      (first | (go_at_call 90; refine (place11 p0 p1 p2 p3 p4 p5 c 1 (by omega) (by omega) _).mono ?_; rintro e w2 ⟨rfl, hw2⟩; have d2 : Mod [] w.drew w2 := hw2 ▸ (Mod.refl _ _).alloc _; clear hw2; have K2 := d2.at (k := k) (o := .cells #[.int .i64 p0, .int .i64 p1, .int .i64 p2, .int .i64 p3, .int .i64 p4, .int .i64 p5, .int .i64 c, .int .u64 u0, .int .u64 u1, .int .u64 u2, .int .i64 2] 180 (0, 0)) hk (by simp)))
    all_goals
      go_wp2_with fail
      go_meet
      exact ⟨rfl, rfl, hM.drew.mod d2 (by simp) (by simp), K2, ((Mod.refl _ _).drew.trans d2).weak _⟩
  case rest =>
    obtain ⟨rfl, rfl, M3, K3, D3⟩ := hcut
    clear r0 r1 r2 r3 r4 r5 r6 r10 hM hk
    obtain ⟨w3, rfl⟩ : ∃ w3, w3 = wc := ⟨_, rfl⟩
    rw [Hx.out, Hp.out]
    have r9 : w3.cell? ⟨k, 9, none⟩ = some (.int .u64 u2) := cell_of_blk K3 rfl
    have r10 : w3.cell? ⟨k, 10, none⟩ = some (.int .i64 2) := cell_of_blk K3 rfl
    go_upto_region 5 with fail
    go_cut [7] (fun A wx => A = .int .i64 (s.acc (p4 + 3 * c + 1)) ∧ MemAt 142 wx a b (s.store (p4 + 3 * c + 1) u2) ∧ wx.heap[k]? = some (.cells #[.int .i64 p0, .int .i64 p1, .int .i64 p2, .int .i64 p3, .int .i64 p4, .int .i64 p5, .int .i64 c, .int .u64 u0, .int .u64 u1, .int .u64 u2, .int .i64 2] 180 (0, 0)) ∧ Mod [a, b, k] w wx)
    case first =>
      go_region_held3 (fun wx => wx.cell? ⟨k, 9, none⟩ = some (.int .u64 u2) ∧ wx.cell? ⟨k, 10, none⟩ = some (.int .i64 2)) (first | exact ⟨r9, r10⟩ | exact ⟨cell_of_blk K4 rfl, cell_of_blk K4 rfl⟩)
        (first | (go_at_call 34; refine (store_c M3.drew (p4 + 3 * c + 1) u2).mono ?_; rintro e w4 ⟨rfl, M4, d4⟩; have K4 := d4.at (k := k) (o := .cells #[.int .i64 p0, .int .i64 p1, .int .i64 p2, .int .i64 p3, .int .i64 p4, .int .i64 p5, .int .i64 c, .int .u64 u0, .int .u64 u1, .int .u64 u2, .int .i64 2] 180 (0, 0)) K3 (by simp [hka, hkb])))
      all_goals
        go_wp2_with fail
        go_meet
        exact ⟨rfl, M4, K4, (D3.drew).trans (d4.mono (by simp))⟩
    case rest =>
      obtain ⟨rfl, M5, K5, D5⟩ := hcut
      clear r9 r10 M3 K3 D3
      obtain ⟨w5, rfl⟩ : ∃ w5, w5 = wc := ⟨_, rfl⟩
      rw [He.out]
      have r10 : w5.cell? ⟨k, 10, none⟩ = some (.int .i64 2) := cell_of_blk K5 rfl
      have z10 := free_of_blk (i := 10) K5
      go_upto_region 9 with fail
      have K6 := blk_setCell_same (i := 10) (.int .i64 3) K5
      simp only [List.setIfInBounds_toArray, List.set_cons_succ, List.set_cons_zero] at K6
      have M6 := M5.other k 10 (.int .i64 3) (Ne.symm hka) (Ne.symm hkb)
      have D6 := D5.setCell ⟨k, 10, none⟩ (.int .i64 3) (.inl (by simp))
      clear r10 z10 K5 M5 D5
      generalize w5.setCell ⟨k, 10, none⟩ (.int .i64 3) = w6 at *
      have r10 : w6.cell? ⟨k, 10, none⟩ = some (.int .i64 3) := cell_of_blk K6 rfl
      go_wp2
      go_ret2
      exact ⟨rfl, M6, K6, D6⟩

end Go.Proofs.Ytobmgnoceacoaaa

/- Layer 11: the document's readings: what comes next, what they tell. -/
import Derived.Test.YtobmgnoceacoaaaYC
import Derived.Test.YtobmgnoceacoaaaXRP
import Derived.Deep.QuietTactic
import Derived.BigQuiet
import Derived.Deep.DeepCutAuto
import Derived.Deep.CutBlock
import Derived.Deep.RegionHeld3
import Derived.StillTailTactics
import Derived.IntWalk
import Derived.Maps.AppendAt
namespace Go.Proofs.Ytobmgnoceacoaaa
open Go.RowKit
attribute [local go_sem] run_store_float

variable {a b k : Nat} {s : MemS} {w w' : World} {r : RdS} {u : Value} {L : List Int}
def refArr (r : RdS) (u : Value) : Array Value := #[.int .i64 r.p0, .int .i64 r.p1, .int .i64 r.p2, .int .i64 r.p3, .int .i64 r.p4, .int .i64 r.p5, .int .i64 r.c, .int .u64 r.st, u]
/-- A reading of the document's: its struct in block k, the words that it loaded. -/
structure RdRef (w : World) (k : Nat) (r : RdS) (u : Value) (L : List Int) : Prop where
  hd : w.heap[k]? = some (.cells (refArr r u) 203 (0, 0))
  own : w.ownsRow 0 28 1 u L.length (L.map (Value.int .u64))
theorem own_drewN (h : w.ownsRow 0 28 1 u L.length (L.map (Value.int .u64))) (n : Nat) : (w.drewN n).ownsRow 0 28 1 u L.length (L.map (Value.int .u64)) := h
theorem RdRef.drewN (h : RdRef w k r u L) (n : Nat) : RdRef (w.drewN n) k r u L := ⟨h.hd, own_drewN h.own n⟩
theorem own_mod {S : List Nat} (h : w.ownsRow 0 28 1 u L.length (L.map (Value.int .u64))) (m : Mod S w w') (hu : ∀ g, u.ownBlock = some g → g ∉ S) : w'.ownsRow 0 28 1 u L.length (L.map (Value.int .u64)) := by
  refine ⟨h.1, ?_⟩
  rcases h.2 with hn | ⟨g, cap, cur, rfl, hb, hgg, rest⟩
  · exact .inl hn
  · exact .inr ⟨g, cap, cur, rfl, hb, m.at hgg (hu g rfl), rest⟩
theorem RdRef.mod {S : List Nat} (h : RdRef w k r u L) (m : Mod S w w') (hk : k ∉ S) (hu : ∀ g, u.ownBlock = some g → g ∉ S) : RdRef w' k r u L := ⟨m.at h.hd hk, own_mod h.own m hu⟩
theorem RdRef.words (h : RdRef w k r u L) (h0 : 0 < L.length) :
    ∃ g cap, u = .slice (some ⟨g, 0, none⟩) L.length cap ∧ ∀ i, i < L.length → w.cell? ⟨g, i, none⟩ = some (.int .u64 (L.getD i 0)) := by
  obtain ⟨g, cap, rfl, _⟩ := owns_form h.own h0
  refine ⟨g, cap, rfl, fun i hi => ?_⟩
  have := h.own.cells (g := g) rfl i (.int .u64 (L.getD i 0)) (by simp [hi])
  rwa [show ((⟨g, 0, none⟩ : Addr).add i) = ⟨g, i, none⟩ by unfold Addr.add; split <;> simp_all] at this
theorem RdRef.len (h : RdRef w k r u L) : ∃ a cap, u = .slice a L.length cap := owns_len h.own
/-- Which word comes next. -/
def nextR (st : Int) : List Int → Int
  | [] => 0
  | [a] => if st < a then 2 else 1
  | [a, _] => if a ≤ st then 0 else -1
  | [a, _, c] => if c ≠ a then 2 else -1
  | _ => -1

set_option maxRecDepth 100000 in
set_option maxHeartbeats 4000000 in
theorem next_0 (h : RdRef w k r u []) : Calls Try.prog 167 #[.pointer (some ⟨k, 0, none⟩)] w fun e w' => e = .returned (.int .i64 0) ∧ ∃ n, w' = w.drewN n := by
  obtain ⟨ga, cap, rfl⟩ := h.len
  have r8 : w.cell? ⟨k, 8, none⟩ = some (.slice ga 0 cap) := cell_of_blk h.hd rfl
  clear h
  go_enter Try.func167, Try.ntmps167
  go_wp2
  go_ret
  exact ⟨rfl, 0, rfl⟩

set_option maxRecDepth 100000 in
set_option maxHeartbeats 4000000 in
theorem next_1a {l0 : Int} (h : RdRef w k r u [l0]) (hc : decide (r.st < l0) = true) :
    Calls Try.prog 167 #[.pointer (some ⟨k, 0, none⟩)] w fun e w' => e = .returned (.int .i64 2) ∧ ∃ n, w' = w.drewN n := by
  have r7 : w.cell? ⟨k, 7, none⟩ = some (.int .u64 r.st) := cell_of_blk h.hd rfl
  obtain ⟨g, cap, rfl, hg⟩ := h.words (by show 0 < 1; decide)
  have r8 : w.cell? ⟨k, 8, none⟩ = some (.slice (some ⟨g, 0, none⟩) 1 cap) := cell_of_blk h.hd rfl
  have g0 : w.cell? ⟨g, 0, none⟩ = some (.int .u64 l0) := hg 0 (by show 0 < 1; decide)
  clear hg
  clear h
  go_enter Try.func167, Try.ntmps167
  go_wp2_with fail
  go_quiet (fail)
  go_wp2_with fail
  go_ret
  exact ⟨rfl, _, by first | rfl | (simp only [World.drewN_drewN]; rfl)⟩

set_option maxRecDepth 100000 in
set_option maxHeartbeats 4000000 in
theorem next_1b {l0 : Int} (h : RdRef w k r u [l0]) (hc : decide (r.st < l0) = false) :
    Calls Try.prog 167 #[.pointer (some ⟨k, 0, none⟩)] w fun e w' => e = .returned (.int .i64 1) ∧ ∃ n, w' = w.drewN n := by
  have r7 : w.cell? ⟨k, 7, none⟩ = some (.int .u64 r.st) := cell_of_blk h.hd rfl
  obtain ⟨g, cap, rfl, hg⟩ := h.words (by show 0 < 1; decide)
  have r8 : w.cell? ⟨k, 8, none⟩ = some (.slice (some ⟨g, 0, none⟩) 1 cap) := cell_of_blk h.hd rfl
  have g0 : w.cell? ⟨g, 0, none⟩ = some (.int .u64 l0) := hg 0 (by show 0 < 1; decide)
  clear hg
  clear h
  go_enter Try.func167, Try.ntmps167
  go_wp2_with fail
  go_quiet (fail)
  go_wp2_with fail
  go_ret
  exact ⟨rfl, _, by first | rfl | (simp only [World.drewN_drewN]; rfl)⟩

set_option maxRecDepth 100000 in
set_option maxHeartbeats 4000000 in
theorem next_2a {l0 l1 : Int} (h : RdRef w k r u [l0, l1]) (hc : decide (l0 ≤ r.st) = true) :
    Calls Try.prog 167 #[.pointer (some ⟨k, 0, none⟩)] w fun e w' => e = .returned (.int .i64 0) ∧ ∃ n, w' = w.drewN n := by
  have r7 : w.cell? ⟨k, 7, none⟩ = some (.int .u64 r.st) := cell_of_blk h.hd rfl
  obtain ⟨g, cap, rfl, hg⟩ := h.words (by show 0 < 2; decide)
  have r8 : w.cell? ⟨k, 8, none⟩ = some (.slice (some ⟨g, 0, none⟩) 2 cap) := cell_of_blk h.hd rfl
  have g0 : w.cell? ⟨g, 0, none⟩ = some (.int .u64 l0) := hg 0 (by show 0 < 2; decide)
  have g1 : w.cell? ⟨g, 1, none⟩ = some (.int .u64 l1) := hg 1 (by show 1 < 2; decide)
  clear hg
  clear h
  go_enter Try.func167, Try.ntmps167
  go_wp2_with fail
  go_quiet (fail)
  go_wp2_with fail
  go_quiet (fail)
  go_wp2_with fail
  go_ret
  exact ⟨rfl, _, by first | rfl | (simp only [World.drewN_drewN]; rfl)⟩

set_option maxRecDepth 100000 in
set_option maxHeartbeats 4000000 in
theorem next_2b {l0 l1 : Int} (h : RdRef w k r u [l0, l1]) (hc : decide (l0 ≤ r.st) = false) :
    Calls Try.prog 167 #[.pointer (some ⟨k, 0, none⟩)] w fun e w' => e = .returned (.int .i64 (-1)) ∧ ∃ n, w' = w.drewN n := by
  have r7 : w.cell? ⟨k, 7, none⟩ = some (.int .u64 r.st) := cell_of_blk h.hd rfl
  obtain ⟨g, cap, rfl, hg⟩ := h.words (by show 0 < 2; decide)
  have r8 : w.cell? ⟨k, 8, none⟩ = some (.slice (some ⟨g, 0, none⟩) 2 cap) := cell_of_blk h.hd rfl
  have g0 : w.cell? ⟨g, 0, none⟩ = some (.int .u64 l0) := hg 0 (by show 0 < 2; decide)
  have g1 : w.cell? ⟨g, 1, none⟩ = some (.int .u64 l1) := hg 1 (by show 1 < 2; decide)
  clear hg
  clear h
  go_enter Try.func167, Try.ntmps167
  go_wp2_with fail
  go_quiet (fail)
  go_wp2_with fail
  go_quiet (fail)
  go_wp2_with fail
  go_quiet (fail)
  go_wp2_with fail
  go_ret
  exact ⟨rfl, _, by first | rfl | (simp only [World.drewN_drewN]; rfl)⟩

set_option maxRecDepth 100000 in
set_option maxHeartbeats 4000000 in
theorem next_3a {l0 l1 l2 : Int} (h : RdRef w k r u [l0, l1, l2]) (hc : (l2 != l0) = true) :
    Calls Try.prog 167 #[.pointer (some ⟨k, 0, none⟩)] w fun e w' => e = .returned (.int .i64 2) ∧ ∃ n, w' = w.drewN n := by
  have r7 : w.cell? ⟨k, 7, none⟩ = some (.int .u64 r.st) := cell_of_blk h.hd rfl
  obtain ⟨g, cap, rfl, hg⟩ := h.words (by show 0 < 3; decide)
  have r8 : w.cell? ⟨k, 8, none⟩ = some (.slice (some ⟨g, 0, none⟩) 3 cap) := cell_of_blk h.hd rfl
  have g0 : w.cell? ⟨g, 0, none⟩ = some (.int .u64 l0) := hg 0 (by show 0 < 3; decide)
  have g1 : w.cell? ⟨g, 1, none⟩ = some (.int .u64 l1) := hg 1 (by show 1 < 3; decide)
  have g2 : w.cell? ⟨g, 2, none⟩ = some (.int .u64 l2) := hg 2 (by show 2 < 3; decide)
  clear hg
  clear h
  go_enter Try.func167, Try.ntmps167
  go_wp2_with fail
  go_quiet (fail)
  go_wp2_with fail
  go_quiet (fail)
  go_wp2_with fail
  go_quiet (fail)
  go_wp2_with fail
  go_ret
  exact ⟨rfl, _, by first | rfl | (simp only [World.drewN_drewN]; rfl)⟩

set_option maxRecDepth 100000 in
set_option maxHeartbeats 4000000 in
theorem next_3b {l0 l1 l2 : Int} (h : RdRef w k r u [l0, l1, l2]) (hc : (l2 != l0) = false) :
    Calls Try.prog 167 #[.pointer (some ⟨k, 0, none⟩)] w fun e w' => e = .returned (.int .i64 (-1)) ∧ ∃ n, w' = w.drewN n := by
  have r7 : w.cell? ⟨k, 7, none⟩ = some (.int .u64 r.st) := cell_of_blk h.hd rfl
  obtain ⟨g, cap, rfl, hg⟩ := h.words (by show 0 < 3; decide)
  have r8 : w.cell? ⟨k, 8, none⟩ = some (.slice (some ⟨g, 0, none⟩) 3 cap) := cell_of_blk h.hd rfl
  have g0 : w.cell? ⟨g, 0, none⟩ = some (.int .u64 l0) := hg 0 (by show 0 < 3; decide)
  have g1 : w.cell? ⟨g, 1, none⟩ = some (.int .u64 l1) := hg 1 (by show 1 < 3; decide)
  have g2 : w.cell? ⟨g, 2, none⟩ = some (.int .u64 l2) := hg 2 (by show 2 < 3; decide)
  clear hg
  clear h
  go_enter Try.func167, Try.ntmps167
  go_wp2_with fail
  go_quiet (fail)
  go_wp2_with fail
  go_quiet (fail)
  go_wp2_with fail
  go_quiet (fail)
  go_wp2_with fail
  go_ret
  exact ⟨rfl, _, by first | rfl | (simp only [World.drewN_drewN]; rfl)⟩

set_option maxRecDepth 100000 in
set_option maxHeartbeats 4000000 in
theorem next_4 {l0 l1 l2 l3 : Int} (h : RdRef w k r u [l0, l1, l2, l3])  :
    Calls Try.prog 167 #[.pointer (some ⟨k, 0, none⟩)] w fun e w' => e = .returned (.int .i64 (-1)) ∧ ∃ n, w' = w.drewN n := by
  have r7 : w.cell? ⟨k, 7, none⟩ = some (.int .u64 r.st) := cell_of_blk h.hd rfl
  obtain ⟨g, cap, rfl, hg⟩ := h.words (by show 0 < 4; decide)
  have r8 : w.cell? ⟨k, 8, none⟩ = some (.slice (some ⟨g, 0, none⟩) 4 cap) := cell_of_blk h.hd rfl
  have g0 : w.cell? ⟨g, 0, none⟩ = some (.int .u64 l0) := hg 0 (by show 0 < 4; decide)
  have g1 : w.cell? ⟨g, 1, none⟩ = some (.int .u64 l1) := hg 1 (by show 1 < 4; decide)
  have g2 : w.cell? ⟨g, 2, none⟩ = some (.int .u64 l2) := hg 2 (by show 2 < 4; decide)
  have g3 : w.cell? ⟨g, 3, none⟩ = some (.int .u64 l3) := hg 3 (by show 3 < 4; decide)
  clear hg
  clear h
  go_enter Try.func167, Try.ntmps167
  go_wp2_with fail
  go_quiet (fail)
  go_wp2_with fail
  go_quiet (fail)
  go_wp2_with fail
  go_quiet (fail)
  go_wp2_with fail
  go_ret
  exact ⟨rfl, _, by first | rfl | (simp only [World.drewN_drewN]; rfl)⟩

theorem next_r (h : RdRef w k r u L) (hL : L.length ≤ 4) : Calls Try.prog 167 #[.pointer (some ⟨k, 0, none⟩)] w fun e w' => e = .returned (.int .i64 (nextR r.st L)) ∧ ∃ n, w' = w.drewN n := by
  match L, hL with
  | [], _ => exact next_0 h
  | [l0], _ =>
    by_cases hc : r.st < l0
    · rw [show nextR r.st [l0] = 2 from if_pos hc]; exact next_1a h (decide_eq_true hc)
    · rw [show nextR r.st [l0] = 1 from if_neg hc]; exact next_1b h (decide_eq_false hc)
  | [l0, l1], _ =>
    by_cases hc : l0 ≤ r.st
    · rw [show nextR r.st [l0, l1] = 0 from if_pos hc]; exact next_2a h (decide_eq_true hc)
    · rw [show nextR r.st [l0, l1] = -1 from if_neg hc]; exact next_2b h (decide_eq_false hc)
  | [l0, l1, l2], _ =>
    by_cases hc : l2 = l0
    · rw [show nextR r.st [l0, l1, l2] = -1 from if_neg (fun h => h hc)]; exact next_3b h (by simp [hc])
    · rw [show nextR r.st [l0, l1, l2] = 2 from if_pos hc]; exact next_3a h (by simp [hc])
  | [l0, l1, l2, l3], _ => exact next_4 h
set_option maxRecDepth 100000 in
set_option maxHeartbeats 4000000 in
theorem steps_r (h : RdRef w k r u L) : Calls Try.prog 163 #[.pointer (some ⟨k, 0, none⟩)] w fun e w' => e = .returned (.int .i64 L.length) ∧ w' = w := by
  obtain ⟨ga, cap, rfl⟩ := h.len
  have r8 : w.cell? ⟨k, 8, none⟩ = some (.slice ga L.length cap) := cell_of_blk h.hd rfl
  clear h
  go_enter Try.func163, Try.ntmps163
  go_wp2
  go_ret
  exact ⟨rfl, rfl⟩
def tornR : List Int → Bool
  | a :: _ :: c :: _ => c != a
  | _ => false

set_option maxRecDepth 100000 in
set_option maxHeartbeats 4000000 in
theorem torn_0 (h : RdRef w k r u [])  :
    Calls Try.prog 162 #[.pointer (some ⟨k, 0, none⟩)] w fun e w' => e = .returned (.bool false) ∧ ∃ n, w' = w.drewN n := by
  have r7 : w.cell? ⟨k, 7, none⟩ = some (.int .u64 r.st) := cell_of_blk h.hd rfl
  obtain ⟨ga, cap, rfl⟩ := h.len
  have r8 : w.cell? ⟨k, 8, none⟩ = some (.slice ga 0 cap) := cell_of_blk h.hd rfl
  clear h
  go_enter Try.func162, Try.ntmps162
  go_wp2_with fail
  go_quiet (fail)
  go_wp2_with fail
  go_ret
  exact ⟨rfl, _, by first | rfl | (simp only [World.drewN_drewN]; rfl)⟩

set_option maxRecDepth 100000 in
set_option maxHeartbeats 4000000 in
theorem torn_1 {l0 : Int} (h : RdRef w k r u [l0])  :
    Calls Try.prog 162 #[.pointer (some ⟨k, 0, none⟩)] w fun e w' => e = .returned (.bool false) ∧ ∃ n, w' = w.drewN n := by
  have r7 : w.cell? ⟨k, 7, none⟩ = some (.int .u64 r.st) := cell_of_blk h.hd rfl
  obtain ⟨g, cap, rfl, hg⟩ := h.words (by show 0 < 1; decide)
  have r8 : w.cell? ⟨k, 8, none⟩ = some (.slice (some ⟨g, 0, none⟩) 1 cap) := cell_of_blk h.hd rfl
  have g0 : w.cell? ⟨g, 0, none⟩ = some (.int .u64 l0) := hg 0 (by show 0 < 1; decide)
  clear hg
  clear h
  go_enter Try.func162, Try.ntmps162
  go_wp2_with fail
  go_quiet (fail)
  go_wp2_with fail
  go_ret
  exact ⟨rfl, _, by first | rfl | (simp only [World.drewN_drewN]; rfl)⟩

set_option maxRecDepth 100000 in
set_option maxHeartbeats 4000000 in
theorem torn_2 {l0 l1 : Int} (h : RdRef w k r u [l0, l1])  :
    Calls Try.prog 162 #[.pointer (some ⟨k, 0, none⟩)] w fun e w' => e = .returned (.bool false) ∧ ∃ n, w' = w.drewN n := by
  have r7 : w.cell? ⟨k, 7, none⟩ = some (.int .u64 r.st) := cell_of_blk h.hd rfl
  obtain ⟨g, cap, rfl, hg⟩ := h.words (by show 0 < 2; decide)
  have r8 : w.cell? ⟨k, 8, none⟩ = some (.slice (some ⟨g, 0, none⟩) 2 cap) := cell_of_blk h.hd rfl
  have g0 : w.cell? ⟨g, 0, none⟩ = some (.int .u64 l0) := hg 0 (by show 0 < 2; decide)
  have g1 : w.cell? ⟨g, 1, none⟩ = some (.int .u64 l1) := hg 1 (by show 1 < 2; decide)
  clear hg
  clear h
  go_enter Try.func162, Try.ntmps162
  go_wp2_with fail
  go_quiet (fail)
  go_wp2_with fail
  go_ret
  exact ⟨rfl, _, by first | rfl | (simp only [World.drewN_drewN]; rfl)⟩

set_option maxRecDepth 100000 in
set_option maxHeartbeats 4000000 in
theorem torn_3 {l0 l1 l2 : Int} (h : RdRef w k r u [l0, l1, l2])  :
    Calls Try.prog 162 #[.pointer (some ⟨k, 0, none⟩)] w fun e w' => e = .returned (.bool (l2 != l0)) ∧ ∃ n, w' = w.drewN n := by
  have r7 : w.cell? ⟨k, 7, none⟩ = some (.int .u64 r.st) := cell_of_blk h.hd rfl
  obtain ⟨g, cap, rfl, hg⟩ := h.words (by show 0 < 3; decide)
  have r8 : w.cell? ⟨k, 8, none⟩ = some (.slice (some ⟨g, 0, none⟩) 3 cap) := cell_of_blk h.hd rfl
  have g0 : w.cell? ⟨g, 0, none⟩ = some (.int .u64 l0) := hg 0 (by show 0 < 3; decide)
  have g1 : w.cell? ⟨g, 1, none⟩ = some (.int .u64 l1) := hg 1 (by show 1 < 3; decide)
  have g2 : w.cell? ⟨g, 2, none⟩ = some (.int .u64 l2) := hg 2 (by show 2 < 3; decide)
  clear hg
  clear h
  go_enter Try.func162, Try.ntmps162
  go_wp2_with fail
  go_quiet (fail)
  go_wp2_with fail
  go_ret
  exact ⟨rfl, _, by first | rfl | (simp only [World.drewN_drewN]; rfl)⟩

set_option maxRecDepth 100000 in
set_option maxHeartbeats 4000000 in
theorem torn_4 {l0 l1 l2 l3 : Int} (h : RdRef w k r u [l0, l1, l2, l3])  :
    Calls Try.prog 162 #[.pointer (some ⟨k, 0, none⟩)] w fun e w' => e = .returned (.bool (l2 != l0)) ∧ ∃ n, w' = w.drewN n := by
  have r7 : w.cell? ⟨k, 7, none⟩ = some (.int .u64 r.st) := cell_of_blk h.hd rfl
  obtain ⟨g, cap, rfl, hg⟩ := h.words (by show 0 < 4; decide)
  have r8 : w.cell? ⟨k, 8, none⟩ = some (.slice (some ⟨g, 0, none⟩) 4 cap) := cell_of_blk h.hd rfl
  have g0 : w.cell? ⟨g, 0, none⟩ = some (.int .u64 l0) := hg 0 (by show 0 < 4; decide)
  have g1 : w.cell? ⟨g, 1, none⟩ = some (.int .u64 l1) := hg 1 (by show 1 < 4; decide)
  have g2 : w.cell? ⟨g, 2, none⟩ = some (.int .u64 l2) := hg 2 (by show 2 < 4; decide)
  have g3 : w.cell? ⟨g, 3, none⟩ = some (.int .u64 l3) := hg 3 (by show 3 < 4; decide)
  clear hg
  clear h
  go_enter Try.func162, Try.ntmps162
  go_wp2_with fail
  go_quiet (fail)
  go_wp2_with fail
  go_ret
  exact ⟨rfl, _, by first | rfl | (simp only [World.drewN_drewN]; rfl)⟩

theorem torn_r (h : RdRef w k r u L) (hL : L.length ≤ 4) : Calls Try.prog 162 #[.pointer (some ⟨k, 0, none⟩)] w fun e w' => e = .returned (.bool (tornR L)) ∧ ∃ n, w' = w.drewN n := by
  match L, hL with
  | [], _ => exact torn_0 h
  | [_], _ => exact torn_1 h
  | [_, _], _ => exact torn_2 h
  | [_, _, _], _ => exact torn_3 h
  | [_, _, _, _], _ => exact torn_4 h
def valueR (st : Int) (L : List Int) : Nat := if 0 ≤ nextR st L then 0 else if L.length = 3 then fixB (L.getD 1 0).toNat else fixB (L.getD (L.length - 1) 0).toNat
set_option maxRecDepth 100000 in
set_option maxHeartbeats 4000000 in
theorem value_a (h : RdRef w k r u L) (hL : L.length ≤ 4) (hn : 0 ≤ nextR r.st L) : Calls Try.prog 161 #[.pointer (some ⟨k, 0, none⟩)] w fun e w' => e = .returned (.float .f64 0) ∧ ∃ n, w' = w.drewN n := by
  generalize hx : nextR r.st L = x at hn
  have HX := Lib.hid hx
  clear hx
  go_enter Try.func161, Try.ntmps161
  go_wp2_with fail
  refine (next_r h hL).mono ?_; rintro e w1 ⟨rfl, n, rfl⟩
  rw [HX.out]
  go_wp2
  go_ret
  exact ⟨rfl, _, rfl⟩

set_option maxRecDepth 100000 in
set_option maxHeartbeats 4000000 in
theorem value_2 {l0 l1 : Int} (h : RdRef w k r u [l0, l1]) (hn : nextR r.st [l0, l1] = -1) : Calls Try.prog 161 #[.pointer (some ⟨k, 0, none⟩)] w fun e w' => e = .returned (.float .f64 (fixB l1.toNat)) ∧ ∃ n, w' = w.drewN n := by
  have HX := Lib.hid hn
  clear hn
  go_enter Try.func161, Try.ntmps161
  go_wp2_with fail
  refine (next_r h (by show 2 ≤ 4; decide)).mono ?_; rintro e w1 ⟨rfl, n, rfl⟩
  rw [HX.out]
  have h2 := h.drewN n
  obtain ⟨g, cap, rfl, hg⟩ := h2.words (by show 0 < 2; decide)
  have r8 : (w.drewN n).cell? ⟨k, 8, none⟩ = some (.slice (some ⟨g, 0, none⟩) 2 cap) := cell_of_blk h2.hd rfl
  have g1 : (w.drewN n).cell? ⟨g, 1, none⟩ = some (.int .u64 l1) := hg 1 (by show 1 < 2; decide)
  clear h h2 hg HX
  go_wp2_with fail
  refine (of_r _ _).mono ?_; rintro e w2 ⟨rfl, hw2⟩
  have hw2' := hw2.symm
  subst hw2'
  go_wp2
  go_ret
  exact ⟨rfl, _, rfl⟩

set_option maxRecDepth 100000 in
set_option maxHeartbeats 4000000 in
theorem value_3 {l0 l1 l2 : Int} (h : RdRef w k r u [l0, l1, l2]) (hn : nextR r.st [l0, l1, l2] = -1) : Calls Try.prog 161 #[.pointer (some ⟨k, 0, none⟩)] w fun e w' => e = .returned (.float .f64 (fixB l1.toNat)) ∧ ∃ n, w' = w.drewN n := by
  have HX := Lib.hid hn
  clear hn
  go_enter Try.func161, Try.ntmps161
  go_wp2_with fail
  refine (next_r h (by show 3 ≤ 4; decide)).mono ?_; rintro e w1 ⟨rfl, n, rfl⟩
  rw [HX.out]
  have h2 := h.drewN n
  obtain ⟨g, cap, rfl, hg⟩ := h2.words (by show 0 < 3; decide)
  have r8 : (w.drewN n).cell? ⟨k, 8, none⟩ = some (.slice (some ⟨g, 0, none⟩) 3 cap) := cell_of_blk h2.hd rfl
  have g1 : (w.drewN n).cell? ⟨g, 1, none⟩ = some (.int .u64 l1) := hg 1 (by show 1 < 3; decide)
  clear h h2 hg HX
  go_wp2_with fail
  refine (of_r _ _).mono ?_; rintro e w2 ⟨rfl, hw2⟩
  have hw2' := hw2.symm
  subst hw2'
  go_wp2
  go_ret
  exact ⟨rfl, _, rfl⟩

set_option maxRecDepth 100000 in
set_option maxHeartbeats 4000000 in
theorem value_4 {l0 l1 l2 l3 : Int} (h : RdRef w k r u [l0, l1, l2, l3]) (hn : nextR r.st [l0, l1, l2, l3] = -1) : Calls Try.prog 161 #[.pointer (some ⟨k, 0, none⟩)] w fun e w' => e = .returned (.float .f64 (fixB l3.toNat)) ∧ ∃ n, w' = w.drewN n := by
  have HX := Lib.hid hn
  clear hn
  go_enter Try.func161, Try.ntmps161
  go_wp2_with fail
  refine (next_r h (by show 4 ≤ 4; decide)).mono ?_; rintro e w1 ⟨rfl, n, rfl⟩
  rw [HX.out]
  have h2 := h.drewN n
  obtain ⟨g, cap, rfl, hg⟩ := h2.words (by show 0 < 4; decide)
  have r8 : (w.drewN n).cell? ⟨k, 8, none⟩ = some (.slice (some ⟨g, 0, none⟩) 4 cap) := cell_of_blk h2.hd rfl
  have g3 : (w.drewN n).cell? ⟨g, 3, none⟩ = some (.int .u64 l3) := hg 3 (by show 3 < 4; decide)
  clear h h2 hg HX
  go_wp2_with fail
  refine (of_r _ _).mono ?_; rintro e w2 ⟨rfl, hw2⟩
  have hw2' := hw2.symm
  subst hw2'
  go_wp2
  go_ret
  exact ⟨rfl, _, rfl⟩

theorem value_r (h : RdRef w k r u L) (hL : L.length ≤ 4) : Calls Try.prog 161 #[.pointer (some ⟨k, 0, none⟩)] w fun e w' => e = .returned (.float .f64 (valueR r.st L)) ∧ ∃ n, w' = w.drewN n := by
  by_cases hn : 0 ≤ nextR r.st L
  · rw [show valueR r.st L = 0 from if_pos hn]; exact value_a h hL hn
  · unfold valueR
    rw [if_neg hn]
    match L, hL, h, hn with
    | [], _, _, hn => exact absurd (show (0 : Int) ≤ 0 by decide) hn
    | [l0], _, _, hn => exact absurd (by show 0 ≤ (if r.st < l0 then (2 : Int) else 1); split <;> decide) hn
    | [l0, l1], _, h, hn =>
      have e : nextR r.st [l0, l1] = -1 := by
        have h2 : nextR r.st [l0, l1] = if l0 ≤ r.st then 0 else -1 := rfl
        rw [h2] at hn ⊢; split at hn <;> simp_all
      exact value_2 h e
    | [l0, l1, l2], _, h, hn =>
      have e : nextR r.st [l0, l1, l2] = -1 := by
        have h2 : nextR r.st [l0, l1, l2] = if l2 ≠ l0 then 2 else -1 := rfl
        rw [h2] at hn ⊢; split at hn <;> simp_all
      exact value_3 h e
    | [l0, l1, l2, l3], _, h, _ => exact value_4 h rfl
set_option maxRecDepth 100000 in
set_option maxHeartbeats 4000000 in
theorem read_r (p0 p1 p2 p3 p4 p5 c st : Int) (w : World) :
    Calls Try.prog 158 #[.agg #[.int .i64 p0, .int .i64 p1, .int .i64 p2, .int .i64 p3, .int .i64 p4, .int .i64 p5], .int .i64 c, .int .u64 st] w fun e w' => ∃ k, e = .returned (.pointer (some ⟨k, 0, none⟩)) ∧ RdRef w' k (RdS.mk p0 p1 p2 p3 p4 p5 c st 0 0 0 0 false) (.slice none 0 0) [] ∧ w.heap.size ≤ k ∧ Mod [] w w' := by
  go_enter Try.func158, Try.ntmps158
  go_wp2
  go_ret
  refine ⟨_, rfl, ⟨?_, World.ownsRow_nil _ _ _ _⟩, ?_, ((Mod.refl _ _).alloc _).alloc _⟩
  · exact blk2 w (.cells #[.int .i64 p0, .int .i64 p1, .int .i64 p2, .int .i64 p3, .int .i64 p4, .int .i64 p5] 35) (.cells (refArr (RdS.mk p0 p1 p2 p3 p4 p5 c st 0 0 0 0 false) (.slice none 0 0)) 203)
  · omega

end Go.Proofs.Ytobmgnoceacoaaa

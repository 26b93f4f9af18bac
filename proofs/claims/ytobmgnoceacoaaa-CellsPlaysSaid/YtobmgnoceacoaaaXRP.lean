/- Layer 11: readings as pure things: a step, what they tell. -/
import Derived.Test.YtobmgnoceacoaaaXRS
import Derived.Deep.QuietTactic
import Derived.BigQuiet
import Derived.Deep.DeepCutAuto
import Derived.Deep.CutBlock
import Derived.Deep.RegionHeld3
import Derived.StillTailTactics
import Derived.IntWalk
namespace Go.Proofs.Ytobmgnoceacoaaa
open Go.RowKit
attribute [local go_sem] run_store_float

variable {a b k : Nat} {s : MemS} {w : World}
structure RdS.Inv (r : RdS) : Prop where
  lo : 0 ≤ r.pa
  hi : r.pa ≤ 4
theorem RdS.took_inv (r : RdS) (v : Int) : (r.took v).Inv := by
  unfold RdS.took
  split
  · exact ⟨by show 0 ≤ (if r.st < v then (3 : Int) else 1); split <;> omega, by show (if r.st < v then (3 : Int) else 1) ≤ 4; split <;> omega⟩
  · split
    · exact ⟨by show (0 : Int) ≤ 2; omega, by show (2 : Int) ≤ 4; omega⟩
    · split
      · exact ⟨by show 0 ≤ (if v = r.ve then (4 : Int) else 3); split <;> omega, by show (if v = r.ve then (4 : Int) else 3) ≤ 4; split <;> omega⟩
      · exact ⟨by show (0 : Int) ≤ 4; omega, by show (4 : Int) ≤ 4; omega⟩
theorem RdS.next_inv {r : RdS} (h : r.Inv) (s : MemS) : (r.next s).Inv := by
  unfold RdS.next
  split
  · exact RdS.took_inv _ _
  · exact h

theorem rstep_c (hM : MemAt 142 w a b s) (r : RdS) (hi : r.Inv) (hk : w.heap[k]? = some (.cells r.arr 177 (0, 0))) :
    Calls Try.prog 78 #[.pointer (some ⟨k, 0, none⟩), .pointer (some ⟨a, 0, none⟩)] w fun e w' => e = .returned (.tuple #[.bool (r.over s), .int .i64 (r.err s)]) ∧ MemAt 142 w' a b (r.mem s) ∧ w'.heap[k]? = some (.cells (r.next s).arr 177 (0, 0)) ∧ Mod [a, b, k] w w' := by
  obtain ⟨p0, p1, p2, p3, p4, p5, c, st, pa, ve, va, sp, tn⟩ := r
  obtain ⟨hlo, hhi⟩ := hi
  dsimp only at hlo hhi
  have hp : pa = 0 ∨ pa = 1 ∨ pa = 2 ∨ pa = 3 ∨ pa = 4 := by omega
  rcases hp with rfl | rfl | rfl | rfl | rfl
  · have e1 : (RdS.mk p0 p1 p2 p3 p4 p5 c st 0 ve va sp tn).err s = s.cellE p4 c 0 := rfl
    have e4 : (RdS.mk p0 p1 p2 p3 p4 p5 c st 0 ve va sp tn).mem s = s.cellM p4 c 0 := rfl
    rw [e4]
    by_cases he : s.cellE p4 c 0 = 0
    · have e2 : (RdS.mk p0 p1 p2 p3 p4 p5 c st 0 ve va sp tn).next s = (RdS.mk p0 p1 p2 p3 p4 p5 c st 0 ve va sp tn).took (s.cellV p4 c 0) := by unfold RdS.next; rw [e1, if_pos he]; rfl
      have e3 : (RdS.mk p0 p1 p2 p3 p4 p5 c st 0 ve va sp tn).over s = (((RdS.mk p0 p1 p2 p3 p4 p5 c st 0 ve va sp tn).took (s.cellV p4 c 0)).pa == 4) := by unfold RdS.over; rw [e1, if_pos he, e2]
      rw [e1, e2, e3, he]
      by_cases hv : st < s.cellV p4 c 0
      · have e5 : (RdS.mk p0 p1 p2 p3 p4 p5 c st 0 ve va sp tn).took (s.cellV p4 c 0) = RdS.mk p0 p1 p2 p3 p4 p5 c st 3 (s.cellV p4 c 0) va (wrap64 (sp + 1)) tn := by unfold RdS.took; simp [hv]
        rw [e5]; exact rok0_gt hM hk he hv
      · have e5 : (RdS.mk p0 p1 p2 p3 p4 p5 c st 0 ve va sp tn).took (s.cellV p4 c 0) = RdS.mk p0 p1 p2 p3 p4 p5 c st 1 (s.cellV p4 c 0) va (wrap64 (sp + 1)) tn := by unfold RdS.took; simp [hv]
        rw [e5]; exact rok0_le hM hk he (Int.not_lt.1 hv)
    · have e2 : (RdS.mk p0 p1 p2 p3 p4 p5 c st 0 ve va sp tn).next s = (RdS.mk p0 p1 p2 p3 p4 p5 c st 0 ve va sp tn) := by unfold RdS.next; rw [e1, if_neg he]
      have e3 : (RdS.mk p0 p1 p2 p3 p4 p5 c st 0 ve va sp tn).over s = false := by unfold RdS.over; rw [e1, if_neg he]
      rw [e1, e2, e3]
      exact rbad0 hM hk (by simp [he])
  · have e1 : (RdS.mk p0 p1 p2 p3 p4 p5 c st 1 ve va sp tn).err s = s.cellE p4 c 1 := rfl
    have e4 : (RdS.mk p0 p1 p2 p3 p4 p5 c st 1 ve va sp tn).mem s = s.cellM p4 c 1 := rfl
    rw [e4]
    by_cases he : s.cellE p4 c 1 = 0
    · have e2 : (RdS.mk p0 p1 p2 p3 p4 p5 c st 1 ve va sp tn).next s = (RdS.mk p0 p1 p2 p3 p4 p5 c st 1 ve va sp tn).took (s.cellV p4 c 1) := by unfold RdS.next; rw [e1, if_pos he]; rfl
      have e3 : (RdS.mk p0 p1 p2 p3 p4 p5 c st 1 ve va sp tn).over s = (((RdS.mk p0 p1 p2 p3 p4 p5 c st 1 ve va sp tn).took (s.cellV p4 c 1)).pa == 4) := by unfold RdS.over; rw [e1, if_pos he, e2]
      rw [e1, e2, e3, he]
      have e5 : (RdS.mk p0 p1 p2 p3 p4 p5 c st 1 ve va sp tn).took (s.cellV p4 c 1) = RdS.mk p0 p1 p2 p3 p4 p5 c st 2 ve (fixB (s.cellV p4 c 1).toNat) (wrap64 (sp + 1)) tn := by unfold RdS.took; simp
      rw [e5]; exact rok1 hM hk he
    · have e2 : (RdS.mk p0 p1 p2 p3 p4 p5 c st 1 ve va sp tn).next s = (RdS.mk p0 p1 p2 p3 p4 p5 c st 1 ve va sp tn) := by unfold RdS.next; rw [e1, if_neg he]
      have e3 : (RdS.mk p0 p1 p2 p3 p4 p5 c st 1 ve va sp tn).over s = false := by unfold RdS.over; rw [e1, if_neg he]
      rw [e1, e2, e3]
      exact rbad1 hM hk (by simp [he])
  · have e1 : (RdS.mk p0 p1 p2 p3 p4 p5 c st 2 ve va sp tn).err s = s.cellE p4 c 0 := rfl
    have e4 : (RdS.mk p0 p1 p2 p3 p4 p5 c st 2 ve va sp tn).mem s = s.cellM p4 c 0 := rfl
    rw [e4]
    by_cases he : s.cellE p4 c 0 = 0
    · have e2 : (RdS.mk p0 p1 p2 p3 p4 p5 c st 2 ve va sp tn).next s = (RdS.mk p0 p1 p2 p3 p4 p5 c st 2 ve va sp tn).took (s.cellV p4 c 0) := by unfold RdS.next; rw [e1, if_pos he]; rfl
      have e3 : (RdS.mk p0 p1 p2 p3 p4 p5 c st 2 ve va sp tn).over s = (((RdS.mk p0 p1 p2 p3 p4 p5 c st 2 ve va sp tn).took (s.cellV p4 c 0)).pa == 4) := by unfold RdS.over; rw [e1, if_pos he, e2]
      rw [e1, e2, e3, he]
      by_cases hv : s.cellV p4 c 0 = ve
      · have e5 : (RdS.mk p0 p1 p2 p3 p4 p5 c st 2 ve va sp tn).took (s.cellV p4 c 0) = RdS.mk p0 p1 p2 p3 p4 p5 c st 4 ve va (wrap64 (sp + 1)) false := by unfold RdS.took; simp [hv]
        rw [e5]; exact rok2_eq hM hk he (by simp [hv])
      · have e5 : (RdS.mk p0 p1 p2 p3 p4 p5 c st 2 ve va sp tn).took (s.cellV p4 c 0) = RdS.mk p0 p1 p2 p3 p4 p5 c st 3 ve va (wrap64 (sp + 1)) true := by unfold RdS.took; simp [hv]
        rw [e5]; exact rok2_ne hM hk he (by simp [hv])
    · have e2 : (RdS.mk p0 p1 p2 p3 p4 p5 c st 2 ve va sp tn).next s = (RdS.mk p0 p1 p2 p3 p4 p5 c st 2 ve va sp tn) := by unfold RdS.next; rw [e1, if_neg he]
      have e3 : (RdS.mk p0 p1 p2 p3 p4 p5 c st 2 ve va sp tn).over s = false := by unfold RdS.over; rw [e1, if_neg he]
      rw [e1, e2, e3]
      exact rbad2 hM hk (by simp [he])
  · have e1 : (RdS.mk p0 p1 p2 p3 p4 p5 c st 3 ve va sp tn).err s = s.cellE p4 c 2 := rfl
    have e4 : (RdS.mk p0 p1 p2 p3 p4 p5 c st 3 ve va sp tn).mem s = s.cellM p4 c 2 := rfl
    rw [e4]
    by_cases he : s.cellE p4 c 2 = 0
    · have e2 : (RdS.mk p0 p1 p2 p3 p4 p5 c st 3 ve va sp tn).next s = (RdS.mk p0 p1 p2 p3 p4 p5 c st 3 ve va sp tn).took (s.cellV p4 c 2) := by unfold RdS.next; rw [e1, if_pos he]; rfl
      have e3 : (RdS.mk p0 p1 p2 p3 p4 p5 c st 3 ve va sp tn).over s = (((RdS.mk p0 p1 p2 p3 p4 p5 c st 3 ve va sp tn).took (s.cellV p4 c 2)).pa == 4) := by unfold RdS.over; rw [e1, if_pos he, e2]
      rw [e1, e2, e3, he]
      have e5 : (RdS.mk p0 p1 p2 p3 p4 p5 c st 3 ve va sp tn).took (s.cellV p4 c 2) = RdS.mk p0 p1 p2 p3 p4 p5 c st 4 ve (fixB (s.cellV p4 c 2).toNat) (wrap64 (sp + 1)) tn := by unfold RdS.took; simp
      rw [e5]; exact rok3 hM hk he
    · have e2 : (RdS.mk p0 p1 p2 p3 p4 p5 c st 3 ve va sp tn).next s = (RdS.mk p0 p1 p2 p3 p4 p5 c st 3 ve va sp tn) := by unfold RdS.next; rw [e1, if_neg he]
      have e3 : (RdS.mk p0 p1 p2 p3 p4 p5 c st 3 ve va sp tn).over s = false := by unfold RdS.over; rw [e1, if_neg he]
      rw [e1, e2, e3]
      exact rbad3 hM hk (by simp [he])
  · have e1 : (RdS.mk p0 p1 p2 p3 p4 p5 c st 4 ve va sp tn).err s = 3 := rfl
    have e2 : (RdS.mk p0 p1 p2 p3 p4 p5 c st 4 ve va sp tn).next s = (RdS.mk p0 p1 p2 p3 p4 p5 c st 4 ve va sp tn) := by unfold RdS.next; rw [e1, if_neg (by decide)]
    have e3 : (RdS.mk p0 p1 p2 p3 p4 p5 c st 4 ve va sp tn).over s = false := by unfold RdS.over; rw [e1, if_neg (by decide)]
    have e4 : (RdS.mk p0 p1 p2 p3 p4 p5 c st 4 ve va sp tn).mem s = s := rfl
    rw [e1, e2, e3, e4]
    exact (rstep4 hk).mono fun e w' ⟨he, hw⟩ => ⟨he, hw ▸ hM, hw ▸ hk, hw ▸ Mod.refl _ _⟩

def RdS.value (r : RdS) : Nat := if r.pa = 4 then r.va else 0
set_option maxRecDepth 100000 in
set_option maxHeartbeats 4000000 in
theorem rvalue_c (r : RdS) (hk : w.heap[k]? = some (.cells r.arr 177 (0, 0))) : Calls Try.prog 82 #[.pointer (some ⟨k, 0, none⟩)] w fun e w' => e = .returned (.float .f64 r.value) ∧ w' = w := by
  have r8 : w.cell? ⟨k, 8, none⟩ = some (.int .i64 r.pa) := cell_of_blk hk rfl
  have r10 : w.cell? ⟨k, 10, none⟩ = some (.float .f64 r.va) := cell_of_blk hk rfl
  by_cases h : r.pa = 4
  · have hv : r.value = r.va := if_pos h
    have hb : (r.pa != 4) = false := by simp [h]
    rw [hv]
    clear h hv
    go_enter Try.func82, Try.ntmps82
    go_wp2
    go_ret
    exact ⟨rfl, rfl⟩
  · have hv : r.value = 0 := if_neg h
    have hb : (r.pa != 4) = true := by simp [h]
    rw [hv]
    clear h hv
    go_enter Try.func82, Try.ntmps82
    go_wp2
    go_ret
    exact ⟨rfl, rfl⟩
set_option maxRecDepth 100000 in
set_option maxHeartbeats 4000000 in
theorem rsteps_c (r : RdS) (hk : w.heap[k]? = some (.cells r.arr 177 (0, 0))) : Calls Try.prog 80 #[.pointer (some ⟨k, 0, none⟩)] w fun e w' => e = .returned (.int .i64 r.sp) ∧ w' = w := by
  have r8 : w.cell? ⟨k, 11, none⟩ = some (.int .i64 r.sp) := cell_of_blk hk rfl
  go_enter Try.func80, Try.ntmps80
  go_wp2
  go_ret
  exact ⟨rfl, rfl⟩
set_option maxRecDepth 100000 in
set_option maxHeartbeats 4000000 in
theorem rtorn_c (r : RdS) (hk : w.heap[k]? = some (.cells r.arr 177 (0, 0))) : Calls Try.prog 84 #[.pointer (some ⟨k, 0, none⟩)] w fun e w' => e = .returned (.bool r.tn) ∧ w' = w := by
  have r8 : w.cell? ⟨k, 12, none⟩ = some (.bool r.tn) := cell_of_blk hk rfl
  go_enter Try.func84, Try.ntmps84
  go_wp2
  go_ret
  exact ⟨rfl, rfl⟩

end Go.Proofs.Ytobmgnoceacoaaa

/- Layer 11: writings as pure things: a step. -/
import Derived.Test.YtobmgnoceacoaaaXW
import Derived.Deep.QuietTactic
import Derived.BigQuiet
import Derived.Deep.DeepCutAuto
import Derived.Deep.CutBlock
import Derived.Deep.RegionHeld3
import Derived.StillTailTactics
import Derived.IntWalk
namespace Go.Proofs.Ytobmgnoceacoaaa
open Go.RowKit
attribute [local go_sem] run_store_float

variable {a b k : Nat} {s : MemS} {w : World}
structure WrS.Inv (r : WrS) : Prop where
  lo : 0 ≤ r.n
  hi : r.n ≤ 3
theorem WrS.next_inv {r : WrS} (h : r.Inv) (s : MemS) : (r.next s).Inv := by
  unfold WrS.next
  split
  · rename_i he
    have h3 : r.n ≠ 3 := fun e => by unfold WrS.err at he; rw [if_pos e] at he; exact absurd he (by decide)
    have h0 := h.lo
    have h1 := h.hi
    exact ⟨by show 0 ≤ r.n + 1; omega, by show r.n + 1 ≤ 3; omega⟩
  · exact h
theorem cellE_zero {p4 c k : Int} (h : xpErr p4 c = 0) : s.cellE p4 c k = s.acc (p4 + 3 * c + k) := if_pos h
theorem cellS_zero {p4 c k v : Int} (h : xpErr p4 c = 0) : s.cellS p4 c k v = s.store (p4 + 3 * c + k) v := if_pos h
theorem cellE_bad {p4 c k : Int} (h : xpErr p4 c ≠ 0) : s.cellE p4 c k = xpErr p4 c := if_neg h
theorem cellS_bad {p4 c k v : Int} (h : xpErr p4 c ≠ 0) : s.cellS p4 c k v = s := if_neg h
theorem wstep_c (hM : MemAt 142 w a b s) (r : WrS) (hi : r.Inv) (hk : w.heap[k]? = some (.cells r.arr 180 (0, 0))) :
    Calls Try.prog 79 #[.pointer (some ⟨k, 0, none⟩), .pointer (some ⟨a, 0, none⟩)] w fun e w' => e = .returned (.tuple #[.bool (r.over s), .int .i64 (r.err s)]) ∧ MemAt 142 w' a b (r.mem s) ∧ w'.heap[k]? = some (.cells (r.next s).arr 180 (0, 0)) ∧ Mod [a, b, k] w w' := by
  obtain ⟨p0, p1, p2, p3, p4, p5, c, u0, u1, u2, n⟩ := r
  obtain ⟨hlo, hhi⟩ := hi
  dsimp only at hlo hhi
  have hp : n = 0 ∨ n = 1 ∨ n = 2 ∨ n = 3 := by omega
  rcases hp with rfl | rfl | rfl | rfl
  · have e1 : (WrS.mk p0 p1 p2 p3 p4 p5 c u0 u1 u2 0).err s = s.cellE p4 c 2 := rfl
    have e4 : (WrS.mk p0 p1 p2 p3 p4 p5 c u0 u1 u2 0).mem s = s.cellS p4 c 2 u0 := rfl
    by_cases hx : xpErr p4 c = 0
    · obtain ⟨h0, h1, h2, h3⟩ := xpErr_zero hx
      have e5 : s.cellE p4 c 2 = s.acc (p4 + 3 * c + 2) := by rw [cellE_zero hx]
      have e6 : s.cellS p4 c 2 u0 = s.store (p4 + 3 * c + 2) u0 := by rw [cellS_zero hx]
      rw [e5] at e1
      rw [e6] at e4
      by_cases he : s.acc (p4 + 3 * c + 2) = 0
      · have e2 : (WrS.mk p0 p1 p2 p3 p4 p5 c u0 u1 u2 0).next s = (WrS.mk p0 p1 p2 p3 p4 p5 c u0 u1 u2 1) := by unfold WrS.next; rw [e1, if_pos he]; rfl
        have e3 : (WrS.mk p0 p1 p2 p3 p4 p5 c u0 u1 u2 0).over s = false := by unfold WrS.over; rw [e1, if_pos he]; rfl
        rw [e1, e2, e3, e4, he]
        exact wok0 hM hk h0 h1 h2 h3 he
      · have e2 : (WrS.mk p0 p1 p2 p3 p4 p5 c u0 u1 u2 0).next s = (WrS.mk p0 p1 p2 p3 p4 p5 c u0 u1 u2 0) := by unfold WrS.next; rw [e1, if_neg he]
        have e3 : (WrS.mk p0 p1 p2 p3 p4 p5 c u0 u1 u2 0).over s = false := by unfold WrS.over; rw [e1, if_neg he]
        rw [e1, e2, e3, e4]
        exact wbadS0 hM hk h0 h1 h2 h3 (by simp [he])
    · rw [cellE_bad hx] at e1
      rw [cellS_bad hx] at e4
      have e2 : (WrS.mk p0 p1 p2 p3 p4 p5 c u0 u1 u2 0).next s = (WrS.mk p0 p1 p2 p3 p4 p5 c u0 u1 u2 0) := by unfold WrS.next; rw [e1, if_neg hx]
      have e3 : (WrS.mk p0 p1 p2 p3 p4 p5 c u0 u1 u2 0).over s = false := by unfold WrS.over; rw [e1, if_neg hx]
      rw [e1, e2, e3, e4]
      exact wbadP0 hM hk (by simp [hx]) (by simp [hx])
  · have e1 : (WrS.mk p0 p1 p2 p3 p4 p5 c u0 u1 u2 1).err s = s.cellE p4 c 0 := rfl
    have e4 : (WrS.mk p0 p1 p2 p3 p4 p5 c u0 u1 u2 1).mem s = s.cellS p4 c 0 u1 := rfl
    by_cases hx : xpErr p4 c = 0
    · obtain ⟨h0, h1, h2, h3⟩ := xpErr_zero hx
      have e5 : s.cellE p4 c 0 = s.acc (p4 + 3 * c) := by rw [cellE_zero hx]; rw [Int.add_zero]
      have e6 : s.cellS p4 c 0 u1 = s.store (p4 + 3 * c) u1 := by rw [cellS_zero hx]; rw [Int.add_zero]
      rw [e5] at e1
      rw [e6] at e4
      by_cases he : s.acc (p4 + 3 * c) = 0
      · have e2 : (WrS.mk p0 p1 p2 p3 p4 p5 c u0 u1 u2 1).next s = (WrS.mk p0 p1 p2 p3 p4 p5 c u0 u1 u2 2) := by unfold WrS.next; rw [e1, if_pos he]; rfl
        have e3 : (WrS.mk p0 p1 p2 p3 p4 p5 c u0 u1 u2 1).over s = false := by unfold WrS.over; rw [e1, if_pos he]; rfl
        rw [e1, e2, e3, e4, he]
        exact wok1 hM hk h0 h1 h2 h3 he
      · have e2 : (WrS.mk p0 p1 p2 p3 p4 p5 c u0 u1 u2 1).next s = (WrS.mk p0 p1 p2 p3 p4 p5 c u0 u1 u2 1) := by unfold WrS.next; rw [e1, if_neg he]
        have e3 : (WrS.mk p0 p1 p2 p3 p4 p5 c u0 u1 u2 1).over s = false := by unfold WrS.over; rw [e1, if_neg he]
        rw [e1, e2, e3, e4]
        exact wbadS1 hM hk h0 h1 h2 h3 (by simp [he])
    · rw [cellE_bad hx] at e1
      rw [cellS_bad hx] at e4
      have e2 : (WrS.mk p0 p1 p2 p3 p4 p5 c u0 u1 u2 1).next s = (WrS.mk p0 p1 p2 p3 p4 p5 c u0 u1 u2 1) := by unfold WrS.next; rw [e1, if_neg hx]
      have e3 : (WrS.mk p0 p1 p2 p3 p4 p5 c u0 u1 u2 1).over s = false := by unfold WrS.over; rw [e1, if_neg hx]
      rw [e1, e2, e3, e4]
      exact wbadP1 hM hk (by simp [hx]) (by simp [hx])
  · have e1 : (WrS.mk p0 p1 p2 p3 p4 p5 c u0 u1 u2 2).err s = s.cellE p4 c 1 := rfl
    have e4 : (WrS.mk p0 p1 p2 p3 p4 p5 c u0 u1 u2 2).mem s = s.cellS p4 c 1 u2 := rfl
    by_cases hx : xpErr p4 c = 0
    · obtain ⟨h0, h1, h2, h3⟩ := xpErr_zero hx
      have e5 : s.cellE p4 c 1 = s.acc (p4 + 3 * c + 1) := by rw [cellE_zero hx]
      have e6 : s.cellS p4 c 1 u2 = s.store (p4 + 3 * c + 1) u2 := by rw [cellS_zero hx]
      rw [e5] at e1
      rw [e6] at e4
      by_cases he : s.acc (p4 + 3 * c + 1) = 0
      · have e2 : (WrS.mk p0 p1 p2 p3 p4 p5 c u0 u1 u2 2).next s = (WrS.mk p0 p1 p2 p3 p4 p5 c u0 u1 u2 3) := by unfold WrS.next; rw [e1, if_pos he]; rfl
        have e3 : (WrS.mk p0 p1 p2 p3 p4 p5 c u0 u1 u2 2).over s = true := by unfold WrS.over; rw [e1, if_pos he]; rfl
        rw [e1, e2, e3, e4, he]
        exact wok2 hM hk h0 h1 h2 h3 he
      · have e2 : (WrS.mk p0 p1 p2 p3 p4 p5 c u0 u1 u2 2).next s = (WrS.mk p0 p1 p2 p3 p4 p5 c u0 u1 u2 2) := by unfold WrS.next; rw [e1, if_neg he]
        have e3 : (WrS.mk p0 p1 p2 p3 p4 p5 c u0 u1 u2 2).over s = false := by unfold WrS.over; rw [e1, if_neg he]
        rw [e1, e2, e3, e4]
        exact wbadS2 hM hk h0 h1 h2 h3 (by simp [he])
    · rw [cellE_bad hx] at e1
      rw [cellS_bad hx] at e4
      have e2 : (WrS.mk p0 p1 p2 p3 p4 p5 c u0 u1 u2 2).next s = (WrS.mk p0 p1 p2 p3 p4 p5 c u0 u1 u2 2) := by unfold WrS.next; rw [e1, if_neg hx]
      have e3 : (WrS.mk p0 p1 p2 p3 p4 p5 c u0 u1 u2 2).over s = false := by unfold WrS.over; rw [e1, if_neg hx]
      rw [e1, e2, e3, e4]
      exact wbadP2 hM hk (by simp [hx]) (by simp [hx])
  · have e1 : (WrS.mk p0 p1 p2 p3 p4 p5 c u0 u1 u2 3).err s = 3 := rfl
    have e2 : (WrS.mk p0 p1 p2 p3 p4 p5 c u0 u1 u2 3).next s = (WrS.mk p0 p1 p2 p3 p4 p5 c u0 u1 u2 3) := by unfold WrS.next; rw [e1, if_neg (by decide)]
    have e3 : (WrS.mk p0 p1 p2 p3 p4 p5 c u0 u1 u2 3).over s = false := by unfold WrS.over; rw [e1, if_neg (by decide)]
    have e4 : (WrS.mk p0 p1 p2 p3 p4 p5 c u0 u1 u2 3).mem s = s := rfl
    rw [e1, e2, e3, e4]
    exact (wstep3 hk).mono fun e w' ⟨he, hw⟩ => ⟨he, hw ▸ hM, hw ▸ hk, hw ▸ Mod.refl _ _⟩


/-- What a triple says of a stamp. -/
def atB (v n u st : Int) : Nat := if st < v then fixB u.toNat else fixB n.toNat

set_option maxRecDepth 100000 in
set_option maxHeartbeats 4000000 in
theorem at11_c (v n u st : Int) (w : World) : Calls Try.prog 87 #[.agg #[.int .u64 v, .int .u64 n, .int .u64 u], .int .u64 st] w fun e w' => e = .returned (.float .f64 (atB v n u st)) ∧ w' = w.alloc (.cells #[.int .u64 v, .int .u64 n, .int .u64 u] 30) := by
  by_cases h : st < v
  · have hv : atB v n u st = fixB u.toNat := if_pos h
    rw [hv]
    clear hv
    go_enter Try.func87, Try.ntmps87
    go_wp2_with fail
    refine (of_c u _).mono ?_; rintro e w1 ⟨rfl, rfl⟩
    go_wp2
    go_ret
    exact ⟨rfl, rfl⟩
  · have hv : atB v n u st = fixB n.toNat := if_neg h
    have h' : v ≤ st := Int.not_lt.1 h
    rw [hv]
    clear hv h
    go_enter Try.func87, Try.ntmps87
    go_wp2_with fail
    refine (of_c n _).mono ?_; rintro e w1 ⟨rfl, rfl⟩
    go_wp2
    go_ret
    exact ⟨rfl, rfl⟩

set_option maxRecDepth 100000 in
set_option maxHeartbeats 4000000 in
theorem at11_r (v n u st : Int) (w : World) : Calls Try.prog 86 #[.agg #[.int .u64 v, .int .u64 n, .int .u64 u], .int .u64 st] w fun e w' => e = .returned (.float .f64 (atB v n u st)) ∧ w' = w.alloc (.cells #[.int .u64 v, .int .u64 n, .int .u64 u] 30) := by
  by_cases h : st < v
  · have hv : atB v n u st = fixB u.toNat := if_pos h
    rw [hv]
    clear hv
    go_enter Try.func86, Try.ntmps86
    go_wp2_with fail
    refine (of_r u _).mono ?_; rintro e w1 ⟨rfl, rfl⟩
    go_wp2
    go_ret
    exact ⟨rfl, rfl⟩
  · have hv : atB v n u st = fixB n.toNat := if_neg h
    have h' : v ≤ st := Int.not_lt.1 h
    rw [hv]
    clear hv h
    go_enter Try.func86, Try.ntmps86
    go_wp2_with fail
    refine (of_r n _).mono ?_; rintro e w1 ⟨rfl, rfl⟩
    go_wp2
    go_ret
    exact ⟨rfl, rfl⟩

end Go.Proofs.Ytobmgnoceacoaaa

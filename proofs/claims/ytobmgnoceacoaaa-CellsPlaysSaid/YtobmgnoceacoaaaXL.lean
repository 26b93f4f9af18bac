/- Layer 11: a load of a cell's word, the number that a cell has now, a triple. -/
import Derived.Test.YtobmgnoceacoaaaXP
import Derived.Test.YtobmgnoceacoaaaXF
import Derived.Test.YtobmgnoceacoaaaMV
import Derived.Deep.QuietTactic
import Derived.BigQuiet
import Derived.Deep.DeepCutAuto
import Derived.Deep.CutBlock
import Derived.Deep.RegionHeld3
import Derived.StillTailTactics
import Derived.IntWalk
namespace Go.Proofs.Ytobmgnoceacoaaa
open Go.RowKit
attribute [local go_sem] run_store_float


/-- What a load of a cell's word tells. -/
def MemS.cellE (s : MemS) (p4 c k : Int) : Int := if xpErr p4 c = 0 then s.acc (p4 + 3 * c + k) else xpErr p4 c
def MemS.cellM (s : MemS) (p4 c k : Int) : MemS := if xpErr p4 c = 0 then s.load (p4 + 3 * c + k) else s
def MemS.cellV (s : MemS) (p4 c k : Int) : Int := if xpErr p4 c = 0 then s.got (p4 + 3 * c + k) else 0
variable {a b : Nat} {s : MemS} {w : World}

set_option maxRecDepth 100000 in
set_option maxHeartbeats 4000000 in
theorem load11 (hM : MemAt 142 w a b s) (p0 p1 p2 p3 p4 p5 c k : Int) (hk0 : 0 ≤ k) (hk : k ≤ 2) :
    Calls Try.prog 129 #[.pointer (some ⟨a, 0, none⟩), .agg #[.int .i64 p0, .int .i64 p1, .int .i64 p2, .int .i64 p3, .int .i64 p4, .int .i64 p5], .int .i64 c, .int .i64 k] w fun e w' => e = .returned (.tuple #[.int .u64 (s.cellV p4 c k), .int .i64 (s.cellE p4 c k)]) ∧ MemAt 142 w' a b (s.cellM p4 c k) ∧ Mod [a, b] w w' := by
  by_cases he : xpErr p4 c = 0
  · obtain ⟨h0, h1, h2, h3⟩ := xpErr_zero he
    have hv : s.cellV p4 c k = s.got (p4 + 3 * c + k) := if_pos he
    have hx : s.cellE p4 c k = s.acc (p4 + 3 * c + k) := if_pos he
    have hm : s.cellM p4 c k = s.load (p4 + 3 * c + k) := if_pos he
    rw [hv, hx, hm]
    clear hv hx hm he
    go_enter Try.func129, Try.ntmps129
    go_wp2_with fail
    refine (place11_e _ _ _ _ _ _ _ _ h0 h1 h2 h3 hk0 hk _).mono ?_; rintro e w1 ⟨rfl, rfl⟩
    go_wp2_with fail
    refine (load_c ((hM.alloc _).alloc _) _).mono ?_; rintro e w2 ⟨rfl, M2, d2⟩
    go_wp2
    go_ret2
    exact ⟨rfl, M2, (((Mod.refl _ _).alloc _).alloc _).trans d2⟩
  · have hv : s.cellV p4 c k = 0 := if_neg he
    have hx : s.cellE p4 c k = xpErr p4 c := if_neg he
    have hm : s.cellM p4 c k = s := if_neg he
    have hz : (xpErr p4 c != 0) = true := by simp [he]
    rw [hv, hx, hm]
    clear hv hx hm he
    go_enter Try.func129, Try.ntmps129
    go_wp2_with fail
    refine (place11 _ _ _ _ _ _ _ _ hk0 hk _).mono ?_; rintro e w1 ⟨rfl, rfl⟩
    go_wp2
    go_ret2
    exact ⟨rfl, (hM.alloc _).alloc _, ((Mod.refl _ _).alloc _).alloc _⟩

def MemS.nowV (s : MemS) (p4 c : Int) : Nat := if s.cellE p4 c 1 = 0 then fixB (s.cellV p4 c 1).toNat else 0
set_option maxRecDepth 100000 in
set_option maxHeartbeats 4000000 in
theorem now11 (hM : MemAt 142 w a b s) (p0 p1 p2 p3 p4 p5 c : Int) :
    Calls Try.prog 125 #[.pointer (some ⟨a, 0, none⟩), .agg #[.int .i64 p0, .int .i64 p1, .int .i64 p2, .int .i64 p3, .int .i64 p4, .int .i64 p5], .int .i64 c] w fun e w' => e = .returned (.tuple #[.float .f64 (s.nowV p4 c), .int .i64 (s.cellE p4 c 1)]) ∧ MemAt 142 w' a b (s.cellM p4 c 1) ∧ Mod [a, b] w w' := by
  by_cases he : s.cellE p4 c 1 = 0
  · have hv : s.nowV p4 c = fixB (s.cellV p4 c 1).toNat := if_pos he
    rw [hv, he]
    have He := Lib.hid he
    clear hv he
    go_enter Try.func125, Try.ntmps125
    go_wp2_with fail
    refine (load11 (hM.alloc _) _ _ _ _ _ _ _ 1 (by omega) (by omega)).mono ?_; rintro e w1 ⟨rfl, M1, d1⟩
    rw [He.out]
    go_wp2_with fail
    refine (of_c _ _).mono ?_; rintro e w2 ⟨rfl, hw2⟩
    have hw2' := hw2.symm
    subst hw2'
    go_wp2
    go_ret2
    exact ⟨rfl, M1, ((Mod.refl _ _).alloc _).trans d1⟩
  · have hv : s.nowV p4 c = 0 := if_neg he
    have hz : (s.cellE p4 c 1 != 0) = true := by simp [he]
    rw [hv]
    clear hv he
    go_enter Try.func125, Try.ntmps125
    go_wp2_with fail
    refine (load11 (hM.alloc _) _ _ _ _ _ _ _ 1 (by omega) (by omega)).mono ?_; rintro e w1 ⟨rfl, M1, d1⟩
    go_wp2
    go_ret2
    exact ⟨rfl, M1, ((Mod.refl _ _).alloc _).trans d1⟩

set_option maxRecDepth 100000 in
set_option maxHeartbeats 4000000 in
theorem peek11_ok (hM : MemAt 142 w a b s) (p0 p1 p2 p3 p4 p5 c : Int) (h : xpErr p4 c = 0) (hb : s.bad (p4 + 3 * c + 2) = 0) :
    Calls Try.prog 25 #[.pointer (some ⟨a, 0, none⟩), .agg #[.int .i64 p0, .int .i64 p1, .int .i64 p2, .int .i64 p3, .int .i64 p4, .int .i64 p5], .int .i64 c] w fun e w' => e = .returned (.tuple #[.agg #[.int .u64 (s.peek (p4 + 3 * c)), .int .u64 (s.peek (p4 + 3 * c + 1)), .int .u64 (s.peek (p4 + 3 * c + 2))], .int .i64 0]) ∧ MemAt 142 w' a b s ∧ Mod [] w w' := by
  obtain ⟨h0, h1, h2, h3⟩ := xpErr_zero h
  have HB := Lib.hid hb
  clear h hb
  go_enter Try.func25, Try.ntmps25
  go_wp2_with fail
  refine (place11_e _ _ _ _ _ _ _ 0 h0 h1 h2 h3 (by omega) (by omega) _).mono ?_; rintro e w1 ⟨rfl, rfl⟩
  go_wp2_with fail
  refine (peek_cq (((hM.alloc _).alloc _).alloc _) _).mono ?_; rintro e w1 ⟨rfl, rfl⟩
  rw [HB.out]
  go_wp2_with fail
  refine (peek_cq ((((hM.alloc _).alloc _).alloc _).alloc _) _).mono ?_; rintro e w1 ⟨rfl, rfl⟩
  go_wp2_with fail
  refine (peek_cq ((((hM.alloc _).alloc _).alloc _).alloc _) _).mono ?_; rintro e w1 ⟨rfl, rfl⟩
  go_wp2
  exact bodyPost_ret (v := .tuple #[.agg #[.int .u64 (s.peek (p4 + 3 * c)), .int .u64 (s.peek (p4 + 3 * c + 1)), .int .u64 (s.peek (p4 + 3 * c + 2))], .int .i64 0]) (by simp [results, Try.results25, go_sem]) rfl ⟨rfl, (((hM.alloc _).alloc _).alloc _).alloc _, ((((Mod.refl _ _).alloc _).alloc _).alloc _).alloc _⟩

end Go.Proofs.Ytobmgnoceacoaaa

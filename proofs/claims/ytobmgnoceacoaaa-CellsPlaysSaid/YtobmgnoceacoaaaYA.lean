/- Layer 11, the document's side: Word, MayBe, Now, Peek, Start; floats. -/
import Derived.Test.YtobmgnoceacoaaaXL
import Derived.Test.YtobmgnoceacoaaaXS
import Derived.Test.YtobmgnoceacoaaaWords
import Derived.Deep.QuietTactic
import Derived.BigQuiet
import Derived.Deep.DeepCutAuto
import Derived.Deep.CutBlock
import Derived.Deep.RegionHeld3
import Derived.StillTailTactics
import Derived.IntWalk
import Derived.Test.YtobmgnoceacoaaaXN
namespace Go.Proofs.Ytobmgnoceacoaaa
open Go.RowKit
attribute [local go_sem] run_store_float

variable {a b : Nat} {s : MemS} {w : World} {xs : List Nat}
def wdAt (p4 c k : Int) : Int := if p4 < 0 ∨ 4096 < p4 then -1 else p4 + 3 * c + k
theorem wdAt_bad {p4 c k : Int} (h : p4 < 0 ∨ 4096 < p4) : wdAt p4 c k = -1 := if_pos h
theorem wdAt_ok {p4 c k : Int} (h : 0 ≤ p4) (h' : p4 ≤ 4096) : wdAt p4 c k = p4 + 3 * c + k := if_neg (by omega)
theorem acc_neg : s.acc (-1) = 30 := by unfold MemS.acc; rw [if_pos (by omega)]
theorem bad_neg : s.bad (-1) = 30 := by unfold MemS.bad; rw [if_pos (by omega)]
theorem acc_wd {p4 c k : Int} (h0 : 0 ≤ c) (h8 : c < 256) : s.acc (wdAt p4 c k) = s.cellE p4 c k := by
  unfold MemS.cellE
  by_cases h : p4 < 0 ∨ 4096 < p4
  · rw [wdAt_bad h, xpErr_place h0 h8 h, if_neg (by decide)]; exact acc_neg
  · rw [wdAt_ok (by omega) (by omega), if_pos (xpErr_ok h0 h8 (by omega) (by omega))]
theorem load_wd {p4 c k : Int} (h0 : 0 ≤ c) (h8 : c < 256) : s.load (wdAt p4 c k) = s.cellM p4 c k := by
  unfold MemS.cellM
  by_cases h : p4 < 0 ∨ 4096 < p4
  · rw [wdAt_bad h, xpErr_place h0 h8 h, if_neg (by decide)]; unfold MemS.load; rw [acc_neg, if_neg (by decide)]
  · rw [wdAt_ok (by omega) (by omega), if_pos (xpErr_ok h0 h8 (by omega) (by omega))]
theorem got_wd {p4 c k : Int} (h0 : 0 ≤ c) (h8 : c < 256) : s.got (wdAt p4 c k) = s.cellV p4 c k := by
  unfold MemS.cellV
  by_cases h : p4 < 0 ∨ 4096 < p4
  · rw [wdAt_bad h, xpErr_place h0 h8 h, if_neg (by decide)]; unfold MemS.got; rw [acc_neg, if_neg (by decide)]
  · rw [wdAt_ok (by omega) (by omega), if_pos (xpErr_ok h0 h8 (by omega) (by omega))]
theorem cellE_c {p4 c k : Int} (h : c < 0 ∨ 256 ≤ c) : s.cellE p4 c k = 60 ∧ s.cellM p4 c k = s ∧ s.cellV p4 c k = 0 := by
  unfold MemS.cellE MemS.cellM MemS.cellV
  rw [xpErr_cell h]; exact ⟨rfl, rfl, rfl⟩

set_option maxHeartbeats 1000000 in
theorem word_a (p0 p1 p2 p3 p4 p5 c k : Int) (h : p4 < 0) (w : World) :
    Calls Try.prog 156 #[.agg #[.int .i64 p0, .int .i64 p1, .int .i64 p2, .int .i64 p3, .int .i64 p4, .int .i64 p5], .int .i64 c, .int .i64 k] w fun e w' => e = .returned (.int .i64 (-1)) ∧ w' = w.alloc (.cells #[.int .i64 p0, .int .i64 p1, .int .i64 p2, .int .i64 p3, .int .i64 p4, .int .i64 p5] 35) := by
  go_enter Try.func156, Try.ntmps156
  go_wp2
  go_ret
  exact ⟨rfl, rfl⟩
set_option maxHeartbeats 1000000 in
theorem word_b (p0 p1 p2 p3 p4 p5 c k : Int) (h : 4096 < p4) (w : World) :
    Calls Try.prog 156 #[.agg #[.int .i64 p0, .int .i64 p1, .int .i64 p2, .int .i64 p3, .int .i64 p4, .int .i64 p5], .int .i64 c, .int .i64 k] w fun e w' => e = .returned (.int .i64 (-1)) ∧ w' = w.alloc (.cells #[.int .i64 p0, .int .i64 p1, .int .i64 p2, .int .i64 p3, .int .i64 p4, .int .i64 p5] 35) := by
  go_enter Try.func156, Try.ntmps156
  go_wp2
  go_ret
  exact ⟨rfl, rfl⟩
set_option maxHeartbeats 1000000 in
theorem word_c (p0 p1 p2 p3 p4 p5 c k : Int) (h : 0 ≤ p4) (h' : p4 ≤ 4096) (h0 : 0 ≤ c) (h8 : c < 256) (k0 : 0 ≤ k) (k1 : k ≤ 100000) (w : World) :
    Calls Try.prog 156 #[.agg #[.int .i64 p0, .int .i64 p1, .int .i64 p2, .int .i64 p3, .int .i64 p4, .int .i64 p5], .int .i64 c, .int .i64 k] w fun e w' => e = .returned (.int .i64 (p4 + 3 * c + k)) ∧ w' = w.alloc (.cells #[.int .i64 p0, .int .i64 p1, .int .i64 p2, .int .i64 p3, .int .i64 p4, .int .i64 p5] 35) := by
  go_enter Try.func156, Try.ntmps156
  go_wp2
  go_ret
  exact ⟨rfl, rfl⟩
theorem word_r (p0 p1 p2 p3 p4 p5 c k : Int) (h0 : 0 ≤ c) (h8 : c < 256) (k0 : 0 ≤ k) (k1 : k ≤ 100000) (w : World) :
    Calls Try.prog 156 #[.agg #[.int .i64 p0, .int .i64 p1, .int .i64 p2, .int .i64 p3, .int .i64 p4, .int .i64 p5], .int .i64 c, .int .i64 k] w fun e w' => e = .returned (.int .i64 (wdAt p4 c k)) ∧ w' = w.alloc (.cells #[.int .i64 p0, .int .i64 p1, .int .i64 p2, .int .i64 p3, .int .i64 p4, .int .i64 p5] 35) := by
  by_cases h : p4 < 0
  · rw [wdAt_bad (.inl h)]; exact word_a _ _ _ _ _ _ _ _ h w
  · by_cases h' : 4096 < p4
    · rw [wdAt_bad (.inr h')]; exact word_b _ _ _ _ _ _ _ _ h' w
    · rw [wdAt_ok (by omega) (by omega)]; exact word_c _ _ _ _ _ _ _ _ (by omega) (by omega) h0 h8 k0 k1 w
set_option maxHeartbeats 1000000 in
theorem mayBe_y (c : Int) (h0 : 0 ≤ c) (h8 : c < 256) (w : World) : Calls Try.prog 157 #[.int .i64 c] w fun e w' => e = .returned (.bool true) ∧ w' = w := by
  go_enter Try.func157, Try.ntmps157
  go_wp2
  go_ret
  exact ⟨rfl, rfl⟩
set_option maxHeartbeats 1000000 in
theorem mayBe_n (c : Int) (h : c < 0 ∨ 256 ≤ c) (w : World) : Calls Try.prog 157 #[.int .i64 c] w fun e w' => e = .returned (.bool false) ∧ w' = w := by
  rcases h with h | h
  · go_enter Try.func157, Try.ntmps157
    go_wp2
    go_ret
    exact ⟨rfl, rfl⟩
  · have hd : decide (c < 256) = false := decide_eq_false (by omega)
    have h0 : 0 ≤ c := by omega
    go_enter Try.func157, Try.ntmps157
    go_wp2
    go_ret
    exact ⟨rfl, rfl⟩

set_option maxRecDepth 100000 in
set_option maxHeartbeats 4000000 in
theorem nowr11 (hM : MemAt 148 w a b s) (p0 p1 p2 p3 p4 p5 c : Int) :
    Calls Try.prog 136 #[.pointer (some ⟨a, 0, none⟩), .agg #[.int .i64 p0, .int .i64 p1, .int .i64 p2, .int .i64 p3, .int .i64 p4, .int .i64 p5], .int .i64 c] w fun e w' => e = .returned (.tuple #[.float .f64 (s.nowV p4 c), .int .i64 (s.cellE p4 c 1)]) ∧ MemAt 148 w' a b (s.cellM p4 c 1) ∧ Mod [a, b] w w' := by
  by_cases hc : c < 0 ∨ 256 ≤ c
  · obtain ⟨e1, e2, e3⟩ := cellE_c (s := s) (p4 := p4) (k := 1) hc
    have hv : s.nowV p4 c = 0 := by unfold MemS.nowV; rw [e1]; rfl
    rw [hv, e1, e2]
    clear hv e1 e2 e3
    go_enter Try.func136, Try.ntmps136
    go_wp2_with fail
    refine (mayBe_n c hc _).mono ?_; rintro e w1 ⟨rfl, rfl⟩
    go_wp2
    go_ret2
    exact ⟨rfl, hM.alloc _, (Mod.refl _ _).alloc _⟩
  · have h0 : 0 ≤ c := by omega
    have h8 : c < 256 := by omega
    clear hc
    by_cases he : s.cellE p4 c 1 = 0
    · have hv : s.nowV p4 c = fixB (s.cellV p4 c 1).toNat := if_pos he
      rw [hv, he]
      have He := Lib.hid he
      clear hv he
      go_enter Try.func136, Try.ntmps136
      go_wp2_with fail
      refine (mayBe_y c h0 h8 _).mono ?_; rintro e w1 ⟨rfl, rfl⟩
      go_wp2_with fail
      refine (word_r _ _ _ _ _ _ c 1 h0 h8 (by omega) (by omega) _).mono ?_; rintro e w1 ⟨rfl, rfl⟩
      go_wp2_with fail
      refine (load_r ((hM.alloc _).alloc _) _).mono ?_; rintro e w2 ⟨rfl, M2, d2⟩
      rw [acc_wd h0 h8, got_wd h0 h8, He.out]
      rw [load_wd h0 h8] at M2
      go_wp2_with fail
      refine (of_r _ _).mono ?_; rintro e w3 ⟨rfl, hw3⟩
      have hw3' := hw3.symm
      subst hw3'
      go_wp2
      go_ret2
      exact ⟨rfl, M2, (((Mod.refl _ _).alloc _).alloc _).trans d2⟩
    · have hv : s.nowV p4 c = 0 := if_neg he
      have hz : (s.cellE p4 c 1 != 0) = true := by simp [he]
      rw [hv]
      clear hv he
      go_enter Try.func136, Try.ntmps136
      go_wp2_with fail
      refine (mayBe_y c h0 h8 _).mono ?_; rintro e w1 ⟨rfl, rfl⟩
      go_wp2_with fail
      refine (word_r _ _ _ _ _ _ c 1 h0 h8 (by omega) (by omega) _).mono ?_; rintro e w1 ⟨rfl, rfl⟩
      go_wp2_with fail
      refine (load_r ((hM.alloc _).alloc _) _).mono ?_; rintro e w2 ⟨rfl, M2, d2⟩
      rw [acc_wd h0 h8]
      rw [load_wd h0 h8] at M2
      go_wp2
      go_ret2
      exact ⟨rfl, M2, (((Mod.refl _ _).alloc _).alloc _).trans d2⟩

end Go.Proofs.Ytobmgnoceacoaaa

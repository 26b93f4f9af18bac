/- The contracts of ticket, and of the reference's: both tell the same. -/
import Derived.Test.YtobmgnoceacoaaaML
import Derived.Test.YtobmgnoceacoaaaMS
import Derived.Test.YtobmgnoceacoaaaMA
import Derived.Test.YtobmgnoceacoaaaMV
namespace Go.Proofs.Ytobmgnoceacoaaa
open Go.RowKit

/-- Whether a ticket is served. -/
def MemS.look (s : MemS) (i t : Int) : Bool := if s.acc i = 0 then s.got i == t else false
/-- How many stand ahead of a ticket. -/
def MemS.ahead (s : MemS) (i t : Int) : Int :=
  if s.bad i = 0 then if t ≤ s.peek i then 0 else if IntKind.u64.wrap (t - s.peek i) ≤ 2147483647 then IntKind.u64.wrap (t - s.peek i) else 2147483647 else 0
theorem wrap_u64_nonneg (n : Int) : 0 ≤ IntKind.u64.wrap n := by
  simp only [IntKind.wrap_u64]
  omega

set_option maxHeartbeats 1000000 in
theorem draw_c {a b : Nat} {s : MemS} {w : World} (hM : MemAt 142 w a b s) (p0 p1 p2 p3 p4 p5 : Int) :
    Calls Try.prog 48 #[.pointer (some ⟨a, 0, none⟩), .agg #[.int .i64 p0, .int .i64 p1, .int .i64 p2, .int .i64 p3, .int .i64 p4, .int .i64 p5]] w fun e w' => e = .returned (.tuple #[.int .u64 (s.got p0), .int .i64 (s.acc p0)]) ∧ MemAt 142 w' a b (s.add p0 1) ∧ Mod [a, b] w w' := by
  have ha := hM.lta
  have hb := hM.ltb
  by_cases hacc : s.acc p0 = 0
  · skip
    skip
    skip
    go_enter Try.func48, Try.ntmps48
    go_wp2_with (first | (go_at_call 35; refine (add_c ((hM.alloc _).alloc _) _ _).mono ?_; rintro e w1 ⟨rfl, M1, d1⟩) | go_in)
    go_ret2
    skip
    exact ⟨by simp [hacc, MemS.got], by simpa using M1, Mod.then ((by repeat (first | with_reducible exact Mod.refl _ _ | with_reducible assumption | with_reducible refine Mod.alloc ?_ _)) : Mod [a, b] w _) d1 (by simp)⟩
  · have hz : (s.acc p0 == 0) = false := by simp [hacc]
    have hz2 : (s.acc p0 != 0) = true := by simp [hacc]
    have Hacc := Lib.hid hacc; clear hacc
    go_enter Try.func48, Try.ntmps48
    go_wp2_with (first | (go_at_call 35; refine (add_c ((hM.alloc _).alloc _) _ _).mono ?_; rintro e w1 ⟨rfl, M1, d1⟩) | go_in)
    go_ret2
    have hacc := Hacc.out
    exact ⟨by simp [hacc, MemS.got], by simpa using M1, Mod.then ((by repeat (first | with_reducible exact Mod.refl _ _ | with_reducible assumption | with_reducible refine Mod.alloc ?_ _)) : Mod [a, b] w _) d1 (by simp)⟩

set_option maxHeartbeats 1000000 in
theorem look_c {a b : Nat} {s : MemS} {w : World} (hM : MemAt 142 w a b s) (p0 p1 p2 p3 p4 p5 ticket : Int) :
    Calls Try.prog 47 #[.pointer (some ⟨a, 0, none⟩), .agg #[.int .i64 p0, .int .i64 p1, .int .i64 p2, .int .i64 p3, .int .i64 p4, .int .i64 p5], .int .u64 ticket] w fun e w' => e = .returned (.tuple #[.bool (s.look p1 ticket), .int .i64 (s.acc p1)]) ∧ MemAt 142 w' a b (s.load p1) ∧ Mod [a, b] w w' := by
  have ha := hM.lta
  have hb := hM.ltb
  by_cases hacc : s.acc p1 = 0
  · skip
    skip
    skip
    go_enter Try.func47, Try.ntmps47
    go_wp2_with (first | (go_at_call 33; refine (load_c (((hM.alloc _).alloc _).alloc _) _).mono ?_; rintro e w1 ⟨rfl, M1, d1⟩; have Q1 := cell_of_blk (i := 0) (d1.at (heap_alloc_new ((w.alloc (.cells #[.pointer (some ⟨a, 0, none⟩)] 22)).alloc (.cells #[.int .i64 p0, .int .i64 p1, .int .i64 p2, .int .i64 p3, .int .i64 p4, .int .i64 p5] 35)) (.cells #[.int .u64 ticket] 28)) (by simp; omega)) rfl; simp only [World.size_alloc] at Q1) | go_in)
    go_ret2
    skip
    exact ⟨by simp [hacc, MemS.look, MemS.got], by simpa using M1, Mod.then ((by repeat (first | with_reducible exact Mod.refl _ _ | with_reducible assumption | with_reducible refine Mod.alloc ?_ _)) : Mod [a, b] w _) d1 (by simp)⟩
  · have hz : (s.acc p1 == 0) = false := by simp [hacc]
    have hz2 : (s.acc p1 != 0) = true := by simp [hacc]
    have Hacc := Lib.hid hacc; clear hacc
    go_enter Try.func47, Try.ntmps47
    go_wp2_with (first | (go_at_call 33; refine (load_c (((hM.alloc _).alloc _).alloc _) _).mono ?_; rintro e w1 ⟨rfl, M1, d1⟩; have Q1 := cell_of_blk (i := 0) (d1.at (heap_alloc_new ((w.alloc (.cells #[.pointer (some ⟨a, 0, none⟩)] 22)).alloc (.cells #[.int .i64 p0, .int .i64 p1, .int .i64 p2, .int .i64 p3, .int .i64 p4, .int .i64 p5] 35)) (.cells #[.int .u64 ticket] 28)) (by simp; omega)) rfl; simp only [World.size_alloc] at Q1) | go_in)
    go_ret2
    have hacc := Hacc.out
    exact ⟨by simp [hacc, MemS.look], by simpa using M1, Mod.then ((by repeat (first | with_reducible exact Mod.refl _ _ | with_reducible assumption | with_reducible refine Mod.alloc ?_ _)) : Mod [a, b] w _) d1 (by simp)⟩

set_option maxHeartbeats 1000000 in
theorem pass_c {a b : Nat} {s : MemS} {w : World} (hM : MemAt 142 w a b s) (p0 p1 p2 p3 p4 p5 ticket : Int) :
    Calls Try.prog 46 #[.pointer (some ⟨a, 0, none⟩), .agg #[.int .i64 p0, .int .i64 p1, .int .i64 p2, .int .i64 p3, .int .i64 p4, .int .i64 p5], .int .u64 ticket] w fun e w' => e = .returned (.int .i64 (s.acc p1)) ∧ MemAt 142 w' a b (s.store p1 (IntKind.u64.wrap (ticket + 1))) ∧ Mod [a, b] w w' := by
  have ha := hM.lta
  have hb := hM.ltb
  by_cases hacc : s.acc p1 = 0
  · skip
    skip
    skip
    go_enter Try.func46, Try.ntmps46
    go_wp2_with (first | (go_at_call 34; refine (store_c (((hM.alloc _).alloc _).alloc _) _ _).mono ?_; rintro e w1 ⟨rfl, M1, d1⟩) | go_in)
    go_ret
    skip
    exact ⟨by simp [hacc], by simpa using M1, Mod.then ((by repeat (first | with_reducible exact Mod.refl _ _ | with_reducible assumption | with_reducible refine Mod.alloc ?_ _)) : Mod [a, b] w _) d1 (by simp)⟩
  · have hz : (s.acc p1 == 0) = false := by simp [hacc]
    have hz2 : (s.acc p1 != 0) = true := by simp [hacc]
    have Hacc := Lib.hid hacc; clear hacc
    go_enter Try.func46, Try.ntmps46
    go_wp2_with (first | (go_at_call 34; refine (store_c (((hM.alloc _).alloc _).alloc _) _ _).mono ?_; rintro e w1 ⟨rfl, M1, d1⟩) | go_in)
    go_ret
    have hacc := Hacc.out
    exact ⟨by simp, by simpa using M1, Mod.then ((by repeat (first | with_reducible exact Mod.refl _ _ | with_reducible assumption | with_reducible refine Mod.alloc ?_ _)) : Mod [a, b] w _) d1 (by simp)⟩

set_option maxHeartbeats 1000000 in
theorem draw_r {a b : Nat} {s : MemS} {w : World} (hM : MemAt 148 w a b s) (p0 p1 p2 p3 p4 p5 : Int) :
    Calls Try.prog 109 #[.pointer (some ⟨a, 0, none⟩), .agg #[.int .i64 p0, .int .i64 p1, .int .i64 p2, .int .i64 p3, .int .i64 p4, .int .i64 p5]] w fun e w' => e = .returned (.tuple #[.int .u64 (s.got p0), .int .i64 (s.acc p0)]) ∧ MemAt 148 w' a b (s.add p0 1) ∧ Mod [a, b] w w' := by
  have ha := hM.lta
  have hb := hM.ltb
  go_enter Try.func109, Try.ntmps109
  go_wp2_with (go_at_call 99; refine (add_r (hM.alloc _) _ _).mono ?_; rintro e w1 ⟨rfl, M1, d1⟩)
  go_ret2
  exact ⟨rfl, M1, Mod.then ((by repeat (first | with_reducible exact Mod.refl _ _ | with_reducible assumption | with_reducible refine Mod.alloc ?_ _)) : Mod [a, b] w _) d1 (by simp)⟩

set_option maxHeartbeats 1000000 in
theorem pass_r {a b : Nat} {s : MemS} {w : World} (hM : MemAt 148 w a b s) (p0 p1 p2 p3 p4 p5 ticket : Int) :
    Calls Try.prog 111 #[.pointer (some ⟨a, 0, none⟩), .agg #[.int .i64 p0, .int .i64 p1, .int .i64 p2, .int .i64 p3, .int .i64 p4, .int .i64 p5], .int .u64 ticket] w fun e w' => e = .returned (.int .i64 (s.acc p1)) ∧ MemAt 148 w' a b (s.store p1 (IntKind.u64.wrap (ticket + 1))) ∧ Mod [a, b] w w' := by
  have ha := hM.lta
  have hb := hM.ltb
  go_enter Try.func111, Try.ntmps111
  go_wp2_with (go_at_call 98; refine (store_r (hM.alloc _) _ _).mono ?_; rintro e w1 ⟨rfl, M1, d1⟩)
  go_ret
  exact ⟨rfl, M1, Mod.then ((by repeat (first | with_reducible exact Mod.refl _ _ | with_reducible assumption | with_reducible refine Mod.alloc ?_ _)) : Mod [a, b] w _) d1 (by simp)⟩

set_option maxHeartbeats 1000000 in
theorem look_r {a b : Nat} {s : MemS} {w : World} (hM : MemAt 148 w a b s) (p0 p1 p2 p3 p4 p5 ticket : Int) :
    Calls Try.prog 110 #[.pointer (some ⟨a, 0, none⟩), .agg #[.int .i64 p0, .int .i64 p1, .int .i64 p2, .int .i64 p3, .int .i64 p4, .int .i64 p5], .int .u64 ticket] w fun e w' => e = .returned (.tuple #[.bool (s.look p1 ticket), .int .i64 (s.acc p1)]) ∧ MemAt 148 w' a b (s.load p1) ∧ Mod [a, b] w w' := by
  have ha := hM.lta
  have hb := hM.ltb
  by_cases hacc : s.acc p1 = 0
  · go_enter Try.func110, Try.ntmps110
    go_wp2_with (go_at_call 97; refine (load_r (hM.alloc _) _).mono ?_; rintro e w1 ⟨rfl, M1, d1⟩)
    go_ret2
    exact ⟨by simp [hacc, MemS.look], M1, Mod.then ((by repeat (first | with_reducible exact Mod.refl _ _ | with_reducible assumption | with_reducible refine Mod.alloc ?_ _)) : Mod [a, b] w _) d1 (by simp)⟩
  · have hz : (s.acc p1 == 0) = false := by simp [hacc]
    have Hacc := Lib.hid hacc; clear hacc
    go_enter Try.func110, Try.ntmps110
    go_wp2_with (go_at_call 97; refine (load_r (hM.alloc _) _).mono ?_; rintro e w1 ⟨rfl, M1, d1⟩)
    go_ret2
    have hacc := Hacc.out
    exact ⟨by simp [hacc, MemS.look], M1, Mod.then ((by repeat (first | with_reducible exact Mod.refl _ _ | with_reducible assumption | with_reducible refine Mod.alloc ?_ _)) : Mod [a, b] w _) d1 (by simp)⟩

set_option maxHeartbeats 1000000 in
theorem ahead_c {a b : Nat} {s : MemS} {w : World} (hM : MemAt 142 w a b s) (p0 p1 p2 p3 p4 p5 ticket : Int) :
    Calls Try.prog 49 #[.pointer (some ⟨a, 0, none⟩), .agg #[.int .i64 p0, .int .i64 p1, .int .i64 p2, .int .i64 p3, .int .i64 p4, .int .i64 p5], .int .u64 ticket] w fun e w' => e = .returned (.tuple #[.int .i64 (s.ahead p1 ticket), .int .i64 (s.bad p1)]) ∧ MemAt 142 w' a b (s) ∧ Mod [a, b] w w' := by
  have ha := hM.lta
  have hb := hM.ltb
  by_cases hbad : s.bad p1 = 0
  · by_cases hle : ticket ≤ s.peek p1
    · have hres : s.ahead p1 ticket = 0 := by unfold MemS.ahead; rw [if_pos hbad, if_pos hle]
      have Hres := Lib.hid hres; clear hres
      go_enter Try.func49, Try.ntmps49
      go_wp2_with (first | (go_at_call 63; refine (peek_cq (((hM.alloc _).alloc _).alloc _) _).mono ?_; rintro e w1 ⟨rfl, rfl⟩) | go_in)
      go_ret2
      exact ⟨by simp [hbad, Hres.out], (((hM.alloc _).alloc _).alloc _), (by repeat (first | with_reducible exact Mod.refl _ _ | with_reducible assumption | with_reducible refine Mod.alloc ?_ _))⟩
    · obtain ⟨t, ht⟩ : ∃ t, t = IntKind.u64.wrap (ticket - s.peek p1) := ⟨_, rfl⟩
      have ht0 : 0 ≤ t := by rw [ht]; exact wrap_u64_nonneg _
      have hsub : IntKind.u64.wrap (ticket - s.peek p1) = t := ht.symm
      clear ht
      by_cases hbig : t ≤ 2147483647
      · have hres : s.ahead p1 ticket = t := by unfold MemS.ahead; rw [if_pos hbad, if_neg hle, hsub, if_pos hbig]
        have Hres := Lib.hid hres; clear hres
        go_enter Try.func49, Try.ntmps49
        go_wp2_with (first | (go_at_call 63; refine (peek_cq (((hM.alloc _).alloc _).alloc _) _).mono ?_; rintro e w1 ⟨rfl, rfl⟩) | go_in)
        go_ret2
        exact ⟨by simp [hbad, Hres.out], (((hM.alloc _).alloc _).alloc _), (by repeat (first | with_reducible exact Mod.refl _ _ | with_reducible assumption | with_reducible refine Mod.alloc ?_ _))⟩
      · have hres : s.ahead p1 ticket = 2147483647 := by unfold MemS.ahead; rw [if_pos hbad, if_neg hle, hsub, if_neg hbig]
        have Hres := Lib.hid hres; clear hres
        go_enter Try.func49, Try.ntmps49
        go_wp2_with (first | (go_at_call 63; refine (peek_cq (((hM.alloc _).alloc _).alloc _) _).mono ?_; rintro e w1 ⟨rfl, rfl⟩) | go_in)
        go_ret2
        exact ⟨by simp [hbad, Hres.out], (((hM.alloc _).alloc _).alloc _), (by repeat (first | with_reducible exact Mod.refl _ _ | with_reducible assumption | with_reducible refine Mod.alloc ?_ _))⟩
  · have hz : (s.bad p1 == 0) = false := by simp [hbad]
    have hz2 : (s.bad p1 != 0) = true := by simp [hbad]
    have hres : s.ahead p1 ticket = 0 := by unfold MemS.ahead; rw [if_neg hbad]
    have Hres := Lib.hid hres; clear hres
    clear hbad
    go_enter Try.func49, Try.ntmps49
    go_wp2_with (first | (go_at_call 63; refine (peek_cq (((hM.alloc _).alloc _).alloc _) _).mono ?_; rintro e w1 ⟨rfl, rfl⟩) | go_in)
    all_goals
      go_ret2
      exact ⟨by simp [Hres.out], (((hM.alloc _).alloc _).alloc _), (by repeat (first | with_reducible exact Mod.refl _ _ | with_reducible assumption | with_reducible refine Mod.alloc ?_ _))⟩

set_option maxHeartbeats 1000000 in
theorem ahead_r {a b : Nat} {s : MemS} {w : World} (hM : MemAt 148 w a b s) (p0 p1 p2 p3 p4 p5 ticket : Int) :
    Calls Try.prog 112 #[.pointer (some ⟨a, 0, none⟩), .agg #[.int .i64 p0, .int .i64 p1, .int .i64 p2, .int .i64 p3, .int .i64 p4, .int .i64 p5], .int .u64 ticket] w fun e w' => e = .returned (.tuple #[.int .i64 (s.ahead p1 ticket), .int .i64 (s.bad p1)]) ∧ MemAt 148 w' a b (s) ∧ Mod [a, b] w w' := by
  have ha := hM.lta
  have hb := hM.ltb
  by_cases hbad : s.bad p1 = 0
  · by_cases hle : ticket ≤ s.peek p1
    · have hres : s.ahead p1 ticket = 0 := by unfold MemS.ahead; rw [if_pos hbad, if_pos hle]
      have Hres := Lib.hid hres; clear hres
      go_enter Try.func112, Try.ntmps112
      go_wp2_with (first | (go_at_call 100; refine (peek_rq (hM.alloc _) _).mono ?_; rintro e w1 ⟨rfl, rfl⟩))
      go_ret2
      exact ⟨by simp [hbad, Hres.out], (hM.alloc _), (by repeat (first | with_reducible exact Mod.refl _ _ | with_reducible assumption | with_reducible refine Mod.alloc ?_ _))⟩
    · obtain ⟨t, ht⟩ : ∃ t, t = IntKind.u64.wrap (ticket - s.peek p1) := ⟨_, rfl⟩
      have ht0 : 0 ≤ t := by rw [ht]; exact wrap_u64_nonneg _
      have hsub : IntKind.u64.wrap (ticket - s.peek p1) = t := ht.symm
      clear ht
      by_cases hbig : t ≤ 2147483647
      · have hres : s.ahead p1 ticket = t := by unfold MemS.ahead; rw [if_pos hbad, if_neg hle, hsub, if_pos hbig]
        have Hres := Lib.hid hres; clear hres
        go_enter Try.func112, Try.ntmps112
        go_wp2_with (first | (go_at_call 100; refine (peek_rq (hM.alloc _) _).mono ?_; rintro e w1 ⟨rfl, rfl⟩))
        go_ret2
        exact ⟨by simp [hbad, Hres.out], (hM.alloc _), (by repeat (first | with_reducible exact Mod.refl _ _ | with_reducible assumption | with_reducible refine Mod.alloc ?_ _))⟩
      · have hres : s.ahead p1 ticket = 2147483647 := by unfold MemS.ahead; rw [if_pos hbad, if_neg hle, hsub, if_neg hbig]
        have Hres := Lib.hid hres; clear hres
        go_enter Try.func112, Try.ntmps112
        go_wp2_with (first | (go_at_call 100; refine (peek_rq (hM.alloc _) _).mono ?_; rintro e w1 ⟨rfl, rfl⟩))
        go_ret2
        exact ⟨by simp [hbad, Hres.out], (hM.alloc _), (by repeat (first | with_reducible exact Mod.refl _ _ | with_reducible assumption | with_reducible refine Mod.alloc ?_ _))⟩
  · have hz : (s.bad p1 == 0) = false := by simp [hbad]
    have hz2 : (s.bad p1 != 0) = true := by simp [hbad]
    have hres : s.ahead p1 ticket = 0 := by unfold MemS.ahead; rw [if_neg hbad]
    have Hres := Lib.hid hres; clear hres
    clear hbad
    go_enter Try.func112, Try.ntmps112
    go_wp2_with (first | (go_at_call 100; refine (peek_rq (hM.alloc _) _).mono ?_; rintro e w1 ⟨rfl, rfl⟩))
    all_goals
      go_ret2
      exact ⟨by simp [Hres.out], (hM.alloc _), (by repeat (first | with_reducible exact Mod.refl _ _ | with_reducible assumption | with_reducible refine Mod.alloc ?_ _))⟩

end Go.Proofs.Ytobmgnoceacoaaa

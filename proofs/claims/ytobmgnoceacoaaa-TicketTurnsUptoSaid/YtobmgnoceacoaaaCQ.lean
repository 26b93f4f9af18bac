/- The contracts of census: Stamp, Publish, Leave, Peek, and the reference's. -/
import Derived.Test.YtobmgnoceacoaaaCP
namespace Go.Proofs.Ytobmgnoceacoaaa
open Go.RowKit

def MemS.leaveE (s : MemS) (p3 th : Int) : Int := if plErr p3 th = 0 then s.acc (p3 + th) else plErr p3 th
def MemS.leave (s : MemS) (p3 th : Int) : MemS := if plErr p3 th = 0 then s.store (p3 + th) 0 else s
def MemS.peekE (s : MemS) (p3 th : Int) : Int := if plErr p3 th = 0 then s.bad (p3 + th) else plErr p3 th
def MemS.isIn (s : MemS) (p3 th : Int) : Bool := if plErr p3 th = 0 then (if s.bad (p3 + th) = 0 then s.peek (p3 + th) != 0 else false) else false
def MemS.claimOf (s : MemS) (p3 th : Int) : Int := if s.isIn p3 th = true then IntKind.u64.wrap (s.peek (p3 + th) - 1) else 0

set_option maxHeartbeats 1000000 in
theorem stamp_c {a b : Nat} {s : MemS} {w : World} (hM : MemAt 142 w a b s) (p0 p1 p2 p3 p4 p5 : Int) :
    Calls Try.prog 116 #[.pointer (some ⟨a, 0, none⟩), .agg #[.int .i64 p0, .int .i64 p1, .int .i64 p2, .int .i64 p3, .int .i64 p4, .int .i64 p5]] w fun e w' => e = .returned (.tuple #[.int .u64 (s.got p2), .int .i64 (s.acc p2)]) ∧ MemAt 142 w' a b (s.load p2) ∧ Mod [a, b] w w' := by
  have ha := hM.lta
  have hb := hM.ltb
  go_enter Try.func116, Try.ntmps116
  go_wp2_with (go_at_call 33; refine (load_c (hM.alloc _) _).mono ?_; rintro e w1 ⟨rfl, M1, d1⟩)
  go_ret2
  exact ⟨rfl, M1, Mod.then ((by repeat (first | with_reducible exact Mod.refl _ _ | with_reducible assumption | with_reducible refine Mod.alloc ?_ _)) : Mod [a, b] w _) d1 (by simp)⟩

set_option maxHeartbeats 1000000 in
theorem publish_c {a b : Nat} {s : MemS} {w : World} (hM : MemAt 142 w a b s) (p0 p1 p2 p3 p4 p5 v : Int) :
    Calls Try.prog 114 #[.pointer (some ⟨a, 0, none⟩), .agg #[.int .i64 p0, .int .i64 p1, .int .i64 p2, .int .i64 p3, .int .i64 p4, .int .i64 p5], .int .u64 v] w fun e w' => e = .returned (.int .i64 (s.acc p2)) ∧ MemAt 142 w' a b (s.store p2 v) ∧ Mod [a, b] w w' := by
  have ha := hM.lta
  have hb := hM.ltb
  go_enter Try.func114, Try.ntmps114
  go_wp2_with (go_at_call 34; refine (store_c (hM.alloc _) _ _).mono ?_; rintro e w1 ⟨rfl, M1, d1⟩)
  go_ret
  exact ⟨rfl, M1, Mod.then ((by repeat (first | with_reducible exact Mod.refl _ _ | with_reducible assumption | with_reducible refine Mod.alloc ?_ _)) : Mod [a, b] w _) d1 (by simp)⟩

set_option maxHeartbeats 1000000 in
theorem stamp_r {a b : Nat} {s : MemS} {w : World} (hM : MemAt 148 w a b s) (p0 p1 p2 p3 p4 p5 : Int) :
    Calls Try.prog 147 #[.pointer (some ⟨a, 0, none⟩), .agg #[.int .i64 p0, .int .i64 p1, .int .i64 p2, .int .i64 p3, .int .i64 p4, .int .i64 p5]] w fun e w' => e = .returned (.tuple #[.int .u64 (s.got p2), .int .i64 (s.acc p2)]) ∧ MemAt 148 w' a b (s.load p2) ∧ Mod [a, b] w w' := by
  have ha := hM.lta
  have hb := hM.ltb
  go_enter Try.func147, Try.ntmps147
  go_wp2_with (go_at_call 97; refine (load_r (hM.alloc _) _).mono ?_; rintro e w1 ⟨rfl, M1, d1⟩)
  go_ret2
  exact ⟨rfl, M1, Mod.then ((by repeat (first | with_reducible exact Mod.refl _ _ | with_reducible assumption | with_reducible refine Mod.alloc ?_ _)) : Mod [a, b] w _) d1 (by simp)⟩

set_option maxHeartbeats 1000000 in
theorem publish_r {a b : Nat} {s : MemS} {w : World} (hM : MemAt 148 w a b s) (p0 p1 p2 p3 p4 p5 v : Int) :
    Calls Try.prog 148 #[.pointer (some ⟨a, 0, none⟩), .agg #[.int .i64 p0, .int .i64 p1, .int .i64 p2, .int .i64 p3, .int .i64 p4, .int .i64 p5], .int .u64 v] w fun e w' => e = .returned (.int .i64 (s.acc p2)) ∧ MemAt 148 w' a b (s.store p2 v) ∧ Mod [a, b] w w' := by
  have ha := hM.lta
  have hb := hM.ltb
  go_enter Try.func148, Try.ntmps148
  go_wp2_with (go_at_call 98; refine (store_r (hM.alloc _) _ _).mono ?_; rintro e w1 ⟨rfl, M1, d1⟩)
  go_ret
  exact ⟨rfl, M1, Mod.then ((by repeat (first | with_reducible exact Mod.refl _ _ | with_reducible assumption | with_reducible refine Mod.alloc ?_ _)) : Mod [a, b] w _) d1 (by simp)⟩

set_option maxHeartbeats 1000000 in
theorem leave_c {a b : Nat} {s : MemS} {w : World} (hM : MemAt 142 w a b s) (p0 p1 p2 p3 p4 p5 th : Int) :
    Calls Try.prog 59 #[.pointer (some ⟨a, 0, none⟩), .agg #[.int .i64 p0, .int .i64 p1, .int .i64 p2, .int .i64 p3, .int .i64 p4, .int .i64 p5], .int .i64 th] w fun e w' => e = .returned (.int .i64 (s.leaveE p3 th)) ∧ MemAt 142 w' a b (s.leave p3 th) ∧ Mod [a, b] w w' := by
  have ha := hM.lta
  have hb := hM.ltb
  by_cases hp : plErr p3 th = 0
  · have hat : plAt p3 th = p3 + th := if_pos hp
    go_enter Try.func59, Try.ntmps59
    go_wp2_with (first | (go_at_call 113; refine (place13 _ _ _ _ _ _ _ _).mono ?_; rintro e w1 ⟨rfl, rfl⟩) | (go_at_call 34; refine (store_c ((hM.alloc _).alloc _) _ _).mono ?_; rintro e w1 ⟨rfl, M1, d1⟩))
    go_ret
    exact ⟨by simp [MemS.leaveE, hp], by simpa [MemS.leave, hp] using M1, Mod.then ((by repeat (first | with_reducible exact Mod.refl _ _ | with_reducible assumption | with_reducible refine Mod.alloc ?_ _)) : Mod [a, b] w _) d1 (by simp)⟩
  · have hn : (plErr p3 th != 0) = true := by simp [hp]
    have Hp := Lib.hid hp; clear hp
    go_enter Try.func59, Try.ntmps59
    go_wp2_with (go_at_call 113; refine (place13 _ _ _ _ _ _ _ _).mono ?_; rintro e w1 ⟨rfl, rfl⟩)
    go_ret
    have hp := Hp.out
    exact ⟨by simp [MemS.leaveE, hp], by simpa [MemS.leave, hp] using (hM.alloc _).alloc _, (by repeat (first | with_reducible exact Mod.refl _ _ | with_reducible assumption | with_reducible refine Mod.alloc ?_ _))⟩

set_option maxHeartbeats 1000000 in
theorem leave_r {a b : Nat} {s : MemS} {w : World} (hM : MemAt 148 w a b s) (p0 p1 p2 p3 p4 p5 th : Int) :
    Calls Try.prog 149 #[.pointer (some ⟨a, 0, none⟩), .agg #[.int .i64 p0, .int .i64 p1, .int .i64 p2, .int .i64 p3, .int .i64 p4, .int .i64 p5], .int .i64 th] w fun e w' => e = .returned (.int .i64 (s.leaveE p3 th)) ∧ MemAt 148 w' a b (s.leave p3 th) ∧ Mod [a, b] w w' := by
  have ha := hM.lta
  have hb := hM.ltb
  rcases plErr_cases p3 th with ⟨h, he⟩ | ⟨h0, h8, h, he⟩ | ⟨h0, h8, h, h', he⟩
  · have He := Lib.hid he; clear he
    go_enter Try.func149, Try.ntmps149
    go_wp2_with (go_at_call 143; refine (maybe13_no _ h _).mono ?_; rintro e w1 ⟨rfl, rfl⟩)
    go_ret
    have he := He.out
    exact ⟨by simp [MemS.leaveE, he], by simpa [MemS.leave, he] using hM.alloc _, (by repeat (first | with_reducible exact Mod.refl _ _ | with_reducible assumption | with_reducible refine Mod.alloc ?_ _))⟩
  · have hwd : wordAt p3 th = -1 := if_pos h
    have ha1 : s.acc (-1) = 30 := acc_neg s (by omega)
    have hst := store_bad s (i := -1) 0 (by omega)
    have He := Lib.hid he; clear he
    have Ha1 := Lib.hid ha1; clear ha1
    have Hst := Lib.hid hst; clear hst
    clear h
    go_enter Try.func149, Try.ntmps149
    go_wp2_with (first | (go_at_call 143; refine (maybe13_yes _ h0 h8 _).mono ?_; rintro e w1 ⟨rfl, rfl⟩) | (go_at_call 144; refine (word13 _ _ _ _ _ _ _ h0 h8 _).mono ?_; rintro e w1 ⟨rfl, rfl⟩) | (go_at_call 98; refine (store_r ((hM.alloc _).alloc _) _ _).mono ?_; rintro e w1 ⟨rfl, M1, d1⟩))
    go_ret
    have he := He.out
    have hst := Hst.out
    have ha1 := Ha1.out
    exact ⟨by simp [MemS.leaveE, he, ha1], by simpa [MemS.leave, he, hst] using M1, Mod.then ((by repeat (first | with_reducible exact Mod.refl _ _ | with_reducible assumption | with_reducible refine Mod.alloc ?_ _)) : Mod [a, b] w _) d1 (by simp)⟩
  · have hwd : wordAt p3 th = p3 + th := if_neg (by omega)
    have He := Lib.hid he; clear he
    go_enter Try.func149, Try.ntmps149
    go_wp2_with (first | (go_at_call 143; refine (maybe13_yes _ h0 h8 _).mono ?_; rintro e w1 ⟨rfl, rfl⟩) | (go_at_call 144; refine (word13 _ _ _ _ _ _ _ h0 h8 _).mono ?_; rintro e w1 ⟨rfl, rfl⟩) | (go_at_call 98; refine (store_r ((hM.alloc _).alloc _) _ _).mono ?_; rintro e w1 ⟨rfl, M1, d1⟩))
    go_ret
    have he := He.out
    exact ⟨by simp [MemS.leaveE, he], by simpa [MemS.leave, he] using M1, Mod.then ((by repeat (first | with_reducible exact Mod.refl _ _ | with_reducible assumption | with_reducible refine Mod.alloc ?_ _)) : Mod [a, b] w _) d1 (by simp)⟩

set_option maxHeartbeats 1000000 in
theorem peek13_c {a b : Nat} {s : MemS} {w : World} (hM : MemAt 142 w a b s) (p0 p1 p2 p3 p4 p5 th : Int) :
    Calls Try.prog 115 #[.pointer (some ⟨a, 0, none⟩), .agg #[.int .i64 p0, .int .i64 p1, .int .i64 p2, .int .i64 p3, .int .i64 p4, .int .i64 p5], .int .i64 th] w fun e w' => e = .returned (.tuple #[.int .u64 (s.claimOf p3 th), .bool (s.isIn p3 th), .int .i64 (s.peekE p3 th)]) ∧ MemAt 142 w' a b (s) ∧ Mod [a, b] w w' := by
  have ha := hM.lta
  have hb := hM.ltb
  by_cases he : plErr p3 th = 0
  · obtain ⟨h0, h8, h, h'⟩ := plErr_zero he
    by_cases hb0 : s.bad (p3 + th) = 0
    · by_cases hz : s.peek (p3 + th) = 0
      · have hr : (.tuple #[.int .u64 (s.claimOf p3 th), .bool (s.isIn p3 th), .int .i64 (s.peekE p3 th)] : Value) = .tuple #[.int .u64 0, .bool false, .int .i64 0] := by simp [MemS.claimOf, MemS.isIn, MemS.peekE, he, hb0, hz]
        have HR := Lib.hid hr; clear hr he
        go_enter Try.func115, Try.ntmps115
        go_wp2_with (first | (go_at_call 113; refine (place13_e _ _ _ _ _ _ _ h0 h8 h h' _).mono ?_; rintro e w1 ⟨rfl, rfl⟩) | (go_at_call 63; refine (peek_cq ((hM.alloc _).alloc _) _).mono ?_; rintro e w1 ⟨rfl, rfl⟩))
        go_ret3
        exact ⟨(congrArg Ending.returned HR.out).symm, (hM.alloc _).alloc _, (by repeat (first | with_reducible exact Mod.refl _ _ | with_reducible assumption | with_reducible refine Mod.alloc ?_ _))⟩
      · have hr : (.tuple #[.int .u64 (s.claimOf p3 th), .bool (s.isIn p3 th), .int .i64 (s.peekE p3 th)] : Value) = .tuple #[.int .u64 (IntKind.u64.wrap (s.peek (p3 + th) - 1)), .bool true, .int .i64 0] := by simp [MemS.claimOf, MemS.isIn, MemS.peekE, he, hb0, hz]
        have hzb : (s.peek (p3 + th) == 0) = false := by simp [hz]
        have HR := Lib.hid hr; clear hr he hz
        go_enter Try.func115, Try.ntmps115
        go_wp2_with (first | (go_at_call 113; refine (place13_e _ _ _ _ _ _ _ h0 h8 h h' _).mono ?_; rintro e w1 ⟨rfl, rfl⟩) | (go_at_call 63; refine (peek_cq ((hM.alloc _).alloc _) _).mono ?_; rintro e w1 ⟨rfl, rfl⟩))
        go_ret3
        exact ⟨(congrArg Ending.returned HR.out).symm, (hM.alloc _).alloc _, (by repeat (first | with_reducible exact Mod.refl _ _ | with_reducible assumption | with_reducible refine Mod.alloc ?_ _))⟩
    · have hr : (.tuple #[.int .u64 (s.claimOf p3 th), .bool (s.isIn p3 th), .int .i64 (s.peekE p3 th)] : Value) = .tuple #[.int .u64 0, .bool false, .int .i64 (s.bad (p3 + th))] := by simp [MemS.claimOf, MemS.isIn, MemS.peekE, he, hb0]
      have hbb : (s.bad (p3 + th) != 0) = true := by simp [hb0]
      have HR := Lib.hid hr; clear hr he hb0
      go_enter Try.func115, Try.ntmps115
      go_wp2_with (first | (go_at_call 113; refine (place13_e _ _ _ _ _ _ _ h0 h8 h h' _).mono ?_; rintro e w1 ⟨rfl, rfl⟩) | (go_at_call 63; refine (peek_cq ((hM.alloc _).alloc _) _).mono ?_; rintro e w1 ⟨rfl, rfl⟩))
      go_ret3
      exact ⟨(congrArg Ending.returned HR.out).symm, (hM.alloc _).alloc _, (by repeat (first | with_reducible exact Mod.refl _ _ | with_reducible assumption | with_reducible refine Mod.alloc ?_ _))⟩
  · have hr : (.tuple #[.int .u64 (s.claimOf p3 th), .bool (s.isIn p3 th), .int .i64 (s.peekE p3 th)] : Value) = .tuple #[.int .u64 0, .bool false, .int .i64 (plErr p3 th)] := by simp [MemS.claimOf, MemS.isIn, MemS.peekE, he]
    have hn : (plErr p3 th != 0) = true := by simp [he]
    have HR := Lib.hid hr; clear hr he
    go_enter Try.func115, Try.ntmps115
    go_wp2_with (first | (go_at_call 113; refine (place13 _ _ _ _ _ _ _ _).mono ?_; rintro e w1 ⟨rfl, rfl⟩) | (go_at_call 63; refine (peek_cq ((hM.alloc _).alloc _) _).mono ?_; rintro e w1 ⟨rfl, rfl⟩))
    go_ret3
    exact ⟨(congrArg Ending.returned HR.out).symm, (hM.alloc _).alloc _, (by repeat (first | with_reducible exact Mod.refl _ _ | with_reducible assumption | with_reducible refine Mod.alloc ?_ _))⟩

set_option maxHeartbeats 1000000 in
theorem peek13_r {a b : Nat} {s : MemS} {w : World} (hM : MemAt 148 w a b s) (p0 p1 p2 p3 p4 p5 th : Int) :
    Calls Try.prog 150 #[.pointer (some ⟨a, 0, none⟩), .agg #[.int .i64 p0, .int .i64 p1, .int .i64 p2, .int .i64 p3, .int .i64 p4, .int .i64 p5], .int .i64 th] w fun e w' => e = .returned (.tuple #[.int .u64 (s.claimOf p3 th), .bool (s.isIn p3 th), .int .i64 (s.peekE p3 th)]) ∧ MemAt 148 w' a b (s) ∧ Mod [a, b] w w' := by
  have ha := hM.lta
  have hb := hM.ltb
  rcases plErr_cases p3 th with ⟨h, he⟩ | ⟨h0, h8, h, he⟩ | ⟨h0, h8, h, h', he⟩
  · have hr : (.tuple #[.int .u64 (s.claimOf p3 th), .bool (s.isIn p3 th), .int .i64 (s.peekE p3 th)] : Value) = .tuple #[.int .u64 0, .bool false, .int .i64 100] := by simp [MemS.claimOf, MemS.isIn, MemS.peekE, he]
    have HR := Lib.hid hr; clear hr he
    go_enter Try.func150, Try.ntmps150
    go_wp2_with (go_at_call 143; refine (maybe13_no _ h _).mono ?_; rintro e w1 ⟨rfl, rfl⟩)
    go_ret3
    exact ⟨(congrArg Ending.returned HR.out).symm, hM.alloc _, (by repeat (first | with_reducible exact Mod.refl _ _ | with_reducible assumption | with_reducible refine Mod.alloc ?_ _))⟩
  · have hr : (.tuple #[.int .u64 (s.claimOf p3 th), .bool (s.isIn p3 th), .int .i64 (s.peekE p3 th)] : Value) = .tuple #[.int .u64 0, .bool false, .int .i64 30] := by simp [MemS.claimOf, MemS.isIn, MemS.peekE, he]
    have HR := Lib.hid hr; clear hr he
    have hwd : wordAt p3 th = -1 := if_pos h
    have hb1 : s.bad (-1) = 30 := bad_neg s (by omega)
    clear h
    go_enter Try.func150, Try.ntmps150
    go_wp2_with (first | (go_at_call 143; refine (maybe13_yes _ h0 h8 _).mono ?_; rintro e w1 ⟨rfl, rfl⟩) | (go_at_call 144; refine (word13 _ _ _ _ _ _ _ h0 h8 _).mono ?_; rintro e w1 ⟨rfl, rfl⟩) | (go_at_call 100; refine (peek_rq ((hM.alloc _).alloc _) _).mono ?_; rintro e w1 ⟨rfl, rfl⟩))
    go_ret3
    exact ⟨(congrArg Ending.returned HR.out).symm, (hM.alloc _).alloc _, (by repeat (first | with_reducible exact Mod.refl _ _ | with_reducible assumption | with_reducible refine Mod.alloc ?_ _))⟩
  · have hwd : wordAt p3 th = p3 + th := if_neg (by omega)
    by_cases hb0 : s.bad (p3 + th) = 0
    · by_cases hz : s.peek (p3 + th) = 0
      · have hr : (.tuple #[.int .u64 (s.claimOf p3 th), .bool (s.isIn p3 th), .int .i64 (s.peekE p3 th)] : Value) = .tuple #[.int .u64 0, .bool false, .int .i64 0] := by simp [MemS.claimOf, MemS.isIn, MemS.peekE, he, hb0, hz]
        have HR := Lib.hid hr; clear hr he
        go_enter Try.func150, Try.ntmps150
        go_wp2_with (first | (go_at_call 143; refine (maybe13_yes _ h0 h8 _).mono ?_; rintro e w1 ⟨rfl, rfl⟩) | (go_at_call 144; refine (word13 _ _ _ _ _ _ _ h0 h8 _).mono ?_; rintro e w1 ⟨rfl, rfl⟩) | (go_at_call 100; refine (peek_rq ((hM.alloc _).alloc _) _).mono ?_; rintro e w1 ⟨rfl, rfl⟩))
        go_ret3
        exact ⟨(congrArg Ending.returned HR.out).symm, (hM.alloc _).alloc _, (by repeat (first | with_reducible exact Mod.refl _ _ | with_reducible assumption | with_reducible refine Mod.alloc ?_ _))⟩
      · have hr : (.tuple #[.int .u64 (s.claimOf p3 th), .bool (s.isIn p3 th), .int .i64 (s.peekE p3 th)] : Value) = .tuple #[.int .u64 (IntKind.u64.wrap (s.peek (p3 + th) - 1)), .bool true, .int .i64 0] := by simp [MemS.claimOf, MemS.isIn, MemS.peekE, he, hb0, hz]
        have hzb : (s.peek (p3 + th) == 0) = false := by simp [hz]
        have HR := Lib.hid hr; clear hr he hz
        go_enter Try.func150, Try.ntmps150
        go_wp2_with (first | (go_at_call 143; refine (maybe13_yes _ h0 h8 _).mono ?_; rintro e w1 ⟨rfl, rfl⟩) | (go_at_call 144; refine (word13 _ _ _ _ _ _ _ h0 h8 _).mono ?_; rintro e w1 ⟨rfl, rfl⟩) | (go_at_call 100; refine (peek_rq ((hM.alloc _).alloc _) _).mono ?_; rintro e w1 ⟨rfl, rfl⟩))
        go_ret3
        exact ⟨(congrArg Ending.returned HR.out).symm, (hM.alloc _).alloc _, (by repeat (first | with_reducible exact Mod.refl _ _ | with_reducible assumption | with_reducible refine Mod.alloc ?_ _))⟩
    · have hr : (.tuple #[.int .u64 (s.claimOf p3 th), .bool (s.isIn p3 th), .int .i64 (s.peekE p3 th)] : Value) = .tuple #[.int .u64 0, .bool false, .int .i64 (s.bad (p3 + th))] := by simp [MemS.claimOf, MemS.isIn, MemS.peekE, he, hb0]
      have hbb : (s.bad (p3 + th) != 0) = true := by simp [hb0]
      have HR := Lib.hid hr; clear hr he hb0
      go_enter Try.func150, Try.ntmps150
      go_wp2_with (first | (go_at_call 143; refine (maybe13_yes _ h0 h8 _).mono ?_; rintro e w1 ⟨rfl, rfl⟩) | (go_at_call 144; refine (word13 _ _ _ _ _ _ _ h0 h8 _).mono ?_; rintro e w1 ⟨rfl, rfl⟩) | (go_at_call 100; refine (peek_rq ((hM.alloc _).alloc _) _).mono ?_; rintro e w1 ⟨rfl, rfl⟩))
      go_ret3
      exact ⟨(congrArg Ending.returned HR.out).symm, (hM.alloc _).alloc _, (by repeat (first | with_reducible exact Mod.refl _ _ | with_reducible assumption | with_reducible refine Mod.alloc ?_ _))⟩

end Go.Proofs.Ytobmgnoceacoaaa

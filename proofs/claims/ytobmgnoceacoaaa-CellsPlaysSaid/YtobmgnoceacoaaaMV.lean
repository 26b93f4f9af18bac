/- Len, Count and Peek of both memories leave the world as it is. -/
import Derived.Test.YtobmgnoceacoaaaM1
namespace Go.Proofs.Ytobmgnoceacoaaa
open Go.RowKit

set_option maxHeartbeats 1000000 in
theorem len_cq {a b : Nat} {s : MemS} {w : World} (hM : MemAt 142 w a b s) :
    Calls Try.prog 24 #[.pointer (some ⟨a, 0, none⟩)] w fun e w' => e = .returned (.int .i64 s.ws.length) ∧ w' = w := by
  have hn := hM.len
  obtain ⟨h0, h1, h2, f1, f2⟩ := hM.cells
  go_enter Try.func24, Try.ntmps24
  go_wp2
  go_ret
  exact ⟨rfl, rfl⟩

set_option maxHeartbeats 1000000 in
theorem count_cq {a b : Nat} {s : MemS} {w : World} (hM : MemAt 142 w a b s) :
    Calls Try.prog 31 #[.pointer (some ⟨a, 0, none⟩)] w fun e w' => e = .returned (.int .i64 s.ct) ∧ w' = w := by
  have hn := hM.len
  obtain ⟨h0, h1, h2, f1, f2⟩ := hM.cells
  go_enter Try.func31, Try.ntmps31
  go_wp2
  go_ret
  exact ⟨rfl, rfl⟩

set_option maxHeartbeats 1000000 in
theorem peek_cq {a b : Nat} {s : MemS} {w : World} (hM : MemAt 142 w a b s) (i : Int) :
    Calls Try.prog 63 #[.pointer (some ⟨a, 0, none⟩), .int .i64 i] w fun e w' => e = .returned (.tuple #[.int .u64 (s.peek i), .int .i64 (s.bad i)]) ∧ w' = w := by
  have hn := hM.len
  obtain ⟨h0, h1, h2, f1, f2⟩ := hM.cells
  rcases bad_cases s i with ⟨hi, hc⟩ | ⟨k, rfl, hk, hc⟩ | ⟨k, rfl, hk, hc⟩
  · have Hc := Lib.hid hc; clear hc
    go_enter Try.func63, Try.ntmps63
    go_wp2
    go_ret2
    have hc := Hc.out
    exact ⟨by simp [MemS.peek, hc], rfl⟩
  · have Hc := Lib.hid hc; clear hc
    go_enter Try.func63, Try.ntmps63
    go_wp2
    go_ret2
    have hc := Hc.out
    exact ⟨by simp [MemS.peek, hc], rfl⟩
  · have Hc := Lib.hid hc; clear hc
    obtain ⟨hx, fx⟩ := hM.word hk
    obtain ⟨x, hxe⟩ : ∃ x, x = s.ws.getD k 0 := ⟨_, rfl⟩
    rw [← hxe] at hx
    have Hx := Lib.hid hxe; clear hxe
    go_enter Try.func63, Try.ntmps63
    go_wp2
    go_ret2
    have hc := Hc.out
    have hxe := Hx.out
    exact ⟨by simp [MemS.peek, MemS.at, hc, hxe], rfl⟩

set_option maxHeartbeats 1000000 in
theorem len_rq {a b : Nat} {s : MemS} {w : World} (hM : MemAt 148 w a b s) :
    Calls Try.prog 44 #[.pointer (some ⟨a, 0, none⟩)] w fun e w' => e = .returned (.int .i64 s.ws.length) ∧ w' = w := by
  have hn := hM.len
  obtain ⟨h0, h1, h2, f1, f2⟩ := hM.cells
  go_enter Try.func44, Try.ntmps44
  go_wp2
  go_ret
  exact ⟨rfl, rfl⟩

set_option maxHeartbeats 1000000 in
theorem count_rq {a b : Nat} {s : MemS} {w : World} (hM : MemAt 148 w a b s) :
    Calls Try.prog 43 #[.pointer (some ⟨a, 0, none⟩)] w fun e w' => e = .returned (.int .i64 s.ct) ∧ w' = w := by
  have hn := hM.len
  obtain ⟨h0, h1, h2, f1, f2⟩ := hM.cells
  go_enter Try.func43, Try.ntmps43
  go_wp2
  go_ret
  exact ⟨rfl, rfl⟩

set_option maxHeartbeats 1000000 in
theorem peek_rq {a b : Nat} {s : MemS} {w : World} (hM : MemAt 148 w a b s) (i : Int) :
    Calls Try.prog 100 #[.pointer (some ⟨a, 0, none⟩), .int .i64 i] w fun e w' => e = .returned (.tuple #[.int .u64 (s.peek i), .int .i64 (s.bad i)]) ∧ w' = w := by
  have hn := hM.len
  obtain ⟨h0, h1, h2, f1, f2⟩ := hM.cells
  rcases bad_cases s i with ⟨hi, hc⟩ | ⟨k, rfl, hk, hc⟩ | ⟨k, rfl, hk, hc⟩
  · have Hc := Lib.hid hc; clear hc
    go_enter Try.func100, Try.ntmps100
    go_wp2
    go_ret2
    have hc := Hc.out
    exact ⟨by simp [MemS.peek, hc], rfl⟩
  · have Hc := Lib.hid hc; clear hc
    go_enter Try.func100, Try.ntmps100
    go_wp2
    go_ret2
    have hc := Hc.out
    exact ⟨by simp [MemS.peek, hc], rfl⟩
  · have Hc := Lib.hid hc; clear hc
    obtain ⟨hx, fx⟩ := hM.word hk
    obtain ⟨x, hxe⟩ : ∃ x, x = s.ws.getD k 0 := ⟨_, rfl⟩
    rw [← hxe] at hx
    have Hx := Lib.hid hxe; clear hxe
    go_enter Try.func100, Try.ntmps100
    go_wp2
    go_ret2
    have hc := Hc.out
    have hxe := Hx.out
    exact ⟨by simp [MemS.peek, MemS.at, hc, hxe], rfl⟩

end Go.Proofs.Ytobmgnoceacoaaa

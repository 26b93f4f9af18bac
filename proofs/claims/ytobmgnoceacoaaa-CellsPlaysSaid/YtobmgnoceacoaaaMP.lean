/- The contracts of mem and of the reference: MP. -/
import Derived.Test.YtobmgnoceacoaaaM1
namespace Go.Proofs.Ytobmgnoceacoaaa
open Go.RowKit

set_option maxHeartbeats 1000000 in
theorem peek_c {a b : Nat} {s : MemS} {w : World} (hM : MemAt 142 w a b s) (i : Int) :
    Calls Try.prog 63 #[.pointer (some ⟨a, 0, none⟩), .int .i64 i] w fun e w' => e = .returned (.tuple #[.int .u64 (s.peek i), .int .i64 (s.bad i)]) ∧ MemAt 142 w' a b (s) ∧ Mod [a, b] w w' := by
  have ha := hM.lta
  have hb := hM.ltb
  have hn := hM.len
  have hne := hM.ne
  obtain ⟨h0, h1, h2, f1, f2⟩ := hM.cells
  rcases bad_cases s i with ⟨hi, hc⟩ | ⟨k, rfl, hk, hc⟩ | ⟨k, rfl, hk, hc⟩
  · have Hc := Lib.hid hc; clear hc
    go_enter Try.func63, Try.ntmps63
    go_wp2
    go_ret2
    have hc := Hc.out
    exact ⟨by simp [MemS.peek, hc],  hM, Mod.refl _ _⟩
  · have Hc := Lib.hid hc; clear hc
    go_enter Try.func63, Try.ntmps63
    go_wp2
    go_ret2
    have hc := Hc.out
    exact ⟨by simp [MemS.peek, hc],  hM, Mod.refl _ _⟩
  · have Hc := Lib.hid hc; clear hc
    obtain ⟨hx, fx⟩ := hM.word hk
    obtain ⟨x, hxe⟩ : ∃ x, x = s.ws.getD k 0 := ⟨_, rfl⟩
    rw [← hxe] at hx
    have Hx := Lib.hid hxe; clear hxe
    go_enter Try.func63, Try.ntmps63
    go_wp2
    go_ret2
    have hc := Hc.out
    have hxe := Hx.out
    exact ⟨by simp [MemS.peek, MemS.at, hc, hxe], hM, Mod.refl _ _⟩


set_option maxHeartbeats 1000000 in
theorem poke_c {a b : Nat} {s : MemS} {w : World} (hM : MemAt 142 w a b s) (i v : Int) :
    Calls Try.prog 36 #[.pointer (some ⟨a, 0, none⟩), .int .i64 i, .int .u64 v] w fun e w' => e = .returned (.int .i64 (s.bad i)) ∧ MemAt 142 w' a b (s.poke i v) ∧ Mod [a, b] w w' := by
  have ha := hM.lta
  have hb := hM.ltb
  have hn := hM.len
  have hne := hM.ne
  obtain ⟨h0, h1, h2, f1, f2⟩ := hM.cells
  rcases bad_cases s i with ⟨hi, hc⟩ | ⟨k, rfl, hk, hc⟩ | ⟨k, rfl, hk, hc⟩
  · have Hc := Lib.hid hc; clear hc
    go_enter Try.func36, Try.ntmps36
    go_wp2
    go_ret
    have hc := Hc.out
    exact ⟨by simp [hc], by simpa [MemS.poke, hc] using hM, Mod.refl _ _⟩
  · have Hc := Lib.hid hc; clear hc
    go_enter Try.func36, Try.ntmps36
    go_wp2
    go_ret
    have hc := Hc.out
    exact ⟨by simp [hc], by simpa [MemS.poke, hc] using hM, Mod.refl _ _⟩
  · have Hc := Lib.hid hc; clear hc
    obtain ⟨hx, fx⟩ := hM.word hk
    obtain ⟨x, hxe⟩ : ∃ x, x = s.ws.getD k 0 := ⟨_, rfl⟩
    rw [← hxe] at hx
    have Hx := Lib.hid hxe; clear hxe
    go_enter Try.func36, Try.ntmps36
    go_wp2
    go_ret
    have hc := Hc.out
    have hxe := Hx.out
    exact ⟨by simp [hc], by simpa [MemS.poke, hc] using hM.put k v, (by repeat (first | exact Mod.refl _ _ | refine Mod.drew ?_ | refine Mod.alloc ?_ _ | refine Mod.set_l ?_ _ _ | refine Mod.set_r ?_ _ _))⟩


set_option maxHeartbeats 1000000 in
theorem peek_r {a b : Nat} {s : MemS} {w : World} (hM : MemAt 148 w a b s) (i : Int) :
    Calls Try.prog 100 #[.pointer (some ⟨a, 0, none⟩), .int .i64 i] w fun e w' => e = .returned (.tuple #[.int .u64 (s.peek i), .int .i64 (s.bad i)]) ∧ MemAt 148 w' a b (s) ∧ Mod [a, b] w w' := by
  have ha := hM.lta
  have hb := hM.ltb
  have hn := hM.len
  have hne := hM.ne
  obtain ⟨h0, h1, h2, f1, f2⟩ := hM.cells
  rcases bad_cases s i with ⟨hi, hc⟩ | ⟨k, rfl, hk, hc⟩ | ⟨k, rfl, hk, hc⟩
  · have Hc := Lib.hid hc; clear hc
    go_enter Try.func100, Try.ntmps100
    go_wp2
    go_ret2
    have hc := Hc.out
    exact ⟨by simp [MemS.peek, hc],  hM, Mod.refl _ _⟩
  · have Hc := Lib.hid hc; clear hc
    go_enter Try.func100, Try.ntmps100
    go_wp2
    go_ret2
    have hc := Hc.out
    exact ⟨by simp [MemS.peek, hc],  hM, Mod.refl _ _⟩
  · have Hc := Lib.hid hc; clear hc
    obtain ⟨hx, fx⟩ := hM.word hk
    obtain ⟨x, hxe⟩ : ∃ x, x = s.ws.getD k 0 := ⟨_, rfl⟩
    rw [← hxe] at hx
    have Hx := Lib.hid hxe; clear hxe
    go_enter Try.func100, Try.ntmps100
    go_wp2
    go_ret2
    have hc := Hc.out
    have hxe := Hx.out
    exact ⟨by simp [MemS.peek, MemS.at, hc, hxe], hM, Mod.refl _ _⟩


set_option maxHeartbeats 1000000 in
theorem poke_r {a b : Nat} {s : MemS} {w : World} (hM : MemAt 148 w a b s) (i v : Int) :
    Calls Try.prog 101 #[.pointer (some ⟨a, 0, none⟩), .int .i64 i, .int .u64 v] w fun e w' => e = .returned (.int .i64 (s.bad i)) ∧ MemAt 148 w' a b (s.poke i v) ∧ Mod [a, b] w w' := by
  have ha := hM.lta
  have hb := hM.ltb
  have hn := hM.len
  have hne := hM.ne
  obtain ⟨h0, h1, h2, f1, f2⟩ := hM.cells
  rcases bad_cases s i with ⟨hi, hc⟩ | ⟨k, rfl, hk, hc⟩ | ⟨k, rfl, hk, hc⟩
  · have Hc := Lib.hid hc; clear hc
    go_enter Try.func101, Try.ntmps101
    go_wp2
    go_ret
    have hc := Hc.out
    exact ⟨by simp [hc], by simpa [MemS.poke, hc] using hM, Mod.refl _ _⟩
  · have Hc := Lib.hid hc; clear hc
    go_enter Try.func101, Try.ntmps101
    go_wp2
    go_ret
    have hc := Hc.out
    exact ⟨by simp [hc], by simpa [MemS.poke, hc] using hM, Mod.refl _ _⟩
  · have Hc := Lib.hid hc; clear hc
    obtain ⟨hx, fx⟩ := hM.word hk
    obtain ⟨x, hxe⟩ : ∃ x, x = s.ws.getD k 0 := ⟨_, rfl⟩
    rw [← hxe] at hx
    have Hx := Lib.hid hxe; clear hxe
    go_enter Try.func101, Try.ntmps101
    go_wp2
    go_ret
    have hc := Hc.out
    have hxe := Hx.out
    exact ⟨by simp [hc], by simpa [MemS.poke, hc] using hM.put k v, (by repeat (first | exact Mod.refl _ _ | refine Mod.drew ?_ | refine Mod.alloc ?_ _ | refine Mod.set_l ?_ _ _ | refine Mod.set_r ?_ _ _))⟩

end Go.Proofs.Ytobmgnoceacoaaa

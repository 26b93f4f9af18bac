/- The contracts of mem and of the reference: MA. -/
import Derived.Test.YtobmgnoceacoaaaM1
namespace Go.Proofs.Ytobmgnoceacoaaa
open Go.RowKit

set_option maxHeartbeats 1000000 in
theorem add_c {a b : Nat} {s : MemS} {w : World} (hM : MemAt 142 w a b s) (i v : Int) :
    Calls Try.prog 35 #[.pointer (some ⟨a, 0, none⟩), .int .i64 i, .int .u64 v] w fun e w' => e = .returned (.tuple #[.int .u64 (s.got i), .int .i64 (s.acc i)]) ∧ MemAt 142 w' a b (s.add i v) ∧ Mod [a, b] w w' := by
  have ha := hM.lta
  have hb := hM.ltb
  have hn := hM.len
  have hne := hM.ne
  obtain ⟨h0, h1, h2, f1, f2⟩ := hM.cells
  rcases acc_cases s i with ⟨hi, hc⟩ | ⟨k, rfl, hk, hc⟩ | ⟨k, rfl, hk, ho, hc⟩ | ⟨k, rfl, hk, ho, hc⟩
  · have Hc := Lib.hid hc; clear hc
    go_enter Try.func35, Try.ntmps35
    go_wp2
    go_ret2
    have hc := Hc.out
    exact ⟨by simp [MemS.got, hc], by simpa [MemS.add, hc] using ((hM.alloc _).alloc _), ((Mod.refl _ _).alloc _).alloc _⟩
  · have Hc := Lib.hid hc; clear hc
    go_enter Try.func35, Try.ntmps35
    go_wp2
    go_ret2
    have hc := Hc.out
    exact ⟨by simp [MemS.got, hc], by simpa [MemS.add, hc] using ((hM.alloc _).alloc _), ((Mod.refl _ _).alloc _).alloc _⟩
  · have Hc := Lib.hid hc; clear hc
    rw [ho] at h1
    have Ho := Lib.hid ho; clear ho
    go_enter Try.func35, Try.ntmps35
    go_wp2
    go_ret2
    have hc := Hc.out
    exact ⟨by simp [MemS.got, hc], by simpa [MemS.add, hc] using ((hM.alloc _).alloc _), ((Mod.refl _ _).alloc _).alloc _⟩
  · have Hc := Lib.hid hc; clear hc
    rw [ho] at h1
    have Ho := Lib.hid ho; clear ho
    obtain ⟨hx, fx⟩ := hM.word hk
    obtain ⟨x, hxe⟩ : ∃ x, x = s.ws.getD k 0 := ⟨_, rfl⟩
    rw [← hxe] at hx
    have Hx := Lib.hid hxe; clear hxe
    go_enter Try.func35, Try.ntmps35
    go_wp2
    go_region
    go_end0
    go_wp2
    go_ret2
    have hc := Hc.out
    have hxe := Hx.out
    exact ⟨by simp [MemS.got, MemS.at, hc, hxe], by simpa [MemS.add, hc, MemS.at, hxe] using (((hM.touch.put k (IntKind.u64.wrap (x + v))).alloc _).alloc _).drew, (by repeat (first | exact Mod.refl _ _ | refine Mod.drew ?_ | refine Mod.alloc ?_ _ | refine Mod.set_l ?_ _ _ | refine Mod.set_r ?_ _ _))⟩


set_option maxHeartbeats 1000000 in
theorem add_r {a b : Nat} {s : MemS} {w : World} (hM : MemAt 148 w a b s) (i v : Int) :
    Calls Try.prog 99 #[.pointer (some ⟨a, 0, none⟩), .int .i64 i, .int .u64 v] w fun e w' => e = .returned (.tuple #[.int .u64 (s.got i), .int .i64 (s.acc i)]) ∧ MemAt 148 w' a b (s.add i v) ∧ Mod [a, b] w w' := by
  have ha := hM.lta
  have hb := hM.ltb
  have hn := hM.len
  have hne := hM.ne
  obtain ⟨h0, h1, h2, f1, f2⟩ := hM.cells
  rcases acc_cases s i with ⟨hi, hc⟩ | ⟨k, rfl, hk, hc⟩ | ⟨k, rfl, hk, ho, hc⟩ | ⟨k, rfl, hk, ho, hc⟩
  · have Hc := Lib.hid hc; clear hc
    go_enter Try.func99, Try.ntmps99
    go_wp2
    go_ret2
    have hc := Hc.out
    exact ⟨by simp [MemS.got, hc], by simpa [MemS.add, hc] using hM, Mod.refl _ _⟩
  · have Hc := Lib.hid hc; clear hc
    go_enter Try.func99, Try.ntmps99
    go_wp2
    go_ret2
    have hc := Hc.out
    exact ⟨by simp [MemS.got, hc], by simpa [MemS.add, hc] using hM, Mod.refl _ _⟩
  · have Hc := Lib.hid hc; clear hc
    rw [ho] at h1
    have Ho := Lib.hid ho; clear ho
    go_enter Try.func99, Try.ntmps99
    go_wp2
    go_ret2
    have hc := Hc.out
    exact ⟨by simp [MemS.got, hc], by simpa [MemS.add, hc] using hM, Mod.refl _ _⟩
  · have Hc := Lib.hid hc; clear hc
    rw [ho] at h1
    have Ho := Lib.hid ho; clear ho
    obtain ⟨hx, fx⟩ := hM.word hk
    obtain ⟨x, hxe⟩ : ∃ x, x = s.ws.getD k 0 := ⟨_, rfl⟩
    rw [← hxe] at hx
    have Hx := Lib.hid hxe; clear hxe
    go_enter Try.func99, Try.ntmps99
    go_wp2
    go_end0
    go_wp2
    go_ret2
    have hc := Hc.out
    have hxe := Hx.out
    exact ⟨by simp [MemS.got, MemS.at, hc, hxe], by simpa [MemS.add, hc, MemS.at, MemS.touch, hxe] using hM.touch.put k (IntKind.u64.wrap (x + v)), (by repeat (first | exact Mod.refl _ _ | refine Mod.drew ?_ | refine Mod.alloc ?_ _ | refine Mod.set_l ?_ _ _ | refine Mod.set_r ?_ _ _))⟩

end Go.Proofs.Ytobmgnoceacoaaa

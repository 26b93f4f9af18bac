/- The contracts of mem and of the reference: MS. -/
import Derived.Test.YtobmgnoceacoaaaM1
namespace Go.Proofs.Ytobmgnoceacoaaa
open Go.RowKit

set_option maxHeartbeats 1000000 in
theorem store_c {a b : Nat} {s : MemS} {w : World} (hM : MemAt 142 w a b s) (i v : Int) :
    Calls Try.prog 34 #[.pointer (some ⟨a, 0, none⟩), .int .i64 i, .int .u64 v] w fun e w' => e = .returned (.int .i64 (s.acc i)) ∧ MemAt 142 w' a b (s.store i v) ∧ Mod [a, b] w w' := by
  have ha := hM.lta
  have hb := hM.ltb
  have hn := hM.len
  have hne := hM.ne
  obtain ⟨h0, h1, h2, f1, f2⟩ := hM.cells
  rcases acc_cases s i with ⟨hi, hc⟩ | ⟨k, rfl, hk, hc⟩ | ⟨k, rfl, hk, ho, hc⟩ | ⟨k, rfl, hk, ho, hc⟩
  · have Hc := Lib.hid hc; clear hc
    go_enter Try.func34, Try.ntmps34
    go_wp2
    go_ret
    have hc := Hc.out
    exact ⟨by simp [hc], by simpa [MemS.store, hc] using (hM.alloc _), (Mod.refl _ _).alloc _⟩
  · have Hc := Lib.hid hc; clear hc
    go_enter Try.func34, Try.ntmps34
    go_wp2
    go_ret
    have hc := Hc.out
    exact ⟨by simp [hc], by simpa [MemS.store, hc] using (hM.alloc _), (Mod.refl _ _).alloc _⟩
  · have Hc := Lib.hid hc; clear hc
    rw [ho] at h1
    have Ho := Lib.hid ho; clear ho
    go_enter Try.func34, Try.ntmps34
    go_wp2
    go_ret
    have hc := Hc.out
    exact ⟨by simp [hc], by simpa [MemS.store, hc] using (hM.alloc _), (Mod.refl _ _).alloc _⟩
  · have Hc := Lib.hid hc; clear hc
    rw [ho] at h1
    have Ho := Lib.hid ho; clear ho
    obtain ⟨hx, fx⟩ := hM.word hk
    obtain ⟨x, hxe⟩ : ∃ x, x = s.ws.getD k 0 := ⟨_, rfl⟩
    rw [← hxe] at hx
    have Hx := Lib.hid hxe; clear hxe
    go_enter Try.func34, Try.ntmps34
    go_wp2
    go_end0
    go_wp2
    go_ret
    have hc := Hc.out
    have hxe := Hx.out
    exact ⟨by simp [hc], by simpa [MemS.store, hc] using (hM.touch.put k v).alloc _, (by repeat (first | exact Mod.refl _ _ | refine Mod.drew ?_ | refine Mod.alloc ?_ _ | refine Mod.set_l ?_ _ _ | refine Mod.set_r ?_ _ _))⟩


set_option maxHeartbeats 1000000 in
theorem store_r {a b : Nat} {s : MemS} {w : World} (hM : MemAt 148 w a b s) (i v : Int) :
    Calls Try.prog 98 #[.pointer (some ⟨a, 0, none⟩), .int .i64 i, .int .u64 v] w fun e w' => e = .returned (.int .i64 (s.acc i)) ∧ MemAt 148 w' a b (s.store i v) ∧ Mod [a, b] w w' := by
  have ha := hM.lta
  have hb := hM.ltb
  have hn := hM.len
  have hne := hM.ne
  obtain ⟨h0, h1, h2, f1, f2⟩ := hM.cells
  rcases acc_cases s i with ⟨hi, hc⟩ | ⟨k, rfl, hk, hc⟩ | ⟨k, rfl, hk, ho, hc⟩ | ⟨k, rfl, hk, ho, hc⟩
  · have Hc := Lib.hid hc; clear hc
    go_enter Try.func98, Try.ntmps98
    go_wp2
    go_ret
    have hc := Hc.out
    exact ⟨by simp [hc], by simpa [MemS.store, hc] using hM, Mod.refl _ _⟩
  · have Hc := Lib.hid hc; clear hc
    go_enter Try.func98, Try.ntmps98
    go_wp2
    go_ret
    have hc := Hc.out
    exact ⟨by simp [hc], by simpa [MemS.store, hc] using hM, Mod.refl _ _⟩
  · have Hc := Lib.hid hc; clear hc
    rw [ho] at h1
    have Ho := Lib.hid ho; clear ho
    go_enter Try.func98, Try.ntmps98
    go_wp2
    go_ret
    have hc := Hc.out
    exact ⟨by simp [hc], by simpa [MemS.store, hc] using hM, Mod.refl _ _⟩
  · have Hc := Lib.hid hc; clear hc
    rw [ho] at h1
    have Ho := Lib.hid ho; clear ho
    obtain ⟨hx, fx⟩ := hM.word hk
    obtain ⟨x, hxe⟩ : ∃ x, x = s.ws.getD k 0 := ⟨_, rfl⟩
    rw [← hxe] at hx
    have Hx := Lib.hid hxe; clear hxe
    go_enter Try.func98, Try.ntmps98
    go_wp2
    go_end0
    go_wp2
    go_ret
    have hc := Hc.out
    have hxe := Hx.out
    exact ⟨by simp [hc], by simpa [MemS.store, hc] using hM.touch.put k v, (by repeat (first | exact Mod.refl _ _ | refine Mod.drew ?_ | refine Mod.alloc ?_ _ | refine Mod.set_l ?_ _ _ | refine Mod.set_r ?_ _ _))⟩

end Go.Proofs.Ytobmgnoceacoaaa

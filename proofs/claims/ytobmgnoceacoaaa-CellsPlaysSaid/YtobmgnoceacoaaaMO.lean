/- The contracts of mem and of the reference: MO. -/
import Derived.Test.YtobmgnoceacoaaaM1
namespace Go.Proofs.Ytobmgnoceacoaaa
open Go.RowKit

set_option maxHeartbeats 1000000 in
theorem open_c {a b : Nat} {s : MemS} {w : World} (hM : MemAt 142 w a b s) :
    Calls Try.prog 32 #[.pointer (some ⟨a, 0, none⟩)] w fun e w' => e = .returned (.tuple #[]) ∧ MemAt 142 w' a b (s.opened) ∧ Mod [a, b] w w' := by
  have ha := hM.lta
  have hb := hM.ltb
  have hn := hM.len
  have hne := hM.ne
  obtain ⟨h0, h1, h2, f1, f2⟩ := hM.cells
  go_enter Try.func32, Try.ntmps32
  go_wp2
  go_end0
  exact ⟨rfl, hM.opened, (by repeat (first | exact Mod.refl _ _ | refine Mod.drew ?_ | refine Mod.alloc ?_ _ | refine Mod.set_l ?_ _ _ | refine Mod.set_r ?_ _ _))⟩


set_option maxHeartbeats 1000000 in
theorem len_c {a b : Nat} {s : MemS} {w : World} (hM : MemAt 142 w a b s) :
    Calls Try.prog 24 #[.pointer (some ⟨a, 0, none⟩)] w fun e w' => e = .returned (.int .i64 s.ws.length) ∧ MemAt 142 w' a b (s) ∧ Mod [a, b] w w' := by
  have ha := hM.lta
  have hb := hM.ltb
  have hn := hM.len
  have hne := hM.ne
  obtain ⟨h0, h1, h2, f1, f2⟩ := hM.cells
  go_enter Try.func24, Try.ntmps24
  go_wp2
  go_ret
  exact ⟨rfl, hM, Mod.refl _ _⟩


set_option maxHeartbeats 1000000 in
theorem count_c {a b : Nat} {s : MemS} {w : World} (hM : MemAt 142 w a b s) :
    Calls Try.prog 31 #[.pointer (some ⟨a, 0, none⟩)] w fun e w' => e = .returned (.int .i64 s.ct) ∧ MemAt 142 w' a b (s) ∧ Mod [a, b] w w' := by
  have ha := hM.lta
  have hb := hM.ltb
  have hn := hM.len
  have hne := hM.ne
  obtain ⟨h0, h1, h2, f1, f2⟩ := hM.cells
  go_enter Try.func31, Try.ntmps31
  go_wp2
  go_ret
  exact ⟨rfl, hM, Mod.refl _ _⟩


set_option maxHeartbeats 1000000 in
theorem open_r {a b : Nat} {s : MemS} {w : World} (hM : MemAt 148 w a b s) :
    Calls Try.prog 96 #[.pointer (some ⟨a, 0, none⟩)] w fun e w' => e = .returned (.tuple #[]) ∧ MemAt 148 w' a b (s.opened) ∧ Mod [a, b] w w' := by
  have ha := hM.lta
  have hb := hM.ltb
  have hn := hM.len
  have hne := hM.ne
  obtain ⟨h0, h1, h2, f1, f2⟩ := hM.cells
  go_enter Try.func96, Try.ntmps96
  go_wp2
  go_end0
  exact ⟨rfl, hM.opened, (by repeat (first | exact Mod.refl _ _ | refine Mod.drew ?_ | refine Mod.alloc ?_ _ | refine Mod.set_l ?_ _ _ | refine Mod.set_r ?_ _ _))⟩


set_option maxHeartbeats 1000000 in
theorem len_r {a b : Nat} {s : MemS} {w : World} (hM : MemAt 148 w a b s) :
    Calls Try.prog 44 #[.pointer (some ⟨a, 0, none⟩)] w fun e w' => e = .returned (.int .i64 s.ws.length) ∧ MemAt 148 w' a b (s) ∧ Mod [a, b] w w' := by
  have ha := hM.lta
  have hb := hM.ltb
  have hn := hM.len
  have hne := hM.ne
  obtain ⟨h0, h1, h2, f1, f2⟩ := hM.cells
  go_enter Try.func44, Try.ntmps44
  go_wp2
  go_ret
  exact ⟨rfl, hM, Mod.refl _ _⟩


set_option maxHeartbeats 1000000 in
theorem count_r {a b : Nat} {s : MemS} {w : World} (hM : MemAt 148 w a b s) :
    Calls Try.prog 43 #[.pointer (some ⟨a, 0, none⟩)] w fun e w' => e = .returned (.int .i64 s.ct) ∧ MemAt 148 w' a b (s) ∧ Mod [a, b] w w' := by
  have ha := hM.lta
  have hb := hM.ltb
  have hn := hM.len
  have hne := hM.ne
  obtain ⟨h0, h1, h2, f1, f2⟩ := hM.cells
  go_enter Try.func43, Try.ntmps43
  go_wp2
  go_ret
  exact ⟨rfl, hM, Mod.refl _ _⟩

end Go.Proofs.Ytobmgnoceacoaaa

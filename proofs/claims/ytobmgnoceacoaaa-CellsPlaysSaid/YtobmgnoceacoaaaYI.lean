/- CellsPlays: a step of a reading, of a writing, on both sides. -/
import Derived.Test.YtobmgnoceacoaaaYH
import Derived.Deep.QuietTactic
import Derived.BigQuiet
import Derived.Deep.DeepCutAuto
import Derived.Deep.CutBlock
import Derived.Deep.RegionHeld3
import Derived.StillTailTactics
import Derived.IntWalk
namespace Go.Proofs.Ytobmgnoceacoaaa
open Go.RowKit
attribute [local go_sem] run_store_float

variable {w0 w w1 w' : World} {lab lab' : Nat → Nat} {x a b c d k g n : Nat} {r0 r1 d0 d1 u0 u1 e0 e1 v : Value} {s t s' : MemS} {R0 R1 : Option RdS} {D0 D1 : Option (RdS × List Int)} {U0 U1 E0 E1 : Option WrS} {r r' : RdS} {q q' : WrS} {u : Value} {L L' : List Int} {kr : Nat}
def Kept11 (w0 : World) (x a b c d : Nat) (e : Ending) (w' : World) : Prop :=
  e = .returned (.bool true) ∧ ∃ lab r0 r1 d0 d1 u0 u1 e0 e1 s R0 R1 D0 D1 U0 U1 E0 E1, W11 w0 w' lab x a b c d r0 r1 d0 d1 u0 u1 e0 e1 s s R0 R1 D0 D1 U0 U1 E0 E1 ∧ CplR R0 D0 ∧ CplR R1 D1 ∧ CplW U0 E0 ∧ CplW U1 E1
theorem steps_q (h : RdRef w k r u L) {m : Int} (hm : (L.length : Int) = m) : Calls Try.prog 163 #[.pointer (some ⟨k, 0, none⟩)] w fun e w' => e = .returned (.int .i64 m) ∧ w' = w := by rw [← hm]; exact steps_r h
theorem RR.next {i : Nat} (h : RR w lab i v (some (r, L))) (s : MemS) : RR w lab i v (some (r.next s, L)) := by
  obtain ⟨k, u, h1, h2, h3, h4⟩ := h
  exact ⟨k, u, h1, h2.next s, h3, h4⟩

set_option maxRecDepth 100000 in
set_option maxHeartbeats 4000000 in
theorem reads_none0 (hx : w.heap[x]? = some (.cells #[.pointer (some ⟨a, 0, none⟩), .pointer (some ⟨c, 0, none⟩), .pointer none, r1, d0, d1, u0, u1, e0, e1] 136 (0, 0))) :
    Calls Try.prog 138 #[.pointer (some ⟨x, 0, none⟩), .int .i64 0] w fun e w' => e = .returned (.bool true) ∧ w' = w := by
  have x2 : w.cell? ⟨x, 2, none⟩ = some (.pointer none) := cell_of_blk hx rfl
  go_enter Try.func138, Try.ntmps138
  go_wp2
  go_ret
  exact ⟨rfl, rfl⟩
set_option maxRecDepth 100000 in
set_option maxHeartbeats 40000000 in
theorem reads_some0 (h : W11 w0 w lab x a b c d r0 r1 d0 d1 u0 u1 e0 e1 s s (some r) R1 (some (r, L)) D1 U0 U1 E0 E1) (hI : RInv r L) :
    Calls Try.prog 138 #[.pointer (some ⟨x, 0, none⟩), .int .i64 0] w fun e w' => e = .returned (.bool true) ∧ ∃ lab' k kr s' r' L', W11 w0 w' lab' x a b c d (.pointer (some ⟨k, 0, none⟩)) r1 (.pointer (some ⟨kr, 0, none⟩)) d1 u0 u1 e0 e1 s' s' (some r') R1 (some (r', L')) D1 U0 U1 E0 E1 ∧ RInv r' L' := by
  obtain ⟨k, rfl, K, lk⟩ := h.c_r0
  obtain ⟨kr, u, rfl, hr, lkr, lu⟩ := h.c_d0
  have hiv := hI.inv
  obtain ⟨hI2, ho⟩ := hI.step s
  obtain ⟨he, hm⟩ := hI.err s
  have HO := Lib.hid ho
  have HE := Lib.hid he
  have HM := Lib.hid hm
  have HL := Lib.hid hI.len
  clear ho he hm hI
  have x0 : w.cell? ⟨x, 0, none⟩ = some (.pointer (some ⟨a, 0, none⟩)) := cell_of_blk h.hx rfl
  have x2 : w.cell? ⟨x, 2, none⟩ = some (.pointer (some ⟨k, 0, none⟩)) := cell_of_blk h.hx rfl
  go_enter Try.func138, Try.ntmps138
  go_upto_region 3 with fail
  go_cut [5, 6] (fun A B wx => A = .bool (r.over s) ∧ B = .int .i64 (r.err s) ∧ W11 w0 wx lab x a b c d (.pointer (some ⟨k, 0, none⟩)) r1 (.pointer (some ⟨kr, 0, none⟩)) d1 u0 u1 e0 e1 (r.mem s) s (some (r.next s)) R1 (some (r, L)) D1 U0 U1 E0 E1)
  case first =>
    go_region_held3 (fun wx => wx.cell? ⟨x, 0, none⟩ = some (.pointer (some ⟨a, 0, none⟩)) ∧ wx.cell? ⟨x, 2, none⟩ = some (.pointer (some ⟨k, 0, none⟩))) (first | exact ⟨x0, x2⟩ | exact ⟨cell_of_blk H2.hx rfl, cell_of_blk H2.hx rfl⟩)
      (first | (go_at_call 78; refine (rstep_c h.m.drew r hiv K).mono ?_; rintro e w2 ⟨rfl, M2, K2, d2⟩; have H2 := (h.mod0 (Mod.refl _ _).drew).rdP0 lk M2 K2 d2))
    all_goals
      go_wp2_with fail
      go_meet
      exact ⟨rfl, rfl, H2⟩
  case rest =>
    obtain ⟨rfl, rfl, H3⟩ := hcut
    clear x0 x2 h K lk hr lkr lu hiv
    obtain ⟨w3, rfl⟩ : ∃ w3, w3 = wc := ⟨_, rfl⟩
    obtain ⟨kr', u, hkr, hr, lkr, lu⟩ := H3.c_d0
    obtain rfl : kr = kr' := by simpa using hkr
    clear hkr
    have x1 : w3.cell? ⟨x, 1, none⟩ = some (.pointer (some ⟨c, 0, none⟩)) := cell_of_blk H3.hx rfl
    have x4 : w3.cell? ⟨x, 4, none⟩ = some (.pointer (some ⟨kr, 0, none⟩)) := cell_of_blk H3.hx rfl
    have HU : Hid (∀ g, u.ownBlock = some g → g ≠ c ∧ g ≠ d) := Lib.hid (fun g hg => ⟨fun e => by have h1 := lu g hg; rw [e, H3.lc] at h1; exact absurd h1 (by decide), fun e => by have h1 := lu g hg; rw [e, H3.ld] at h1; exact absurd h1 (by decide)⟩)
    have HLU := Lib.hid lu
    clear lu
    go_upto_region 4 with fail
    go_cut [7, 8] (fun A B wx => A = .bool (r.over s) ∧ B = .int .i64 (r.err s) ∧ ∃ lab', W11 w0 wx lab' x a b c d (.pointer (some ⟨k, 0, none⟩)) r1 (.pointer (some ⟨kr, 0, none⟩)) d1 u0 u1 e0 e1 (r.mem s) (r.mem s) (some (r.next s)) R1 (some (r, refNext r L s)) D1 U0 U1 E0 E1)
    case first =>
      go_region_held3 (fun wx => wx.cell? ⟨x, 1, none⟩ = some (.pointer (some ⟨c, 0, none⟩)) ∧ wx.cell? ⟨x, 4, none⟩ = some (.pointer (some ⟨kr, 0, none⟩))) (first | exact ⟨x1, x4⟩ | exact ⟨cell_of_blk H4.hx rfl, cell_of_blk H4.hx rfl⟩)
        (first | (go_at_call 160; refine (rstep_r (hr.drewN 1) HL.out H3.r.drew HU.out).mono ?_; rintro e w4 ⟨rfl, Q4⟩; rw [HO.out, HE.out]; rw [HM.out] at Q4; have H4 := (H3.mod0 (Mod.refl _ _).drew).rdR0 lkr HLU.out (hr.drewN 1) Q4))
      all_goals
        go_wp2_with fail
        go_meet
        exact ⟨rfl, rfl, _, H4⟩
    case rest =>
      obtain ⟨rfl, rfl, lab4, H4⟩ := hcut
      clear x1 x4 H3 hr lkr HLU HU HO HE HM HL
      have C4 := H4.c_d0.next s
      have H5 : W11 w0 wc lab4 x a b c d (.pointer (some ⟨k, 0, none⟩)) r1 (.pointer (some ⟨kr, 0, none⟩)) d1 u0 u1 e0 e1 (r.mem s) (r.mem s) (some (r.next s)) R1 (some (r.next s, refNext r L s)) D1 U0 U1 E0 E1 := { H4 with c_d0 := C4 }
      clear H4 C4
      obtain ⟨w5, rfl⟩ : ∃ w5, w5 = wc := ⟨_, rfl⟩
      generalize r.next s = r5 at *
      generalize refNext r L s = L5 at *
      generalize r.mem s = s5 at *
      generalize r.over s = ov at *
      generalize r.err s = er at *
      obtain ⟨kr', u, hkr, hr, lkr, lu⟩ := H5.c_d0
      obtain rfl : kr = kr' := by simpa using hkr
      obtain ⟨k', hk, K, lk⟩ := H5.c_r0
      obtain rfl : k = k' := by simpa using hk
      clear hkr hk lkr lu lk
      have HV := Lib.hid hI2.value
      have HT := Lib.hid hI2.torn
      have HS := Lib.hid hI2.steps
      have HL := Lib.hid hI2.len
      have x4 : w5.cell? ⟨x, 4, none⟩ = some (.pointer (some ⟨kr, 0, none⟩)) := cell_of_blk H5.hx rfl
      go_wp2_with fail
      refine (value_r hr HL.out).mono ?_; rintro e w6 ⟨rfl, n6, rfl⟩
      rw [HV.out]
      have H6 := H5.mod0 ((Mod.refl _ _).drewN n6)
      have hr6 := hr.drewN n6
      have K6 : (w5.drewN n6).heap[k]? = some (.cells r5.arr 177 (0, 0)) := K
      clear H5 hr K x4
      generalize w5.drewN n6 = w6 at *
      have x4 : w6.cell? ⟨x, 4, none⟩ = some (.pointer (some ⟨kr, 0, none⟩)) := cell_of_blk H6.hx rfl
      go_wp2_with fail
      refine (torn_r hr6 HL.out).mono ?_; rintro e w7 ⟨rfl, n7, rfl⟩
      rw [HT.out]
      have H7 := H6.mod0 ((Mod.refl _ _).drewN n7)
      have hr7 := hr6.drewN n7
      have K7 : (w6.drewN n7).heap[k]? = some (.cells r5.arr 177 (0, 0)) := K6
      clear H6 hr6 K6 x4
      generalize w6.drewN n7 = w7 at *
      have x4 : w7.cell? ⟨x, 4, none⟩ = some (.pointer (some ⟨kr, 0, none⟩)) := cell_of_blk H7.hx rfl
      have x2 : w7.cell? ⟨x, 2, none⟩ = some (.pointer (some ⟨k, 0, none⟩)) := cell_of_blk H7.hx rfl
      go_upto_region 7 with fail
      go_quiet (first | (go_at_call 82; exact Calls.quiet_of_same (rvalue_c r5 K7)) | (go_at_call 81; exact Calls.quiet_of_same (exact_c _ _)) | (go_at_call 80; exact Calls.quiet_of_same (rsteps_c r5 K7)) | (go_at_call 163; exact Calls.quiet_of_same (steps_q (hr7.drewN _) HS.out)) | (go_at_call 84; exact Calls.quiet_of_same (rtorn_c r5 K7)))
      have H8 := Lib.hid (H7.mod0 ((Mod.refl _ _).drewN nq))
      clear H7 hr7 K7 x2 x4
      go_wp2
      go_ret
      exact ⟨by simp, _, _, _, _, _, _, H8.out, hI2⟩

set_option maxRecDepth 100000 in
set_option maxHeartbeats 4000000 in
theorem writes_none0 (hx : w.heap[x]? = some (.cells #[.pointer (some ⟨a, 0, none⟩), .pointer (some ⟨c, 0, none⟩), r0, r1, d0, d1, .pointer none, u1, e0, e1] 136 (0, 0))) :
    Calls Try.prog 139 #[.pointer (some ⟨x, 0, none⟩), .int .i64 0] w fun e w' => e = .returned (.bool true) ∧ w' = w := by
  have x2 : w.cell? ⟨x, 6, none⟩ = some (.pointer none) := cell_of_blk hx rfl
  go_enter Try.func139, Try.ntmps139
  go_wp2
  go_ret
  exact ⟨rfl, rfl⟩
set_option maxRecDepth 100000 in
set_option maxHeartbeats 40000000 in
theorem writes_some0 (h : W11 w0 w lab x a b c d r0 r1 d0 d1 u0 u1 e0 e1 s s R0 R1 D0 D1 (some q) U1 (some q) E1) (hiv : q.Inv) :
    Calls Try.prog 139 #[.pointer (some ⟨x, 0, none⟩), .int .i64 0] w fun e w' => e = .returned (.bool true) ∧ ∃ k kr s' q', W11 w0 w' lab x a b c d r0 r1 d0 d1 (.pointer (some ⟨k, 0, none⟩)) u1 (.pointer (some ⟨kr, 0, none⟩)) e1 s' s' R0 R1 D0 D1 (some q') U1 (some q') E1 ∧ q'.Inv := by
  obtain ⟨k, rfl, K, lk⟩ := h.c_u0
  obtain ⟨kr, g, rfl, hr, lkr, lu⟩ := h.c_e0
  have hiv2 := WrS.next_inv hiv s
  have x0 : w.cell? ⟨x, 0, none⟩ = some (.pointer (some ⟨a, 0, none⟩)) := cell_of_blk h.hx rfl
  have x2 : w.cell? ⟨x, 6, none⟩ = some (.pointer (some ⟨k, 0, none⟩)) := cell_of_blk h.hx rfl
  go_enter Try.func139, Try.ntmps139
  go_upto_region 3 with fail
  go_cut [5, 6] (fun A B wx => A = .bool (q.over s) ∧ B = .int .i64 (q.err s) ∧ W11 w0 wx lab x a b c d r0 r1 d0 d1 (.pointer (some ⟨k, 0, none⟩)) u1 (.pointer (some ⟨kr, 0, none⟩)) e1 (q.mem s) s R0 R1 D0 D1 (some (q.next s)) U1 (some q) E1)
  case first =>
    go_region_held3 (fun wx => wx.cell? ⟨x, 0, none⟩ = some (.pointer (some ⟨a, 0, none⟩)) ∧ wx.cell? ⟨x, 6, none⟩ = some (.pointer (some ⟨k, 0, none⟩))) (first | exact ⟨x0, x2⟩ | exact ⟨cell_of_blk H2.hx rfl, cell_of_blk H2.hx rfl⟩)
      (first | (go_at_call 79; refine (wstep_c h.m.drew q hiv K).mono ?_; rintro e w2 ⟨rfl, M2, K2, d2⟩; have H2 := (h.mod0 (Mod.refl _ _).drew).wrP0 lk M2 K2 d2))
    all_goals
      go_wp2_with fail
      go_meet
      exact ⟨rfl, rfl, H2⟩
  case rest =>
    obtain ⟨rfl, rfl, H3⟩ := hcut
    clear x0 x2 h K lk hr lkr lu
    obtain ⟨w3, rfl⟩ : ∃ w3, w3 = wc := ⟨_, rfl⟩
    obtain ⟨kr', g, hkr, hr, lkr, lu⟩ := H3.c_e0
    obtain rfl : kr = kr' := by simpa using hkr
    clear hkr
    have x1 : w3.cell? ⟨x, 1, none⟩ = some (.pointer (some ⟨c, 0, none⟩)) := cell_of_blk H3.hx rfl
    have x4 : w3.cell? ⟨x, 8, none⟩ = some (.pointer (some ⟨kr, 0, none⟩)) := cell_of_blk H3.hx rfl
    have HU : Hid (g ≠ c ∧ g ≠ d) := Lib.hid ⟨fun e => by have h1 := lu; rw [e, H3.lc] at h1; exact absurd h1 (by decide), fun e => by have h1 := lu; rw [e, H3.ld] at h1; exact absurd h1 (by decide)⟩
    go_upto_region 4 with fail
    go_cut [7, 8] (fun A B wx => A = .bool (q.over s) ∧ B = .int .i64 (q.err s) ∧ W11 w0 wx lab x a b c d r0 r1 d0 d1 (.pointer (some ⟨k, 0, none⟩)) u1 (.pointer (some ⟨kr, 0, none⟩)) e1 (q.mem s) (q.mem s) R0 R1 D0 D1 (some (q.next s)) U1 (some (q.next s)) E1)
    case first =>
      go_region_held3 (fun wx => wx.cell? ⟨x, 1, none⟩ = some (.pointer (some ⟨c, 0, none⟩)) ∧ wx.cell? ⟨x, 8, none⟩ = some (.pointer (some ⟨kr, 0, none⟩))) (first | exact ⟨x1, x4⟩ | exact ⟨cell_of_blk H4.hx rfl, cell_of_blk H4.hx rfl⟩)
        (first | (go_at_call 164; refine (wstep_r (hr.drewN 1) hiv H3.r.drew HU.out.1 HU.out.2).mono ?_; rintro e w4 ⟨rfl, M4, Q4, d4⟩; have H4 := (H3.mod0 (Mod.refl _ _).drew).wrR0 lkr lu M4 Q4 d4))
      all_goals
        go_wp2_with fail
        go_meet
        exact ⟨rfl, rfl, H4⟩
    case rest =>
      obtain ⟨rfl, rfl, H4⟩ := hcut
      clear x1 x4 H3 hr lkr lu HU
      generalize q.over s = ov at *
      generalize q.err s = er at *
      have H8 := Lib.hid H4
      clear H4
      go_wp2
      go_ret
      exact ⟨by simp, _, _, _, _, H8.out, hiv2⟩

set_option maxRecDepth 100000 in
set_option maxHeartbeats 4000000 in
theorem reads_none1 (hx : w.heap[x]? = some (.cells #[.pointer (some ⟨a, 0, none⟩), .pointer (some ⟨c, 0, none⟩), r0, .pointer none, d0, d1, u0, u1, e0, e1] 136 (0, 0))) :
    Calls Try.prog 138 #[.pointer (some ⟨x, 0, none⟩), .int .i64 1] w fun e w' => e = .returned (.bool true) ∧ w' = w := by
  have x2 : w.cell? ⟨x, 3, none⟩ = some (.pointer none) := cell_of_blk hx rfl
  go_enter Try.func138, Try.ntmps138
  go_wp2
  go_ret
  exact ⟨rfl, rfl⟩
set_option maxRecDepth 100000 in
set_option maxHeartbeats 40000000 in
theorem reads_some1 (h : W11 w0 w lab x a b c d r0 r1 d0 d1 u0 u1 e0 e1 s s R0 (some r) D0 (some (r, L)) U0 U1 E0 E1) (hI : RInv r L) :
    Calls Try.prog 138 #[.pointer (some ⟨x, 0, none⟩), .int .i64 1] w fun e w' => e = .returned (.bool true) ∧ ∃ lab' k kr s' r' L', W11 w0 w' lab' x a b c d r0 (.pointer (some ⟨k, 0, none⟩)) d0 (.pointer (some ⟨kr, 0, none⟩)) u0 u1 e0 e1 s' s' R0 (some r') D0 (some (r', L')) U0 U1 E0 E1 ∧ RInv r' L' := by
  obtain ⟨k, rfl, K, lk⟩ := h.c_r1
  obtain ⟨kr, u, rfl, hr, lkr, lu⟩ := h.c_d1
  have hiv := hI.inv
  obtain ⟨hI2, ho⟩ := hI.step s
  obtain ⟨he, hm⟩ := hI.err s
  have HO := Lib.hid ho
  have HE := Lib.hid he
  have HM := Lib.hid hm
  have HL := Lib.hid hI.len
  clear ho he hm hI
  have x0 : w.cell? ⟨x, 0, none⟩ = some (.pointer (some ⟨a, 0, none⟩)) := cell_of_blk h.hx rfl
  have x2 : w.cell? ⟨x, 3, none⟩ = some (.pointer (some ⟨k, 0, none⟩)) := cell_of_blk h.hx rfl
  go_enter Try.func138, Try.ntmps138
  go_upto_region 3 with fail
  go_cut [5, 6] (fun A B wx => A = .bool (r.over s) ∧ B = .int .i64 (r.err s) ∧ W11 w0 wx lab x a b c d r0 (.pointer (some ⟨k, 0, none⟩)) d0 (.pointer (some ⟨kr, 0, none⟩)) u0 u1 e0 e1 (r.mem s) s R0 (some (r.next s)) D0 (some (r, L)) U0 U1 E0 E1)
  case first =>
    go_region_held3 (fun wx => wx.cell? ⟨x, 0, none⟩ = some (.pointer (some ⟨a, 0, none⟩)) ∧ wx.cell? ⟨x, 3, none⟩ = some (.pointer (some ⟨k, 0, none⟩))) (first | exact ⟨x0, x2⟩ | exact ⟨cell_of_blk H2.hx rfl, cell_of_blk H2.hx rfl⟩)
      (first | (go_at_call 78; refine (rstep_c h.m.drew r hiv K).mono ?_; rintro e w2 ⟨rfl, M2, K2, d2⟩; have H2 := (h.mod0 (Mod.refl _ _).drew).rdP1 lk M2 K2 d2))
    all_goals
      go_wp2_with fail
      go_meet
      exact ⟨rfl, rfl, H2⟩
  case rest =>
    obtain ⟨rfl, rfl, H3⟩ := hcut
    clear x0 x2 h K lk hr lkr lu hiv
    obtain ⟨w3, rfl⟩ : ∃ w3, w3 = wc := ⟨_, rfl⟩
    obtain ⟨kr', u, hkr, hr, lkr, lu⟩ := H3.c_d1
    obtain rfl : kr = kr' := by simpa using hkr
    clear hkr
    have x1 : w3.cell? ⟨x, 1, none⟩ = some (.pointer (some ⟨c, 0, none⟩)) := cell_of_blk H3.hx rfl
    have x4 : w3.cell? ⟨x, 5, none⟩ = some (.pointer (some ⟨kr, 0, none⟩)) := cell_of_blk H3.hx rfl
    have HU : Hid (∀ g, u.ownBlock = some g → g ≠ c ∧ g ≠ d) := Lib.hid (fun g hg => ⟨fun e => by have h1 := lu g hg; rw [e, H3.lc] at h1; exact absurd h1 (by decide), fun e => by have h1 := lu g hg; rw [e, H3.ld] at h1; exact absurd h1 (by decide)⟩)
    have HLU := Lib.hid lu
    clear lu
    go_upto_region 4 with fail
    go_cut [7, 8] (fun A B wx => A = .bool (r.over s) ∧ B = .int .i64 (r.err s) ∧ ∃ lab', W11 w0 wx lab' x a b c d r0 (.pointer (some ⟨k, 0, none⟩)) d0 (.pointer (some ⟨kr, 0, none⟩)) u0 u1 e0 e1 (r.mem s) (r.mem s) R0 (some (r.next s)) D0 (some (r, refNext r L s)) U0 U1 E0 E1)
    case first =>
      go_region_held3 (fun wx => wx.cell? ⟨x, 1, none⟩ = some (.pointer (some ⟨c, 0, none⟩)) ∧ wx.cell? ⟨x, 5, none⟩ = some (.pointer (some ⟨kr, 0, none⟩))) (first | exact ⟨x1, x4⟩ | exact ⟨cell_of_blk H4.hx rfl, cell_of_blk H4.hx rfl⟩)
        (first | (go_at_call 160; refine (rstep_r (hr.drewN 1) HL.out H3.r.drew HU.out).mono ?_; rintro e w4 ⟨rfl, Q4⟩; rw [HO.out, HE.out]; rw [HM.out] at Q4; have H4 := (H3.mod0 (Mod.refl _ _).drew).rdR1 lkr HLU.out (hr.drewN 1) Q4))
      all_goals
        go_wp2_with fail
        go_meet
        exact ⟨rfl, rfl, _, H4⟩
    case rest =>
      obtain ⟨rfl, rfl, lab4, H4⟩ := hcut
      clear x1 x4 H3 hr lkr HLU HU HO HE HM HL
      have C4 := H4.c_d1.next s
      have H5 : W11 w0 wc lab4 x a b c d r0 (.pointer (some ⟨k, 0, none⟩)) d0 (.pointer (some ⟨kr, 0, none⟩)) u0 u1 e0 e1 (r.mem s) (r.mem s) R0 (some (r.next s)) D0 (some (r.next s, refNext r L s)) U0 U1 E0 E1 := { H4 with c_d1 := C4 }
      clear H4 C4
      obtain ⟨w5, rfl⟩ : ∃ w5, w5 = wc := ⟨_, rfl⟩
      generalize r.next s = r5 at *
      generalize refNext r L s = L5 at *
      generalize r.mem s = s5 at *
      generalize r.over s = ov at *
      generalize r.err s = er at *
      obtain ⟨kr', u, hkr, hr, lkr, lu⟩ := H5.c_d1
      obtain rfl : kr = kr' := by simpa using hkr
      obtain ⟨k', hk, K, lk⟩ := H5.c_r1
      obtain rfl : k = k' := by simpa using hk
      clear hkr hk lkr lu lk
      have HV := Lib.hid hI2.value
      have HT := Lib.hid hI2.torn
      have HS := Lib.hid hI2.steps
      have HL := Lib.hid hI2.len
      have x4 : w5.cell? ⟨x, 5, none⟩ = some (.pointer (some ⟨kr, 0, none⟩)) := cell_of_blk H5.hx rfl
      go_wp2_with fail
      refine (value_r hr HL.out).mono ?_; rintro e w6 ⟨rfl, n6, rfl⟩
      rw [HV.out]
      have H6 := H5.mod0 ((Mod.refl _ _).drewN n6)
      have hr6 := hr.drewN n6
      have K6 : (w5.drewN n6).heap[k]? = some (.cells r5.arr 177 (0, 0)) := K
      clear H5 hr K x4
      generalize w5.drewN n6 = w6 at *
      have x4 : w6.cell? ⟨x, 5, none⟩ = some (.pointer (some ⟨kr, 0, none⟩)) := cell_of_blk H6.hx rfl
      go_wp2_with fail
      refine (torn_r hr6 HL.out).mono ?_; rintro e w7 ⟨rfl, n7, rfl⟩
      rw [HT.out]
      have H7 := H6.mod0 ((Mod.refl _ _).drewN n7)
      have hr7 := hr6.drewN n7
      have K7 : (w6.drewN n7).heap[k]? = some (.cells r5.arr 177 (0, 0)) := K6
      clear H6 hr6 K6 x4
      generalize w6.drewN n7 = w7 at *
      have x4 : w7.cell? ⟨x, 5, none⟩ = some (.pointer (some ⟨kr, 0, none⟩)) := cell_of_blk H7.hx rfl
      have x2 : w7.cell? ⟨x, 3, none⟩ = some (.pointer (some ⟨k, 0, none⟩)) := cell_of_blk H7.hx rfl
      go_upto_region 7 with fail
      go_quiet (first | (go_at_call 82; exact Calls.quiet_of_same (rvalue_c r5 K7)) | (go_at_call 81; exact Calls.quiet_of_same (exact_c _ _)) | (go_at_call 80; exact Calls.quiet_of_same (rsteps_c r5 K7)) | (go_at_call 163; exact Calls.quiet_of_same (steps_q (hr7.drewN _) HS.out)) | (go_at_call 84; exact Calls.quiet_of_same (rtorn_c r5 K7)))
      have H8 := Lib.hid (H7.mod0 ((Mod.refl _ _).drewN nq))
      clear H7 hr7 K7 x2 x4
      go_wp2
      go_ret
      exact ⟨by simp, _, _, _, _, _, _, H8.out, hI2⟩

set_option maxRecDepth 100000 in
set_option maxHeartbeats 4000000 in
theorem writes_none1 (hx : w.heap[x]? = some (.cells #[.pointer (some ⟨a, 0, none⟩), .pointer (some ⟨c, 0, none⟩), r0, r1, d0, d1, u0, .pointer none, e0, e1] 136 (0, 0))) :
    Calls Try.prog 139 #[.pointer (some ⟨x, 0, none⟩), .int .i64 1] w fun e w' => e = .returned (.bool true) ∧ w' = w := by
  have x2 : w.cell? ⟨x, 7, none⟩ = some (.pointer none) := cell_of_blk hx rfl
  go_enter Try.func139, Try.ntmps139
  go_wp2
  go_ret
  exact ⟨rfl, rfl⟩
set_option maxRecDepth 100000 in
set_option maxHeartbeats 40000000 in
theorem writes_some1 (h : W11 w0 w lab x a b c d r0 r1 d0 d1 u0 u1 e0 e1 s s R0 R1 D0 D1 U0 (some q) E0 (some q)) (hiv : q.Inv) :
    Calls Try.prog 139 #[.pointer (some ⟨x, 0, none⟩), .int .i64 1] w fun e w' => e = .returned (.bool true) ∧ ∃ k kr s' q', W11 w0 w' lab x a b c d r0 r1 d0 d1 u0 (.pointer (some ⟨k, 0, none⟩)) e0 (.pointer (some ⟨kr, 0, none⟩)) s' s' R0 R1 D0 D1 U0 (some q') E0 (some q') ∧ q'.Inv := by
  obtain ⟨k, rfl, K, lk⟩ := h.c_u1
  obtain ⟨kr, g, rfl, hr, lkr, lu⟩ := h.c_e1
  have hiv2 := WrS.next_inv hiv s
  have x0 : w.cell? ⟨x, 0, none⟩ = some (.pointer (some ⟨a, 0, none⟩)) := cell_of_blk h.hx rfl
  have x2 : w.cell? ⟨x, 7, none⟩ = some (.pointer (some ⟨k, 0, none⟩)) := cell_of_blk h.hx rfl
  go_enter Try.func139, Try.ntmps139
  go_upto_region 3 with fail
  go_cut [5, 6] (fun A B wx => A = .bool (q.over s) ∧ B = .int .i64 (q.err s) ∧ W11 w0 wx lab x a b c d r0 r1 d0 d1 u0 (.pointer (some ⟨k, 0, none⟩)) e0 (.pointer (some ⟨kr, 0, none⟩)) (q.mem s) s R0 R1 D0 D1 U0 (some (q.next s)) E0 (some q))
  case first =>
    go_region_held3 (fun wx => wx.cell? ⟨x, 0, none⟩ = some (.pointer (some ⟨a, 0, none⟩)) ∧ wx.cell? ⟨x, 7, none⟩ = some (.pointer (some ⟨k, 0, none⟩))) (first | exact ⟨x0, x2⟩ | exact ⟨cell_of_blk H2.hx rfl, cell_of_blk H2.hx rfl⟩)
      (first | (go_at_call 79; refine (wstep_c h.m.drew q hiv K).mono ?_; rintro e w2 ⟨rfl, M2, K2, d2⟩; have H2 := (h.mod0 (Mod.refl _ _).drew).wrP1 lk M2 K2 d2))
    all_goals
      go_wp2_with fail
      go_meet
      exact ⟨rfl, rfl, H2⟩
  case rest =>
    obtain ⟨rfl, rfl, H3⟩ := hcut
    clear x0 x2 h K lk hr lkr lu
    obtain ⟨w3, rfl⟩ : ∃ w3, w3 = wc := ⟨_, rfl⟩
    obtain ⟨kr', g, hkr, hr, lkr, lu⟩ := H3.c_e1
    obtain rfl : kr = kr' := by simpa using hkr
    clear hkr
    have x1 : w3.cell? ⟨x, 1, none⟩ = some (.pointer (some ⟨c, 0, none⟩)) := cell_of_blk H3.hx rfl
    have x4 : w3.cell? ⟨x, 9, none⟩ = some (.pointer (some ⟨kr, 0, none⟩)) := cell_of_blk H3.hx rfl
    have HU : Hid (g ≠ c ∧ g ≠ d) := Lib.hid ⟨fun e => by have h1 := lu; rw [e, H3.lc] at h1; exact absurd h1 (by decide), fun e => by have h1 := lu; rw [e, H3.ld] at h1; exact absurd h1 (by decide)⟩
    go_upto_region 4 with fail
    go_cut [7, 8] (fun A B wx => A = .bool (q.over s) ∧ B = .int .i64 (q.err s) ∧ W11 w0 wx lab x a b c d r0 r1 d0 d1 u0 (.pointer (some ⟨k, 0, none⟩)) e0 (.pointer (some ⟨kr, 0, none⟩)) (q.mem s) (q.mem s) R0 R1 D0 D1 U0 (some (q.next s)) E0 (some (q.next s)))
    case first =>
      go_region_held3 (fun wx => wx.cell? ⟨x, 1, none⟩ = some (.pointer (some ⟨c, 0, none⟩)) ∧ wx.cell? ⟨x, 9, none⟩ = some (.pointer (some ⟨kr, 0, none⟩))) (first | exact ⟨x1, x4⟩ | exact ⟨cell_of_blk H4.hx rfl, cell_of_blk H4.hx rfl⟩)
        (first | (go_at_call 164; refine (wstep_r (hr.drewN 1) hiv H3.r.drew HU.out.1 HU.out.2).mono ?_; rintro e w4 ⟨rfl, M4, Q4, d4⟩; have H4 := (H3.mod0 (Mod.refl _ _).drew).wrR1 lkr lu M4 Q4 d4))
      all_goals
        go_wp2_with fail
        go_meet
        exact ⟨rfl, rfl, H4⟩
    case rest =>
      obtain ⟨rfl, rfl, H4⟩ := hcut
      clear x1 x4 H3 hr lkr lu HU
      generalize q.over s = ov at *
      generalize q.err s = er at *
      have H8 := Lib.hid H4
      clear H4
      go_wp2
      go_ret
      exact ⟨by simp, _, _, _, _, H8.out, hiv2⟩

end Go.Proofs.Ytobmgnoceacoaaa

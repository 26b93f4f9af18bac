/- CellsPlays: clones go on. -/
import Derived.Test.YtobmgnoceacoaaaYI
import Derived.Test.YtobmgnoceacoaaaMC
import Derived.Deep.QuietTactic
import Derived.BigQuiet
import Derived.Deep.DeepCutAuto
import Derived.Deep.CutBlock
import Derived.Deep.RegionHeld3
import Derived.StillTailTactics
import Derived.IntWalk
namespace Go.Proofs.Ytobmgnoceacoaaa
open Go.RowKit
attribute [local go_sem] run_store_float

variable {w0 w w1 w' : World} {lab lab' : Nat → Nat} {x a b c d k g n : Nat} {r0 r1 d0 d1 u0 u1 e0 e1 v : Value} {s t s' : MemS} {R0 R1 : Option RdS} {D0 D1 : Option (RdS × List Int)} {U0 U1 E0 E1 : Option WrS} {r r' : RdS} {q q' : WrS} {u : Value} {L L' : List Int} {kr a2 b2 : Nat} {s2 : MemS}

theorem W11.memO (h : W11 w0 w lab x a b c d r0 r1 d0 d1 u0 u1 e0 e1 s t R0 R1 D0 D1 U0 U1 E0 E1) (l2 : lab a2 = 12) (l3 : lab b2 = 12) (q : Mod [a2, b2] w w') : W11 w0 w' lab x a b c d r0 r1 d0 d1 u0 u1 e0 e1 s t R0 R1 D0 D1 U0 U1 E0 E1 := by
  have HOn : Only [a2, b2] w lab [12] := by
    intro n hn _
    simp only [List.mem_cons, List.not_mem_nil, or_false] at hn
    rcases hn with rfl | rfl
    · rw [l2]; decide
    · rw [l3]; decide
  have HA : Agree w lab (lab) := agree_self
  have HO : Only [a2, b2] w lab [12] := HOn
  exact ⟨q.at h.hx (HO.nin (i := 2) (by decide) h.lx (lt_of_block h.hx)), h.m.mod q (HO.nin (i := 0) (by decide) h.la h.m.lta) (HO.nin (i := 0) (by decide) h.lb h.m.ltb), h.r.mod q (HO.nin (i := 1) (by decide) h.lc h.r.lta) (HO.nin (i := 1) (by decide) h.ld h.r.ltb), (HA _ (lt_of_block h.hx)).trans h.lx, (HA _ (h.m.lta)).trans h.la, (HA _ (h.m.ltb)).trans h.lb, (HA _ (h.r.lta)).trans h.lc, (HA _ (h.r.ltb)).trans h.ld, h.c_r0.carry q HO (by decide) HA, h.c_r1.carry q HO (by decide) HA, h.c_d0.carry q HO (by decide) HA, h.c_d1.carry q HO (by decide) HA, h.c_u0.carry q HO (by decide) HA, h.c_u1.carry q HO (by decide) HA, h.c_e0.carry q HO (by decide) HA, h.c_e1.carry q HO (by decide) HA, fun n hn => (HA n (Nat.lt_of_lt_of_le hn h.fr.size)).trans (h.old n hn), h.fr.then q (fun n hn => by by_cases hl : n < w.heap.size; exact .inr (h.ge (by have := HO n hn hl; intro e; rw [e] at this; exact absurd this (by decide))); exact .inr (Nat.le_trans h.fr.size (by omega)))⟩

theorem W11.o_r0 (h : W11 w0 w lab x a b c d (.pointer (some ⟨k, 0, none⟩)) r1 d0 d1 u0 u1 e0 e1 s t R0 R1 D0 D1 U0 U1 E0 E1) (l2 : lab a2 = 12) (l3 : lab b2 = 12) (lk : lab k = 3) (hk : w'.heap[k]? = some (.cells r'.arr 177 (0, 0))) (md : Mod [a2, b2, k] w w') : W11 w0 w' lab x a b c d (.pointer (some ⟨k, 0, none⟩)) r1 d0 d1 u0 u1 e0 e1 s t (some r') R1 D0 D1 U0 U1 E0 E1 := by
  have HOn : Only [a2, b2, k] w lab [3, 12] := by
    intro n hn _
    simp only [List.mem_cons, List.not_mem_nil, or_false] at hn
    rcases hn with rfl | rfl | rfl
    · rw [l2]; decide
    · rw [l3]; decide
    · rw [lk]; decide
  have HA : Agree w lab (lab) := agree_self
  have HO : Only [a2, b2, k] w lab [3, 12] := HOn
  exact ⟨md.at h.hx (HO.nin (i := 2) (by decide) h.lx (lt_of_block h.hx)), h.m.mod md (HO.nin (i := 0) (by decide) h.la h.m.lta) (HO.nin (i := 0) (by decide) h.lb h.m.ltb), h.r.mod md (HO.nin (i := 1) (by decide) h.lc h.r.lta) (HO.nin (i := 1) (by decide) h.ld h.r.ltb), (HA _ (lt_of_block h.hx)).trans h.lx, (HA _ (h.m.lta)).trans h.la, (HA _ (h.m.ltb)).trans h.lb, (HA _ (h.r.lta)).trans h.lc, (HA _ (h.r.ltb)).trans h.ld, ⟨k, rfl, hk, lk⟩, h.c_r1.carry md HO (by decide) HA, h.c_d0.carry md HO (by decide) HA, h.c_d1.carry md HO (by decide) HA, h.c_u0.carry md HO (by decide) HA, h.c_u1.carry md HO (by decide) HA, h.c_e0.carry md HO (by decide) HA, h.c_e1.carry md HO (by decide) HA, fun n hn => (HA n (Nat.lt_of_lt_of_le hn h.fr.size)).trans (h.old n hn), h.fr.then md (fun n hn => by by_cases hl : n < w.heap.size; exact .inr (h.ge (by have := HO n hn hl; intro e; rw [e] at this; exact absurd this (by decide))); exact .inr (Nat.le_trans h.fr.size (by omega)))⟩

theorem W11.o_u0 (h : W11 w0 w lab x a b c d r0 r1 d0 d1 (.pointer (some ⟨k, 0, none⟩)) u1 e0 e1 s t R0 R1 D0 D1 U0 U1 E0 E1) (l2 : lab a2 = 12) (l3 : lab b2 = 12) (lk : lab k = 7) (hk : w'.heap[k]? = some (.cells q'.arr 180 (0, 0))) (md : Mod [a2, b2, k] w w') : W11 w0 w' lab x a b c d r0 r1 d0 d1 (.pointer (some ⟨k, 0, none⟩)) u1 e0 e1 s t R0 R1 D0 D1 (some q') U1 E0 E1 := by
  have HOn : Only [a2, b2, k] w lab [7, 12] := by
    intro n hn _
    simp only [List.mem_cons, List.not_mem_nil, or_false] at hn
    rcases hn with rfl | rfl | rfl
    · rw [l2]; decide
    · rw [l3]; decide
    · rw [lk]; decide
  have HA : Agree w lab (lab) := agree_self
  have HO : Only [a2, b2, k] w lab [7, 12] := HOn
  exact ⟨md.at h.hx (HO.nin (i := 2) (by decide) h.lx (lt_of_block h.hx)), h.m.mod md (HO.nin (i := 0) (by decide) h.la h.m.lta) (HO.nin (i := 0) (by decide) h.lb h.m.ltb), h.r.mod md (HO.nin (i := 1) (by decide) h.lc h.r.lta) (HO.nin (i := 1) (by decide) h.ld h.r.ltb), (HA _ (lt_of_block h.hx)).trans h.lx, (HA _ (h.m.lta)).trans h.la, (HA _ (h.m.ltb)).trans h.lb, (HA _ (h.r.lta)).trans h.lc, (HA _ (h.r.ltb)).trans h.ld, h.c_r0.carry md HO (by decide) HA, h.c_r1.carry md HO (by decide) HA, h.c_d0.carry md HO (by decide) HA, h.c_d1.carry md HO (by decide) HA, ⟨k, rfl, hk, lk⟩, h.c_u1.carry md HO (by decide) HA, h.c_e0.carry md HO (by decide) HA, h.c_e1.carry md HO (by decide) HA, fun n hn => (HA n (Nat.lt_of_lt_of_le hn h.fr.size)).trans (h.old n hn), h.fr.then md (fun n hn => by by_cases hl : n < w.heap.size; exact .inr (h.ge (by have := HO n hn hl; intro e; rw [e] at this; exact absurd this (by decide))); exact .inr (Nat.le_trans h.fr.size (by omega)))⟩

theorem W11.o_r1 (h : W11 w0 w lab x a b c d r0 (.pointer (some ⟨k, 0, none⟩)) d0 d1 u0 u1 e0 e1 s t R0 R1 D0 D1 U0 U1 E0 E1) (l2 : lab a2 = 12) (l3 : lab b2 = 12) (lk : lab k = 4) (hk : w'.heap[k]? = some (.cells r'.arr 177 (0, 0))) (md : Mod [a2, b2, k] w w') : W11 w0 w' lab x a b c d r0 (.pointer (some ⟨k, 0, none⟩)) d0 d1 u0 u1 e0 e1 s t R0 (some r') D0 D1 U0 U1 E0 E1 := by
  have HOn : Only [a2, b2, k] w lab [4, 12] := by
    intro n hn _
    simp only [List.mem_cons, List.not_mem_nil, or_false] at hn
    rcases hn with rfl | rfl | rfl
    · rw [l2]; decide
    · rw [l3]; decide
    · rw [lk]; decide
  have HA : Agree w lab (lab) := agree_self
  have HO : Only [a2, b2, k] w lab [4, 12] := HOn
  exact ⟨md.at h.hx (HO.nin (i := 2) (by decide) h.lx (lt_of_block h.hx)), h.m.mod md (HO.nin (i := 0) (by decide) h.la h.m.lta) (HO.nin (i := 0) (by decide) h.lb h.m.ltb), h.r.mod md (HO.nin (i := 1) (by decide) h.lc h.r.lta) (HO.nin (i := 1) (by decide) h.ld h.r.ltb), (HA _ (lt_of_block h.hx)).trans h.lx, (HA _ (h.m.lta)).trans h.la, (HA _ (h.m.ltb)).trans h.lb, (HA _ (h.r.lta)).trans h.lc, (HA _ (h.r.ltb)).trans h.ld, h.c_r0.carry md HO (by decide) HA, ⟨k, rfl, hk, lk⟩, h.c_d0.carry md HO (by decide) HA, h.c_d1.carry md HO (by decide) HA, h.c_u0.carry md HO (by decide) HA, h.c_u1.carry md HO (by decide) HA, h.c_e0.carry md HO (by decide) HA, h.c_e1.carry md HO (by decide) HA, fun n hn => (HA n (Nat.lt_of_lt_of_le hn h.fr.size)).trans (h.old n hn), h.fr.then md (fun n hn => by by_cases hl : n < w.heap.size; exact .inr (h.ge (by have := HO n hn hl; intro e; rw [e] at this; exact absurd this (by decide))); exact .inr (Nat.le_trans h.fr.size (by omega)))⟩

theorem W11.o_u1 (h : W11 w0 w lab x a b c d r0 r1 d0 d1 u0 (.pointer (some ⟨k, 0, none⟩)) e0 e1 s t R0 R1 D0 D1 U0 U1 E0 E1) (l2 : lab a2 = 12) (l3 : lab b2 = 12) (lk : lab k = 8) (hk : w'.heap[k]? = some (.cells q'.arr 180 (0, 0))) (md : Mod [a2, b2, k] w w') : W11 w0 w' lab x a b c d r0 r1 d0 d1 u0 (.pointer (some ⟨k, 0, none⟩)) e0 e1 s t R0 R1 D0 D1 U0 (some q') E0 E1 := by
  have HOn : Only [a2, b2, k] w lab [8, 12] := by
    intro n hn _
    simp only [List.mem_cons, List.not_mem_nil, or_false] at hn
    rcases hn with rfl | rfl | rfl
    · rw [l2]; decide
    · rw [l3]; decide
    · rw [lk]; decide
  have HA : Agree w lab (lab) := agree_self
  have HO : Only [a2, b2, k] w lab [8, 12] := HOn
  exact ⟨md.at h.hx (HO.nin (i := 2) (by decide) h.lx (lt_of_block h.hx)), h.m.mod md (HO.nin (i := 0) (by decide) h.la h.m.lta) (HO.nin (i := 0) (by decide) h.lb h.m.ltb), h.r.mod md (HO.nin (i := 1) (by decide) h.lc h.r.lta) (HO.nin (i := 1) (by decide) h.ld h.r.ltb), (HA _ (lt_of_block h.hx)).trans h.lx, (HA _ (h.m.lta)).trans h.la, (HA _ (h.m.ltb)).trans h.lb, (HA _ (h.r.lta)).trans h.lc, (HA _ (h.r.ltb)).trans h.ld, h.c_r0.carry md HO (by decide) HA, h.c_r1.carry md HO (by decide) HA, h.c_d0.carry md HO (by decide) HA, h.c_d1.carry md HO (by decide) HA, h.c_u0.carry md HO (by decide) HA, ⟨k, rfl, hk, lk⟩, h.c_e0.carry md HO (by decide) HA, h.c_e1.carry md HO (by decide) HA, fun n hn => (HA n (Nat.lt_of_lt_of_le hn h.fr.size)).trans (h.old n hn), h.fr.then md (fun n hn => by by_cases hl : n < w.heap.size; exact .inr (h.ge (by have := HO n hn hl; intro e; rw [e] at this; exact absurd this (by decide))); exact .inr (Nat.le_trans h.fr.size (by omega)))⟩

set_option maxRecDepth 100000 in
set_option maxHeartbeats 4000000 in
theorem rclone (r : RdS) (hk : w.heap[k]? = some (.cells r.arr 177 (0, 0))) : Calls Try.prog 165 #[.pointer (some ⟨k, 0, none⟩)] w fun e w' => ∃ n, e = .returned (.pointer (some ⟨n, 0, none⟩)) ∧ w'.heap[n]? = some (.cells r.arr 177 (0, 0)) ∧ w.heap.size ≤ n ∧ Mod [] w w' := by
  have r0 : w.cell? ⟨k, 0, none⟩ = some (.int .i64 r.p0) := cell_of_blk hk rfl
  have r1 : w.cell? ⟨k, 1, none⟩ = some (.int .i64 r.p1) := cell_of_blk hk rfl
  have r2 : w.cell? ⟨k, 2, none⟩ = some (.int .i64 r.p2) := cell_of_blk hk rfl
  have r3 : w.cell? ⟨k, 3, none⟩ = some (.int .i64 r.p3) := cell_of_blk hk rfl
  have r4 : w.cell? ⟨k, 4, none⟩ = some (.int .i64 r.p4) := cell_of_blk hk rfl
  have r5 : w.cell? ⟨k, 5, none⟩ = some (.int .i64 r.p5) := cell_of_blk hk rfl
  have r6 : w.cell? ⟨k, 6, none⟩ = some (.int .i64 r.c) := cell_of_blk hk rfl
  have r7 : w.cell? ⟨k, 7, none⟩ = some (.int .u64 r.st) := cell_of_blk hk rfl
  have r8 : w.cell? ⟨k, 8, none⟩ = some (.int .i64 r.pa) := cell_of_blk hk rfl
  have r9 : w.cell? ⟨k, 9, none⟩ = some (.int .u64 r.ve) := cell_of_blk hk rfl
  have r10 : w.cell? ⟨k, 10, none⟩ = some (.float .f64 r.va) := cell_of_blk hk rfl
  have r11 : w.cell? ⟨k, 11, none⟩ = some (.int .i64 r.sp) := cell_of_blk hk rfl
  have r12 : w.cell? ⟨k, 12, none⟩ = some (.bool r.tn) := cell_of_blk hk rfl
  go_enter Try.func165, Try.ntmps165
  go_wp2
  go_ret
  exact ⟨_, rfl, heap_alloc_new w (.cells r.arr 177), Nat.le_refl _, (Mod.refl _ _).alloc _⟩
set_option maxRecDepth 100000 in
set_option maxHeartbeats 4000000 in
theorem wclone (q : WrS) (hk : w.heap[k]? = some (.cells q.arr 180 (0, 0))) : Calls Try.prog 166 #[.pointer (some ⟨k, 0, none⟩)] w fun e w' => ∃ n, e = .returned (.pointer (some ⟨n, 0, none⟩)) ∧ w'.heap[n]? = some (.cells q.arr 180 (0, 0)) ∧ w.heap.size ≤ n ∧ Mod [] w w' := by
  have r0 : w.cell? ⟨k, 0, none⟩ = some (.int .i64 q.p0) := cell_of_blk hk rfl
  have r1 : w.cell? ⟨k, 1, none⟩ = some (.int .i64 q.p1) := cell_of_blk hk rfl
  have r2 : w.cell? ⟨k, 2, none⟩ = some (.int .i64 q.p2) := cell_of_blk hk rfl
  have r3 : w.cell? ⟨k, 3, none⟩ = some (.int .i64 q.p3) := cell_of_blk hk rfl
  have r4 : w.cell? ⟨k, 4, none⟩ = some (.int .i64 q.p4) := cell_of_blk hk rfl
  have r5 : w.cell? ⟨k, 5, none⟩ = some (.int .i64 q.p5) := cell_of_blk hk rfl
  have r6 : w.cell? ⟨k, 6, none⟩ = some (.int .i64 q.c) := cell_of_blk hk rfl
  have r7 : w.cell? ⟨k, 7, none⟩ = some (.int .u64 q.u0) := cell_of_blk hk rfl
  have r8 : w.cell? ⟨k, 8, none⟩ = some (.int .u64 q.u1) := cell_of_blk hk rfl
  have r9 : w.cell? ⟨k, 9, none⟩ = some (.int .u64 q.u2) := cell_of_blk hk rfl
  have r10 : w.cell? ⟨k, 10, none⟩ = some (.int .i64 q.n) := cell_of_blk hk rfl
  go_enter Try.func166, Try.ntmps166
  go_wp2
  go_ret
  exact ⟨_, rfl, heap_alloc_new w (.cells q.arr 180), Nat.le_refl _, (Mod.refl _ _).alloc _⟩
/-- The world, and the other memory. -/
def Oth (w0 w : World) (x a b c d a2 b2 : Nat) (s t : MemS) (R0 R1 : Option RdS) (D0 D1 : Option (RdS × List Int)) (U0 U1 E0 E1 : Option WrS) : Prop :=
  ∃ lab r0 r1 d0 d1 u0 u1 e0 e1 s2, W11 w0 w lab x a b c d r0 r1 d0 d1 u0 u1 e0 e1 s t R0 R1 D0 D1 U0 U1 E0 E1 ∧ MemAt 142 w a2 b2 s2 ∧ lab a2 = 12 ∧ lab b2 = 12

set_option maxRecDepth 100000 in
set_option maxHeartbeats 40000000 in
theorem clones11 (h : W11 w0 w lab x a b c d r0 r1 d0 d1 u0 u1 e0 e1 s t R0 R1 D0 D1 U0 U1 E0 E1) (i0 : ∀ r, R0 = some r → r.Inv) (i1 : ∀ r, R1 = some r → r.Inv) (j0 : ∀ q, U0 = some q → q.Inv) (j1 : ∀ q, U1 = some q → q.Inv) :
    Calls Try.prog 140 #[.pointer (some ⟨x, 0, none⟩)] w fun e w' => e = .returned (.tuple #[]) ∧ ∃ lab' r0' r1' d0' d1' u0' u1' e0' e1', W11 w0 w' lab' x a b c d r0' r1' d0' d1' u0' u1' e0' e1' s t R0 R1 D0 D1 U0 U1 E0 E1 := by
  have I0 := Lib.hid i0
  have I1 := Lib.hid i1
  have J0 := Lib.hid j0
  have J1 := Lib.hid j1
  clear i0 i1 j0 j1
  have x0 : w.cell? ⟨x, 0, none⟩ = some (.pointer (some ⟨a, 0, none⟩)) := cell_of_blk h.hx rfl
  go_enter Try.func140, Try.ntmps140
  go_wp2_with fail
  refine (clone_c h.m).mono ?_; rintro e w1 ⟨a2, b2, rfl, M1, -, ha, hb, d1⟩
  have W1 := h.fresh d1 12
  have O1 : Oth w0 w1 x a b c d a2 b2 s t R0 R1 D0 D1 U0 U1 E0 E1 := ⟨_, _, _, _, _, _, _, _, _, _, W1, M1, relab_new ha, relab_new hb⟩
  clear x0 h W1 M1 ha hb d1
  go_wp2_with fail
  go_loopw [3] (fun v wr => ∃ j : Nat, j ≤ 2 ∧ v = .int .i64 j ∧ Oth w0 wr x a b c d a2 b2 s t R0 R1 D0 D1 U0 U1 E0 E1) (fun v _ => 2 - (intOf v).toNat)
  case atStart => exact ⟨0, by omega, rfl, O1⟩
  case round =>
    clear O1
    obtain ⟨j, hj, rfl, hO⟩ := hrel
    by_cases hlt : j < 2
    · obtain ⟨w1, hw1⟩ : ∃ w1 : World, w1 = wr := ⟨_, rfl⟩
      subst hw1
      rcases (show j = 0 ∨ j = 1 by omega) with rfl | rfl
      · rw [show (((0 : Nat)) : Int) = 0 from rfl]
        obtain ⟨lab, r0, r1, d0, d1, u0, u1, e0, e1, s2, W1, MO, l2, l3⟩ := hO
        cases R0 with
        | none =>
          have hv : r0 = .pointer none := W1.c_r0
          subst hv
          have x2 : w1.cell? ⟨x, 2, none⟩ = some (.pointer none) := cell_of_blk W1.hx rfl
          have x3 := x2
          go_upto_region 9 with fail
          clear x2 x3
          cases U0 with
          | none =>
            have hv : u0 = .pointer none := W1.c_u0
            subst hv
            have x2 : w1.cell? ⟨x, 6, none⟩ = some (.pointer none) := cell_of_blk W1.hx rfl
            go_wp2_with fail
            go_roundw
            case rel => exact ⟨1, by omega, by go_num, _, _, _, _, _, _, _, _, _, _, W1, MO, l2, l3⟩
            case measure => simp [intOf]
          | some q =>
            have hiv := J0.out q rfl
            obtain ⟨k, rfl, K, lk⟩ := W1.c_u0
            have x2 : w1.cell? ⟨x, 6, none⟩ = some (.pointer (some ⟨k, 0, none⟩)) := cell_of_blk W1.hx rfl
            go_wp2_with fail
            refine (wclone q K).mono ?_; rintro e w2 ⟨n, rfl, N2, gn, d2⟩
            have W2 := W1.fresh d2 7
            have hkl := lt_of_block K
            have ln : relab lab w1.heap.size 7 n = 7 := relab_new gn
            have lk2 := (agree_relab (lab := lab) 7 k hkl).trans lk
            have l22 := (agree_relab (lab := lab) 7 a2 MO.lta).trans l2
            have l32 := (agree_relab (lab := lab) 7 b2 MO.ltb).trans l3
            have M2 := MO.mod d2 (by simp) (by simp)
            have K2 := d2.at K (by simp)
            have nnk : n ≠ k := by omega
            have nna : n ≠ a2 := blk_ne N2 M2.hd (by decide)
            have nnb : n ≠ b2 := blk_ne N2 M2.ws (by decide)
            have nka : k ≠ a2 := blk_ne K2 M2.hd (by decide)
            have nkb : k ≠ b2 := blk_ne K2 M2.ws (by decide)
            clear x2 d2 gn hkl W1 K lk MO l2 l3
            generalize relab lab w1.heap.size 7 = lab2 at *
            go_wp2_with fail
            refine (open_c M2).mono ?_; rintro e w3 ⟨rfl, M3, d3⟩
            have W3 := W2.memO l22 l32 d3
            have N3 := d3.at N2 (by simp [nna, nnb])
            have K3 := d3.at K2 (by simp [nka, nkb])
            have x2 : w3.cell? ⟨x, 6, none⟩ = some (.pointer (some ⟨k, 0, none⟩)) := cell_of_blk W3.hx rfl
            clear W2 N2 K2 M2 d3
            go_wp2_with fail
            refine (wstep_c M3 q hiv K3).mono ?_; rintro e w4 ⟨rfl, M4, K4, d4⟩
            have W4 := W3.o_u0 l22 l32 lk2 K4 d4
            have N4 := d4.at N3 (by simp [nna, nnb, nnk])
            have fz := free_of_blk (i := 6) W4.hx
            have x2 : w4.cell? ⟨x, 6, none⟩ = some (.pointer (some ⟨k, 0, none⟩)) := cell_of_blk W4.hx rfl
            have gx := lt_of_block W4.hx
            have nxa : a2 ≠ x := blk_ne M4.hd W4.hx (by decide)
            have nxb : b2 ≠ x := blk_ne M4.ws W4.hx (by decide)
            clear W3 N3 K3 M3 d4 nnk nna nnb nka nkb K4 lk2
            have W5 := W4.put_u0 (v := (.pointer (some ⟨n, 0, none⟩))) (Z := some q) ⟨n, rfl, N4, ln⟩
            have M5 := M4.other x 6 (.pointer (some ⟨n, 0, none⟩)) nxa nxb
            go_wp2_with fail
            go_roundw
            case rel => exact ⟨1, by omega, by go_num, _, _, _, _, _, _, _, _, _, _, W5, M5, l22, l32⟩
            case measure => simp [intOf]
        | some r =>
          have hiv := I0.out r rfl
          obtain ⟨k, rfl, K, lk⟩ := W1.c_r0
          have x2 : w1.cell? ⟨x, 2, none⟩ = some (.pointer (some ⟨k, 0, none⟩)) := cell_of_blk W1.hx rfl
          go_wp2_with fail
          refine (rclone r K).mono ?_; rintro e w2 ⟨n, rfl, N2, gn, d2⟩
          have W2 := W1.fresh d2 3
          have hkl := lt_of_block K
          have ln : relab lab w1.heap.size 3 n = 3 := relab_new gn
          have lk2 := (agree_relab (lab := lab) 3 k hkl).trans lk
          have l22 := (agree_relab (lab := lab) 3 a2 MO.lta).trans l2
          have l32 := (agree_relab (lab := lab) 3 b2 MO.ltb).trans l3
          have M2 := MO.mod d2 (by simp) (by simp)
          have K2 := d2.at K (by simp)
          have nnk : n ≠ k := by omega
          have nna : n ≠ a2 := blk_ne N2 M2.hd (by decide)
          have nnb : n ≠ b2 := blk_ne N2 M2.ws (by decide)
          have nka : k ≠ a2 := blk_ne K2 M2.hd (by decide)
          have nkb : k ≠ b2 := blk_ne K2 M2.ws (by decide)
          clear x2 d2 gn hkl W1 K lk MO l2 l3
          generalize relab lab w1.heap.size 3 = lab2 at *
          go_wp2_with fail
          refine (open_c M2).mono ?_; rintro e w3 ⟨rfl, M3, d3⟩
          have W3 := W2.memO l22 l32 d3
          have N3 := d3.at N2 (by simp [nna, nnb])
          have K3 := d3.at K2 (by simp [nka, nkb])
          have x2 : w3.cell? ⟨x, 2, none⟩ = some (.pointer (some ⟨k, 0, none⟩)) := cell_of_blk W3.hx rfl
          clear W2 N2 K2 M2 d3
          go_wp2_with fail
          refine (rstep_c M3 r hiv K3).mono ?_; rintro e w4 ⟨rfl, M4, K4, d4⟩
          have W4 := W3.o_r0 l22 l32 lk2 K4 d4
          have N4 := d4.at N3 (by simp [nna, nnb, nnk])
          have fz := free_of_blk (i := 2) W4.hx
          have x2 : w4.cell? ⟨x, 2, none⟩ = some (.pointer (some ⟨k, 0, none⟩)) := cell_of_blk W4.hx rfl
          have gx := lt_of_block W4.hx
          have nxa : a2 ≠ x := blk_ne M4.hd W4.hx (by decide)
          have nxb : b2 ≠ x := blk_ne M4.ws W4.hx (by decide)
          clear W3 N3 K3 M3 d4 nnk nna nnb nka nkb K4 lk2
          have W5 := W4.put_r0 (v := (.pointer (some ⟨n, 0, none⟩))) (Z := some r) ⟨n, rfl, N4, ln⟩
          have M5 := M4.other x 2 (.pointer (some ⟨n, 0, none⟩)) nxa nxb
          go_upto_region 9 with fail
          generalize w4.setCell ⟨x, 2, none⟩ (.pointer (some ⟨n, 0, none⟩)) = w1b at *
          clear fz x2 gx nxa nxb N4 ln W4 M4
          have W1b := W5
          have MOb := M5
          have l2b := l22
          have l3b := l32
          obtain ⟨labb, hlabb⟩ : ∃ labb, labb = lab2 := ⟨_, rfl⟩
          rw [← hlabb] at W1b l2b l3b
          clear W5 M5 l22 l32 hlabb hiv
          cases U0 with
          | none =>
            have hvb : u0 = .pointer none := W1b.c_u0
            subst hvb
            have x2b : w1b.cell? ⟨x, 6, none⟩ = some (.pointer none) := cell_of_blk W1b.hx rfl
            go_wp2_with fail
            go_roundw
            case rel => exact ⟨1, by omega, by go_num, _, _, _, _, _, _, _, _, _, _, W1b, MOb, l2b, l3b⟩
            case measure => simp [intOf]
          | some q =>
            have hivb := J0.out q rfl
            obtain ⟨kb, rfl, Kb, lkb⟩ := W1b.c_u0
            have x2b : w1b.cell? ⟨x, 6, none⟩ = some (.pointer (some ⟨kb, 0, none⟩)) := cell_of_blk W1b.hx rfl
            go_wp2_with fail
            refine (wclone q Kb).mono ?_; rintro e w2b ⟨nb, rfl, N2b, gnb, d2b⟩
            have W2b := W1b.fresh d2b 7
            have hklb := lt_of_block Kb
            have lnb : relab labb w1b.heap.size 7 nb = 7 := relab_new gnb
            have lk2b := (agree_relab (lab := labb) 7 kb hklb).trans lkb
            have l22b := (agree_relab (lab := labb) 7 a2 MOb.lta).trans l2b
            have l32b := (agree_relab (lab := labb) 7 b2 MOb.ltb).trans l3b
            have M2b := MOb.mod d2b (by simp) (by simp)
            have K2b := d2b.at Kb (by simp)
            have nnkb : nb ≠ kb := by omega
            have nnab : nb ≠ a2 := blk_ne N2b M2b.hd (by decide)
            have nnbb : nb ≠ b2 := blk_ne N2b M2b.ws (by decide)
            have nkab : kb ≠ a2 := blk_ne K2b M2b.hd (by decide)
            have nkbb : kb ≠ b2 := blk_ne K2b M2b.ws (by decide)
            clear x2b d2b gnb hklb W1b Kb lkb MOb l2b l3b
            generalize relab labb w1b.heap.size 7 = lab2b at *
            go_wp2_with fail
            refine (open_c M2b).mono ?_; rintro e w3b ⟨rfl, M3b, d3b⟩
            have W3b := W2b.memO l22b l32b d3b
            have N3b := d3b.at N2b (by simp [nnab, nnbb])
            have K3b := d3b.at K2b (by simp [nkab, nkbb])
            have x2b : w3b.cell? ⟨x, 6, none⟩ = some (.pointer (some ⟨kb, 0, none⟩)) := cell_of_blk W3b.hx rfl
            clear W2b N2b K2b M2b d3b
            go_wp2_with fail
            refine (wstep_c M3b q hivb K3b).mono ?_; rintro e w4b ⟨rfl, M4b, K4b, d4b⟩
            have W4b := W3b.o_u0 l22b l32b lk2b K4b d4b
            have N4b := d4b.at N3b (by simp [nnab, nnbb, nnkb])
            have fzb := free_of_blk (i := 6) W4b.hx
            have x2b : w4b.cell? ⟨x, 6, none⟩ = some (.pointer (some ⟨kb, 0, none⟩)) := cell_of_blk W4b.hx rfl
            have gxb := lt_of_block W4b.hx
            have nxab : a2 ≠ x := blk_ne M4b.hd W4b.hx (by decide)
            have nxbb : b2 ≠ x := blk_ne M4b.ws W4b.hx (by decide)
            clear W3b N3b K3b M3b d4b nnkb nnab nnbb nkab nkbb K4b lk2b
            have W5b := W4b.put_u0 (v := (.pointer (some ⟨nb, 0, none⟩))) (Z := some q) ⟨nb, rfl, N4b, lnb⟩
            have M5b := M4b.other x 6 (.pointer (some ⟨nb, 0, none⟩)) nxab nxbb
            go_wp2_with fail
            go_roundw
            case rel => exact ⟨1, by omega, by go_num, _, _, _, _, _, _, _, _, _, _, W5b, M5b, l22b, l32b⟩
            case measure => simp [intOf]
      · rw [show (((1 : Nat)) : Int) = 1 from rfl]
        obtain ⟨lab, r0, r1, d0, d1, u0, u1, e0, e1, s2, W1, MO, l2, l3⟩ := hO
        cases R1 with
        | none =>
          have hv : r1 = .pointer none := W1.c_r1
          subst hv
          have x2 : w1.cell? ⟨x, 3, none⟩ = some (.pointer none) := cell_of_blk W1.hx rfl
          have x3 := x2
          go_upto_region 9 with fail
          clear x2 x3
          cases U1 with
          | none =>
            have hv : u1 = .pointer none := W1.c_u1
            subst hv
            have x2 : w1.cell? ⟨x, 7, none⟩ = some (.pointer none) := cell_of_blk W1.hx rfl
            go_wp2_with fail
            go_roundw
            case rel => exact ⟨2, by omega, by go_num, _, _, _, _, _, _, _, _, _, _, W1, MO, l2, l3⟩
            case measure => simp [intOf]
          | some q =>
            have hiv := J1.out q rfl
            obtain ⟨k, rfl, K, lk⟩ := W1.c_u1
            have x2 : w1.cell? ⟨x, 7, none⟩ = some (.pointer (some ⟨k, 0, none⟩)) := cell_of_blk W1.hx rfl
            go_wp2_with fail
            refine (wclone q K).mono ?_; rintro e w2 ⟨n, rfl, N2, gn, d2⟩
            have W2 := W1.fresh d2 8
            have hkl := lt_of_block K
            have ln : relab lab w1.heap.size 8 n = 8 := relab_new gn
            have lk2 := (agree_relab (lab := lab) 8 k hkl).trans lk
            have l22 := (agree_relab (lab := lab) 8 a2 MO.lta).trans l2
            have l32 := (agree_relab (lab := lab) 8 b2 MO.ltb).trans l3
            have M2 := MO.mod d2 (by simp) (by simp)
            have K2 := d2.at K (by simp)
            have nnk : n ≠ k := by omega
            have nna : n ≠ a2 := blk_ne N2 M2.hd (by decide)
            have nnb : n ≠ b2 := blk_ne N2 M2.ws (by decide)
            have nka : k ≠ a2 := blk_ne K2 M2.hd (by decide)
            have nkb : k ≠ b2 := blk_ne K2 M2.ws (by decide)
            clear x2 d2 gn hkl W1 K lk MO l2 l3
            generalize relab lab w1.heap.size 8 = lab2 at *
            go_wp2_with fail
            refine (open_c M2).mono ?_; rintro e w3 ⟨rfl, M3, d3⟩
            have W3 := W2.memO l22 l32 d3
            have N3 := d3.at N2 (by simp [nna, nnb])
            have K3 := d3.at K2 (by simp [nka, nkb])
            have x2 : w3.cell? ⟨x, 7, none⟩ = some (.pointer (some ⟨k, 0, none⟩)) := cell_of_blk W3.hx rfl
            clear W2 N2 K2 M2 d3
            go_wp2_with fail
            refine (wstep_c M3 q hiv K3).mono ?_; rintro e w4 ⟨rfl, M4, K4, d4⟩
            have W4 := W3.o_u1 l22 l32 lk2 K4 d4
            have N4 := d4.at N3 (by simp [nna, nnb, nnk])
            have fz := free_of_blk (i := 7) W4.hx
            have x2 : w4.cell? ⟨x, 7, none⟩ = some (.pointer (some ⟨k, 0, none⟩)) := cell_of_blk W4.hx rfl
            have gx := lt_of_block W4.hx
            have nxa : a2 ≠ x := blk_ne M4.hd W4.hx (by decide)
            have nxb : b2 ≠ x := blk_ne M4.ws W4.hx (by decide)
            clear W3 N3 K3 M3 d4 nnk nna nnb nka nkb K4 lk2
            have W5 := W4.put_u1 (v := (.pointer (some ⟨n, 0, none⟩))) (Z := some q) ⟨n, rfl, N4, ln⟩
            have M5 := M4.other x 7 (.pointer (some ⟨n, 0, none⟩)) nxa nxb
            go_wp2_with fail
            go_roundw
            case rel => exact ⟨2, by omega, by go_num, _, _, _, _, _, _, _, _, _, _, W5, M5, l22, l32⟩
            case measure => simp [intOf]
        | some r =>
          have hiv := I1.out r rfl
          obtain ⟨k, rfl, K, lk⟩ := W1.c_r1
          have x2 : w1.cell? ⟨x, 3, none⟩ = some (.pointer (some ⟨k, 0, none⟩)) := cell_of_blk W1.hx rfl
          go_wp2_with fail
          refine (rclone r K).mono ?_; rintro e w2 ⟨n, rfl, N2, gn, d2⟩
          have W2 := W1.fresh d2 4
          have hkl := lt_of_block K
          have ln : relab lab w1.heap.size 4 n = 4 := relab_new gn
          have lk2 := (agree_relab (lab := lab) 4 k hkl).trans lk
          have l22 := (agree_relab (lab := lab) 4 a2 MO.lta).trans l2
          have l32 := (agree_relab (lab := lab) 4 b2 MO.ltb).trans l3
          have M2 := MO.mod d2 (by simp) (by simp)
          have K2 := d2.at K (by simp)
          have nnk : n ≠ k := by omega
          have nna : n ≠ a2 := blk_ne N2 M2.hd (by decide)
          have nnb : n ≠ b2 := blk_ne N2 M2.ws (by decide)
          have nka : k ≠ a2 := blk_ne K2 M2.hd (by decide)
          have nkb : k ≠ b2 := blk_ne K2 M2.ws (by decide)
          clear x2 d2 gn hkl W1 K lk MO l2 l3
          generalize relab lab w1.heap.size 4 = lab2 at *
          go_wp2_with fail
          refine (open_c M2).mono ?_; rintro e w3 ⟨rfl, M3, d3⟩
          have W3 := W2.memO l22 l32 d3
          have N3 := d3.at N2 (by simp [nna, nnb])
          have K3 := d3.at K2 (by simp [nka, nkb])
          have x2 : w3.cell? ⟨x, 3, none⟩ = some (.pointer (some ⟨k, 0, none⟩)) := cell_of_blk W3.hx rfl
          clear W2 N2 K2 M2 d3
          go_wp2_with fail
          refine (rstep_c M3 r hiv K3).mono ?_; rintro e w4 ⟨rfl, M4, K4, d4⟩
          have W4 := W3.o_r1 l22 l32 lk2 K4 d4
          have N4 := d4.at N3 (by simp [nna, nnb, nnk])
          have fz := free_of_blk (i := 3) W4.hx
          have x2 : w4.cell? ⟨x, 3, none⟩ = some (.pointer (some ⟨k, 0, none⟩)) := cell_of_blk W4.hx rfl
          have gx := lt_of_block W4.hx
          have nxa : a2 ≠ x := blk_ne M4.hd W4.hx (by decide)
          have nxb : b2 ≠ x := blk_ne M4.ws W4.hx (by decide)
          clear W3 N3 K3 M3 d4 nnk nna nnb nka nkb K4 lk2
          have W5 := W4.put_r1 (v := (.pointer (some ⟨n, 0, none⟩))) (Z := some r) ⟨n, rfl, N4, ln⟩
          have M5 := M4.other x 3 (.pointer (some ⟨n, 0, none⟩)) nxa nxb
          go_upto_region 9 with fail
          generalize w4.setCell ⟨x, 3, none⟩ (.pointer (some ⟨n, 0, none⟩)) = w1b at *
          clear fz x2 gx nxa nxb N4 ln W4 M4
          have W1b := W5
          have MOb := M5
          have l2b := l22
          have l3b := l32
          obtain ⟨labb, hlabb⟩ : ∃ labb, labb = lab2 := ⟨_, rfl⟩
          rw [← hlabb] at W1b l2b l3b
          clear W5 M5 l22 l32 hlabb hiv
          cases U1 with
          | none =>
            have hvb : u1 = .pointer none := W1b.c_u1
            subst hvb
            have x2b : w1b.cell? ⟨x, 7, none⟩ = some (.pointer none) := cell_of_blk W1b.hx rfl
            go_wp2_with fail
            go_roundw
            case rel => exact ⟨2, by omega, by go_num, _, _, _, _, _, _, _, _, _, _, W1b, MOb, l2b, l3b⟩
            case measure => simp [intOf]
          | some q =>
            have hivb := J1.out q rfl
            obtain ⟨kb, rfl, Kb, lkb⟩ := W1b.c_u1
            have x2b : w1b.cell? ⟨x, 7, none⟩ = some (.pointer (some ⟨kb, 0, none⟩)) := cell_of_blk W1b.hx rfl
            go_wp2_with fail
            refine (wclone q Kb).mono ?_; rintro e w2b ⟨nb, rfl, N2b, gnb, d2b⟩
            have W2b := W1b.fresh d2b 8
            have hklb := lt_of_block Kb
            have lnb : relab labb w1b.heap.size 8 nb = 8 := relab_new gnb
            have lk2b := (agree_relab (lab := labb) 8 kb hklb).trans lkb
            have l22b := (agree_relab (lab := labb) 8 a2 MOb.lta).trans l2b
            have l32b := (agree_relab (lab := labb) 8 b2 MOb.ltb).trans l3b
            have M2b := MOb.mod d2b (by simp) (by simp)
            have K2b := d2b.at Kb (by simp)
            have nnkb : nb ≠ kb := by omega
            have nnab : nb ≠ a2 := blk_ne N2b M2b.hd (by decide)
            have nnbb : nb ≠ b2 := blk_ne N2b M2b.ws (by decide)
            have nkab : kb ≠ a2 := blk_ne K2b M2b.hd (by decide)
            have nkbb : kb ≠ b2 := blk_ne K2b M2b.ws (by decide)
            clear x2b d2b gnb hklb W1b Kb lkb MOb l2b l3b
            generalize relab labb w1b.heap.size 8 = lab2b at *
            go_wp2_with fail
            refine (open_c M2b).mono ?_; rintro e w3b ⟨rfl, M3b, d3b⟩
            have W3b := W2b.memO l22b l32b d3b
            have N3b := d3b.at N2b (by simp [nnab, nnbb])
            have K3b := d3b.at K2b (by simp [nkab, nkbb])
            have x2b : w3b.cell? ⟨x, 7, none⟩ = some (.pointer (some ⟨kb, 0, none⟩)) := cell_of_blk W3b.hx rfl
            clear W2b N2b K2b M2b d3b
            go_wp2_with fail
            refine (wstep_c M3b q hivb K3b).mono ?_; rintro e w4b ⟨rfl, M4b, K4b, d4b⟩
            have W4b := W3b.o_u1 l22b l32b lk2b K4b d4b
            have N4b := d4b.at N3b (by simp [nnab, nnbb, nnkb])
            have fzb := free_of_blk (i := 7) W4b.hx
            have x2b : w4b.cell? ⟨x, 7, none⟩ = some (.pointer (some ⟨kb, 0, none⟩)) := cell_of_blk W4b.hx rfl
            have gxb := lt_of_block W4b.hx
            have nxab : a2 ≠ x := blk_ne M4b.hd W4b.hx (by decide)
            have nxbb : b2 ≠ x := blk_ne M4b.ws W4b.hx (by decide)
            clear W3b N3b K3b M3b d4b nnkb nnab nnbb nkab nkbb K4b lk2b
            have W5b := W4b.put_u1 (v := (.pointer (some ⟨nb, 0, none⟩))) (Z := some q) ⟨nb, rfl, N4b, lnb⟩
            have M5b := M4b.other x 7 (.pointer (some ⟨nb, 0, none⟩)) nxab nxbb
            go_wp2_with fail
            go_roundw
            case rel => exact ⟨2, by omega, by go_num, _, _, _, _, _, _, _, _, _, _, W5b, M5b, l22b, l32b⟩
            case measure => simp [intOf]
    · obtain rfl : j = 2 := by omega
      obtain ⟨lab, r0, r1, d0, d1, u0, u1, e0, e1, s2, W1, MO, l2, l3⟩ := hO
      go_wp2
      go_end0
      exact ⟨rfl, _, _, _, _, _, _, _, _, _, W1⟩

end Go.Proofs.Ytobmgnoceacoaaa

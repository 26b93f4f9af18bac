/- MemOne: the walk. -/
import Derived.Test.YtobmgnoceacoaaaLive03
import Derived.Test.YtobmgnoceacoaaaMA
import Derived.Test.YtobmgnoceacoaaaOps
import Derived.Test.YtobmgnoceacoaaaOneStep
import Derived.Deep.QuietTactic
import Derived.BigQuiet
import Derived.Deep.DeepCutAuto
import Derived.Deep.CutBlock
namespace Go.Proofs.Ytobmgnoceacoaaa
open Go.RowKit

set_option maxRecDepth 100000 in
set_option maxHeartbeats 1000000 in
theorem memOne_bad (n : Int) (v : Value) (hn : n < 1 ∨ 4096 < n) (w : World) : Calls Try.prog 8 #[.int .i64 n, v] w fun e w' => e = .returned (.bool true) ∧ Mod [] w w' := by
  rcases Classical.em (n < 1) with h | h
  all_goals
    go_enter Try.func8, Try.ntmps8
    as_aux_lemma =>
      go_wp2_with fail
      refine (live03 _).mono ?_; rintro e w1 ⟨rfl, d1⟩
      go_wp2_with fail
      refine (new_bad n hn _).mono ?_; rintro e w1 ⟨rfl, rfl⟩
      have hn' : 4096 < n ∨ n < 1 := by omega
      clear hn
      first | have h3 : 4096 < n := by omega | skip
      clear hn'
      go_wp2
      go_ret
      exact ⟨rfl, d1⟩

set_option maxRecDepth 100000 in
set_option maxHeartbeats 20000000 in
theorem memOne_ok (n : Int) (a0 : Option Addr) (len cap : Nat) (ops : List (List Int)) (h1 : 1 ≤ n) (h2 : n ≤ 4096) (w : World) (hS : Script w [.i64, .i64, .u64] a0 len ops) :
    Calls Try.prog 8 #[.int .i64 n, .slice a0 len cap] w fun e w' => e = .returned (.bool true) ∧ Mod [] w w' := by
  have hlb := hS.2.1
  go_enter Try.func8, Try.ntmps8
  go_wp2_with fail
  refine (live03 _).mono ?_; rintro e w1 ⟨rfl, d1⟩
  go_wp2_with fail
  refine (new_e n h1 h2 _).mono ?_; rintro e w2 ⟨a, b, rfl, M2, ha, hb, d2⟩
  go_wp2_with fail
  have D2 := d1.trans d2
  have z1 := d1.size
  have z2 := d2.size
  clear d1 d2
  have hws : (MemS.fresh n.toNat).ws.length = n.toNat := by simp [MemS.fresh]
  have hct : (MemS.fresh n.toNat).ct = 0 := rfl
  have hop : letOf (MemS.fresh n.toNat) = 0 := rfl
  generalize MemS.fresh n.toNat = s0 at M2 hws hct hop
  have Hws := Lib.hid hws
  have Hop := Lib.hid hop
  have Hct := Lib.hid hct
  clear hws hop hct
  go_loopw [8, 48] (fun l i wr => ∃ k s, k ≤ len ∧ i = .int .i64 (k : Nat) ∧ l = .int .i64 (letOf s) ∧ s.ws.length = n.toNat ∧ 0 ≤ s.ct ∧ s.ct ≤ k ∧ MemAt 142 wr a b s ∧ Mod [] w wr) (fun _ i _ => len - (intOf i).toNat)
  case atStart => exact ⟨0, s0, Nat.zero_le _, rfl, by rw [Hop.out], Hws.out, by rw [Hct.out]; decide, by rw [Hct.out]; decide, M2, D2⟩
  case round =>
    obtain ⟨k, s, hk, rfl, rfl, hn, hc0, hc1, hM, dr⟩ := hrel
    by_cases hlt : k < len
    · obtain ⟨bs, off, x, y, z, rfl, -, hcell⟩ := hS.get3 hlt
      obtain ⟨x0, x1, x2⟩ := hcell wr dr
      clear hcell
      have Hn := Lib.hid hn; clear hn
      go_wp2_with fail
      refine (all_e (hM.alloc _)).mono ?_; rintro e w3 ⟨g, rfl, G3, hg, M3, d3⟩
      go_wp2_with fail
      refine (count_c M3).mono ?_; rintro e w4 ⟨rfl, M4, d4⟩
      have Q4 : w4.heap[wr.heap.size]? = some (.cells #[.int .i64 x, .int .i64 y, .int .u64 z] 47 (0, 0)) := d4.at (d3.at (heap_alloc_new _ _) (by simp)) (by have := hM.lta; have := hM.ltb; simp; omega)
      have G4 := d4.at G3 (by have := hM.lta; have := hM.ltb; simp at hg ⊢; omega)
      have D4 : Mod [] w w4 := ((dr.alloc _).trans d3).then d4 (by simp; omega)
      have q0 := cell_of_blk (i := 0) Q4 rfl
      have q1 := cell_of_blk (i := 1) Q4 rfl
      have q2 := cell_of_blk (i := 2) Q4 rfl
      go_upto_block 2 with fail
      go_cut [8, 13] (fun l e wx => ∃ s' L E, l = .int .i64 L ∧ e = .int .i64 E ∧ OneStep x s s' L E ∧ MemAt 142 wx a b s' ∧ Mod [a, b] w4 wx)
      case first =>
        have hL : (x = 1) ∨ (x = 2) ∨ (x = 3) ∨ (x = 4) ∨ (x = 6) ∨ ((x == 1) = false ∧ (x == 2) = false ∧ (x == 3) = false ∧ (x == 4) = false ∧ (x == 6) = false) := by simp; omega
        clear x0 x1 x2 D4 G4 Q4 d3 d4 M3 hM dr hlt hc0 hc1 hk
        rcases hL with rfl | rfl | rfl | rfl | rfl | ⟨n1, n2, n3, n4, n6⟩
        · as_aux_lemma =>
            go_wp2_with fail
            refine (open_c M4).mono ?_; rintro e w5 ⟨rfl, M5, d5⟩
            go_wp2_with fail
            go_meet
            exact ⟨_, _, _, rfl, rfl, one_open s, M5, d5⟩
        · as_aux_lemma =>
            go_wp2_with fail
            refine (load_c M4 y).mono ?_; rintro e w5 ⟨rfl, M5, d5⟩
            go_wp2_with fail
            go_meet
            exact ⟨_, _, _, rfl, rfl, one_load s y, M5, d5⟩
        · as_aux_lemma =>
            go_wp2_with fail
            refine (store_c M4 y z).mono ?_; rintro e w5 ⟨rfl, M5, d5⟩
            go_wp2_with fail
            go_meet
            exact ⟨_, _, _, rfl, rfl, one_store s y z, M5, d5⟩
        · as_aux_lemma =>
            go_wp2_with fail
            refine (add_c M4 y z).mono ?_; rintro e w5 ⟨rfl, M5, d5⟩
            go_wp2_with fail
            go_meet
            exact ⟨_, _, _, rfl, rfl, one_add s y z, M5, d5⟩
        · as_aux_lemma =>
            go_wp2_with fail
            refine (poke_c M4 y z).mono ?_; rintro e w5 ⟨rfl, M5, d5⟩
            go_wp2_with fail
            go_meet
            exact ⟨_, _, _, rfl, rfl, one_poke s y z, M5, d5⟩
        · as_aux_lemma =>
            go_wp2_with fail
            go_meet
            exact ⟨_, _, _, rfl, rfl, one_none x s, M4, Mod.refl _ _⟩
      case rest =>
        obtain ⟨s', L, E, rfl, rfl, hone, M5, d5⟩ := hcut
        have Q5 := d5.at Q4 (by have := hM.lta; have := hM.ltb; simp; omega)
        have G5 := d5.at G4 (by have := hM.lta; have := hM.ltb; simp at hg ⊢; omega)
        have D5 : Mod [] w wc := D4.then d5 (by simp; omega)
        have H1 := Lib.hid hone.len
        obtain ⟨hL0, hL1⟩ := hone.letOk
        clear q0 q1 q2 x0 x1 x2 Q4 G4 D4 d5 d3 d4 M3 M4
        go_upto_if 99 with fail
        go_cut [8] (fun l wx => l = .int .i64 (letOf s') ∧ wx = wc)
        case first =>
          by_cases hE : E = 0
          · obtain ⟨-, -, hl1⟩ := hone.ok hE
            have hl2 := hL0 hE
            subst hE
            subst hl1
            clear hL0 hL1 hone
            have Hl2 := Lib.hid hl2
            clear hl2
            as_aux_lemma =>
              go_wp2_with fail
              go_meet
              exact ⟨by rw [← Hl2.out]; rfl, rfl⟩
          · have hl2 := hL1 hE
            have hb : (E == 0) = false := by simp [hE]
            clear hL0 hL1 hone hE
            have Hl2 := Lib.hid hl2
            clear hl2
            as_aux_lemma =>
              go_wp2_with fail
              go_meet
              exact ⟨by rw [Hl2.out], rfl⟩
        case rest =>
          obtain ⟨rfl, rfl⟩ := hcut
          clear hL0 hL1
          go_wp2_with fail
          refine (all_e M5).mono ?_; rintro e w6 ⟨g2, rfl, G6, hg2, M6, d6⟩
          go_wp2_with fail
          have Gb := d6.at G5 (by simp)
          have Qb := d6.at Q5 (by simp)
          have D6 := D5.trans d6
          clear Q5 G5 D5 d6 M5 hM
          have hl := H1.out
          obtain ⟨N, hN⟩ : ∃ N, N = s.ws.length := ⟨_, rfl⟩
          have hl2 : s'.ws.length = N := by rw [hl, hN]
          have HB := Lib.hid (fun (j : Nat) (hj : j < N) => cell_of_blk Gb (u64s_get _ _ (by omega : j < s.ws.length)))
          have HA := Lib.hid (fun (j : Nat) (hj : j < N) => cell_of_blk G6 (u64s_get _ _ (by omega : j < s'.ws.length)))
          have hNn : (N : Int) = n := by have := Hn.out; omega
          have hN4 : N ≤ 4096 := by omega
          rw [hl2, ← hN]
          have HN := Lib.hid hNn
          have HOn := Lib.hid (fun j => hone.cnt j)
          have HCt := Lib.hid hone.ok
          have HCb := Lib.hid hone.bad
          have HLe : letOf s' = 0 ∨ letOf s' = 1 := by unfold letOf; split <;> simp
          have q0 := cell_of_blk (i := 0) Qb rfl
          clear hl hl2 hN hNn Gb G6 Qb hone
          go_wp2_with fail
          obtain ⟨wo, rfl⟩ : ∃ wo : World, wo = wr := ⟨_, rfl⟩
          go_loopw [15, 16] (fun c i wx => ∃ j m : Nat, j ≤ N ∧ i = .int .i64 j ∧ c = .int .i64 (cntD s.ws s'.ws j) ∧ wx = w6.drewN m) (fun _ i _ => N - (intOf i).toNat)
          case atStart => exact ⟨0, 0, Nat.zero_le _, rfl, rfl, rfl⟩
          case round =>
            obtain ⟨j, m, hj, rfl, rfl, rfl⟩ := hrel
            by_cases hjn : j < N
            · have hb1 := HB.out j hjn
              have ha1 := HA.out j hjn
              have hcj := cntD_succ s.ws s'.ws j
              have hle : (cntD s.ws s'.ws j : Int) ≤ 1 := by have := (HOn.out j).1; omega
              by_cases heq : s.ws.getD j 0 = s'.ws.getD j 0
              · rw [if_pos heq] at hcj
                generalize s.ws.getD j 0 = X at hb1 heq
                generalize s'.ws.getD j 0 = Y at ha1 heq
                have hxy : (X != Y) = false := by simp [heq]
                have Hcj := Lib.hid hcj
                clear hcj heq
                go_wp2_with fail
                go_quiet (fail)
                go_wp2
                go_roundw
                case rel => exact ⟨j + 1, m + nq, by omega, by go_num, by rw [Hcj.out]; simp, rfl⟩
                case measure => simp [intOf]; omega
              · rw [if_neg heq] at hcj
                generalize s.ws.getD j 0 = X at hb1 heq
                generalize s'.ws.getD j 0 = Y at ha1 heq
                have hxy : (X != Y) = true := by simp [heq]
                have Hcj := Lib.hid hcj
                clear hcj heq
                go_wp2_with fail
                go_quiet (fail)
                go_wp2
                go_roundw
                case rel => exact ⟨j + 1, m + nq, by omega, by go_num, by rw [Hcj.out], rfl⟩
                case measure => simp [intOf]; omega
            · obtain rfl : j = N := by omega
              have hNb : ((j : Int) != n) = false := by simp [HN.out]
              have hDle : (cntD s.ws s'.ws j : Int) ≤ 1 := by have := (HOn.out j).1; omega
              have hDx : Hid ((cntD s.ws s'.ws j : Int) ≠ 0 → x = 3 ∨ x = 4 ∨ x = 6) := fun hne => by have := (HOn.out j).2; omega
              have hLn : 0 ≤ letOf s' := by omega
              have HcE : Hid (E = 0 → s'.ct = s.ct + 1) := fun he => by rw [(HCt.out he).1, wrap64]; omega
              have HcN : Hid (E ≠ 0 → s'.ct = s.ct) := fun he => (HCb.out he).1
              have M7 := M6.drewN m
              have D7 := D6.drewN m
              have HWl : Hid (s'.ws.length = n.toNat) := H1.out.trans Hn.out
              clear HB HA HOn HN HCt HCb H1 HLe hN4 M6 D6
              generalize (cntD s.ws s'.ws j : Int) = D at hDle hDx
              go_upto_region 33 with fail
              have q7 : (w6.drewN m).cell? ⟨wo.heap.size, 0, none⟩ = some (.int .i64 x) := q0
              clear q0
              generalize w6.drewN m = w7 at M7 D7 q7
              have hck : (k : Int) ≤ 140737488351232 := by omega
              go_cut [177] (fun r wx => r = .bool false ∧ MemAt 142 wx a b s' ∧ Mod [] w wx)
              case first =>
                by_cases hE : E = 0
                · subst hE
                  clear HcN
                  by_cases hD : D = 0
                  · subst hD
                    clear hDx
                    as_aux_lemma =>
                      go_wp2_with fail
                      refine (count_c M7).mono ?_; rintro e w8 ⟨rfl, M8, d8⟩
                      rw [HcE.out (by first | rfl | trivial)]
                      have D8 : Mod [] w w8 := D7.then d8 (by simp; omega)
                      go_wp2_with fail
                      go_meet
                      exact ⟨congrArg Value.bool (by first | (simp; done) | (simp; omega)), M8, D8⟩
                  · have hD1 : (D == 1) = true ∨ (D == 1) = false := by cases (D == 1) <;> simp
                    obtain hx := hDx.out hD
                    clear hDx
                    rcases hx with rfl | rfl | rfl
                    all_goals
                      rcases hD1 with hD1 | hD1
                      all_goals
                        as_aux_lemma =>
                          go_wp2_with fail
                          refine (count_c M7).mono ?_; rintro e w8 ⟨rfl, M8, d8⟩
                          rw [HcE.out (by first | rfl | trivial)]
                          have D8 : Mod [] w w8 := D7.then d8 (by simp; omega)
                          go_wp2_with fail
                          go_meet
                          exact ⟨congrArg Value.bool (by first | (simp; done) | (simp; omega)), M8, D8⟩
                · have hEb : (E == 0) = false := by simp [hE]
                  have hEn : (E != 0) = true := by simp [hE]
                  clear HcE
                  by_cases hD : D = 0
                  · subst hD
                    clear hDx
                    as_aux_lemma =>
                      go_wp2_with fail
                      refine (count_c M7).mono ?_; rintro e w8 ⟨rfl, M8, d8⟩
                      rw [HcN.out hE]
                      have D8 : Mod [] w w8 := D7.then d8 (by simp; omega)
                      go_wp2_with fail
                      refine (count_c M8).mono ?_; rintro e w9 ⟨rfl, M9, d9⟩
                      rw [HcN.out hE]
                      have D9 : Mod [] w w9 := D8.then d9 (by simp; omega)
                      go_wp2_with fail
                      go_meet
                      exact ⟨congrArg Value.bool (by first | (simp; done) | (simp; omega)), M9, D9⟩
                  · have hD1 : (D == 1) = true ∨ (D == 1) = false := by cases (D == 1) <;> simp
                    obtain hx := hDx.out hD
                    clear hDx
                    rcases hx with rfl | rfl | rfl
                    all_goals
                      rcases hD1 with hD1 | hD1
                      all_goals
                        as_aux_lemma =>
                          go_wp2_with fail
                          refine (count_c M7).mono ?_; rintro e w8 ⟨rfl, M8, d8⟩
                          rw [HcN.out hE]
                          have D8 : Mod [] w w8 := D7.then d8 (by simp; omega)
                          go_wp2_with fail
                          refine (count_c M8).mono ?_; rintro e w9 ⟨rfl, M9, d9⟩
                          rw [HcN.out hE]
                          have D9 : Mod [] w w9 := D8.then d9 (by simp; omega)
                          go_wp2_with fail
                          go_meet
                          exact ⟨congrArg Value.bool (by first | (simp; done) | (simp; omega)), M9, D9⟩
              case rest =>
                obtain ⟨rfl, M9, D9⟩ := hcut
                have Hc : Hid (0 ≤ s'.ct ∧ s'.ct ≤ (k : Int) + 1) := by
                  by_cases hE : E = 0
                  · have := HcE.out hE; exact ⟨by omega, by omega⟩
                  · have := HcN.out hE; exact ⟨by omega, by omega⟩
                clear HcE HcN hDx
                go_wp2
                go_roundw
                case rel => exact ⟨k + 1, s', by omega, by go_num, rfl, HWl.out, Hc.out.1, by have := Hc.out.2; omega, M9, D9⟩
                case measure => simp [intOf]; omega
    · go_wp2
      go_ret
      exact ⟨rfl, dr⟩

theorem memOne_walk (n : Int) (a0 : Option Addr) (len cap : Nat) (ops : List (List Int)) (w : World) (hS : Script w [.i64, .i64, .u64] a0 len ops) :
    Calls Try.prog 8 #[.int .i64 n, .slice a0 len cap] w fun e w' => e = .returned (.bool true) ∧ Mod [] w w' := by
  by_cases h : n < 1 ∨ 4096 < n
  · exact memOne_bad n _ h w
  · exact memOne_ok n a0 len cap ops (by omega) (by omega) w hS
end Go.Proofs.Ytobmgnoceacoaaa

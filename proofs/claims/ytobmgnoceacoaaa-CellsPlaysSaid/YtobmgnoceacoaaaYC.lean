/- Layer 11: floats of bits; Start on the document's side. -/
import Derived.Test.YtobmgnoceacoaaaYB
import Derived.Test.YtobmgnoceacoaaaXN
import Derived.Deep.QuietTactic
import Derived.BigQuiet
import Derived.Deep.DeepCutAuto
import Derived.Deep.CutBlock
import Derived.Deep.RegionHeld3
import Derived.StillTailTactics
import Derived.IntWalk
namespace Go.Proofs.Ytobmgnoceacoaaa
open Go.RowKit
attribute [local go_sem] run_store_float

variable {a b : Nat} {s : MemS} {w : World} {xs : List Nat}
theorem info110 : (Try.prog.info? 110).map (fun i => (i.zero, i.size, i.bytes)) = some (some (.float .f64 0), 1, 8) := by kernel_rfl
def fz (zs : List Int) (k : Nat) : List Value := (zs.take k).map fun z => Value.float .f64 z.toNat
theorem fz_next {w : World} {base k : Nat} {v : Value} {zs : List Int} {z : Int} (hk : k < zs.length) (hx : z = zs.getD k 0) (h : w.ownsRow base 110 1 v (k + 1) (fz zs k ++ [.float .f64 z.toNat])) :
    w.ownsRow base 110 1 v (k + 1) (fz zs (k + 1)) := by
  subst hx
  unfold fz at h ⊢
  rw [List.take_succ_eq_append_getElem hk, List.map_append]
  simpa [List.getD_eq_getElem?_getD, hk] using h
theorem FL.of_own {base : Nat} {v : Value} {zs : List Int} (h : w.ownsRow base 110 1 v zs.length (fz zs zs.length)) : FL w v (zs.map Int.toNat) := by
  rcases h.2 with ⟨hv, h0⟩ | ⟨g, cap, cur, hv, _, hg, hn, _, hsz, ht⟩
  · refine ⟨none, 0, ?_, .inl ?_⟩
    · rw [hv, List.length_map, h0]
    · rw [List.length_eq_zero_iff.1 h0]; rfl
  · refine ⟨some ⟨g, 0, none⟩, cap, ?_, .inr ⟨g, cur, rfl, hg, fun i hi => ?_⟩⟩
    · rw [hv, List.length_map]
    · have hi' : i < zs.length := by simpa using hi
      have h1 : (fz zs zs.length)[i]? = some (.float .f64 ((zs.map Int.toNat).getD i 0)) := by
        unfold fz; rw [List.take_length]; simp [hi', List.getD_eq_getElem?_getD]
      rw [← h1, ← ht, List.getElem?_take, if_pos (by omega)]
      simp

set_option maxRecDepth 100000 in
set_option maxHeartbeats 40000000 in
theorem floats_c {w0 : World} (a0 : Option Addr) (len cap : Nat) (zs : List Int) (hS : NumsN w0 .u64 a0 len zs) (hb : len ≤ 17592186044415) (hm : Mod [] w0 w) :
    Calls Try.prog 133 #[.slice a0 len cap] w fun e w' => ∃ v, e = .returned v ∧ FL w' v (zs.map Int.toNat) ∧ Mod [] w w' := by
  have hzl := hS.1
  have HZL := Lib.hid hzl
  clear hzl
  go_enter Try.func133, Try.ntmps133
  go_wp2_with fail
  go_loopw [3, 4] (fun v i wr => ∃ k : Nat, k ≤ len ∧ i = .int .i64 k ∧ wr.ownsRow w.heap.size 110 1 v k (fz zs k) ∧ Mod [] w wr) (fun _ i _ => len - (intOf i).toNat)
  case atStart => exact ⟨0, Nat.zero_le _, rfl, World.ownsRow_nil _ _ _ _, Mod.refl _ _⟩
  case round =>
    obtain ⟨k, hk, rfl, hown, D⟩ := hrel
    by_cases hlt : k < len
    · obtain ⟨bz, off, z, rfl, hz, -, -, hcell⟩ := hS.get hlt
      have cz := hcell wr (hm.trans D)
      have HZ := Lib.hid hz
      have HCB := Lib.hid D.size
      clear hcell hz
      go_wp2_with fail
      refine (raw_c z _).mono ?_; rintro e w1 ⟨rfl, hw1⟩
      have hw1' := hw1.symm
      subst hw1'
      clear hw1
      obtain ⟨i0, hi0, hz0, hz1, hz2⟩ := info_parts info110
      go_wp2_with (at_builtin; refine wp_append rfl _ _ 112 rfl w.heap.size 110 i0 (.float .f64 0) Try.underlying112 hi0 hz0 hz1 hz2 rfl _ _ _ rfl (hown.alloc _) ⟨wr.heap.size, 0, none⟩ 1 1 [.float .f64 z.toNat] rfl rfl ?CA ?CB ?CC ?CD ?_)
      case CA => exact cell_one_new _ _ _
      case CB => intro u hu; simp at hu; subst hu; rfl
      case CC => omega
      case CD => have := HCB.out; simp; omega
      intro v' w' hap
      have hown2 := fz_next (by rw [HZL.out]; exact hlt) HZ.out.symm hap.owns
      have D2 := D.appended _ hown (Nat.le_refl _) hap
      clear hap hown D cz
      go_wp2
      go_roundw
      case rel => exact ⟨k + 1, by omega, by go_num, hown2, D2⟩
      case measure => simp [intOf]; omega
    · obtain rfl : k = len := by omega
      have hown2 : wr.ownsRow w.heap.size 110 1 u3 zs.length (fz zs zs.length) := by rw [HZL.out]; exact hown
      have HL := Lib.hid (FL.of_own hown2)
      clear hown hown2
      go_wp2
      go_ret
      exact ⟨_, rfl, HL.out, D⟩

set_option maxRecDepth 100000 in
set_option maxHeartbeats 40000000 in
theorem startr_ok (hM : MemAt 148 w a b s) (p0 p1 p2 p3 p4 p5 : Int) (v : Value) (hv : FL w v xs) (hn : xs.length ≤ 256) (hg : ∀ k : Nat, k < 3 * xs.length → s.bad (wdAt p4 0 k) = 0) :
    Calls Try.prog 134 #[.pointer (some ⟨a, 0, none⟩), .agg #[.int .i64 p0, .int .i64 p1, .int .i64 p2, .int .i64 p3, .int .i64 p4, .int .i64 p5], v] w fun e w' => e = .returned (.int .i64 0) ∧ MemAt 148 w' a b (startK s p4 xs xs.length) ∧ Mod [a, b] w w' := by
  obtain ⟨fa, cap, rfl, hf⟩ := hv
  have HG := Lib.hid hg
  have HF := Lib.hid hf
  clear hf hg
  have hal := hM.lta
  have hbl := hM.ltb
  go_enter Try.func134, Try.ntmps134
  go_wp2_with fail
  have M0 := hM.alloc (.cells #[.int .i64 p0, .int .i64 p1, .int .i64 p2, .int .i64 p3, .int .i64 p4, .int .i64 p5] 35)
  have P0 := heap_alloc_new w (.cells #[.int .i64 p0, .int .i64 p1, .int .i64 p2, .int .i64 p3, .int .i64 p4, .int .i64 p5] 35)
  have D0 := (Mod.refl [a, b] w).alloc (.cells #[.int .i64 p0, .int .i64 p1, .int .i64 p2, .int .i64 p3, .int .i64 p4, .int .i64 p5] 35)
  generalize w.alloc (.cells #[.int .i64 p0, .int .i64 p1, .int .i64 p2, .int .i64 p3, .int .i64 p4, .int .i64 p5] 35) = w0 at *
  generalize hpb : w.heap.size = pb at P0 ⊢
  clear hpb
  go_loopw [7] (fun i wr => ∃ k : Nat, k ≤ 3 * xs.length ∧ i = .int .i64 k ∧ MemAt 148 wr a b s ∧ wr.heap[pb]? = some (.cells #[.int .i64 p0, .int .i64 p1, .int .i64 p2, .int .i64 p3, .int .i64 p4, .int .i64 p5] 35 (0, 0)) ∧ Mod [a, b] w wr) (fun i _ => 3 * xs.length - (intOf i).toNat)
  case atStart => exact ⟨0, by omega, rfl, M0, P0, D0⟩
  case round =>
    clear M0 P0 D0
    obtain ⟨k, hk, rfl, M, hP, D⟩ := hrel
    by_cases hlt : k < 3 * xs.length
    · have hc : decide ((k : Int) < 3 * (xs.length : Int)) = true := decide_eq_true (by omega)
      have q0 : wr.cell? ⟨pb, 0, none⟩ = some (.int .i64 p0) := cell_of_blk hP rfl
      have q1 : wr.cell? ⟨pb, 1, none⟩ = some (.int .i64 p1) := cell_of_blk hP rfl
      have q2 : wr.cell? ⟨pb, 2, none⟩ = some (.int .i64 p2) := cell_of_blk hP rfl
      have q3 : wr.cell? ⟨pb, 3, none⟩ = some (.int .i64 p3) := cell_of_blk hP rfl
      have q4 : wr.cell? ⟨pb, 4, none⟩ = some (.int .i64 p4) := cell_of_blk hP rfl
      have q5 : wr.cell? ⟨pb, 5, none⟩ = some (.int .i64 p5) := cell_of_blk hP rfl
      have HK : Hid (s.bad (wdAt p4 0 k) = 0) := Lib.hid (HG.out k (by omega))
      go_wp2_with fail
      refine (word_r _ _ _ _ _ _ 0 k (by omega) (by omega) (by omega) (by omega) _).mono ?_; rintro e w1 ⟨rfl, rfl⟩
      go_wp2_with fail
      refine (peek_rq (M.alloc _) _).mono ?_; rintro e w1 ⟨rfl, rfl⟩
      rw [HK.out]
      have M1 := M.alloc (.cells #[.int .i64 p0, .int .i64 p1, .int .i64 p2, .int .i64 p3, .int .i64 p4, .int .i64 p5] 35)
      have P1 := blk_alloc_old (.cells #[.int .i64 p0, .int .i64 p1, .int .i64 p2, .int .i64 p3, .int .i64 p4, .int .i64 p5] 35) hP
      have D1 := D.alloc (.cells #[.int .i64 p0, .int .i64 p1, .int .i64 p2, .int .i64 p3, .int .i64 p4, .int .i64 p5] 35)
      clear M hP D q0 q1 q2 q3 q4 q5
      go_wp2
      go_roundw
      case rel => exact ⟨k + 1, by omega, by go_num, M1, P1, D1⟩
      case measure => simp [intOf]; omega
    · have hk3 : k = 3 * xs.length := by omega
      have hc : decide ((k : Int) < 3 * (xs.length : Int)) = false := decide_eq_false (by omega)
      clear hlt
      obtain ⟨wz, hwz⟩ : ∃ wz : World, wz = wr := ⟨_, rfl⟩
      subst hwz
      have HK3 := Lib.hid hk3
      clear hk3
      go_wp2_with fail
      go_loopw [11] (fun v wr => ∃ j : Nat, j ≤ xs.length ∧ v = .int .i64 j ∧ MemAt 148 wr a b (startK s p4 xs j) ∧ wr.heap[pb]? = some (.cells #[.int .i64 p0, .int .i64 p1, .int .i64 p2, .int .i64 p3, .int .i64 p4, .int .i64 p5] 35 (0, 0)) ∧ Mod [a, b] w wr) (fun v _ => xs.length - (intOf v).toNat)
      case atStart => exact ⟨0, by omega, rfl, M, hP, D⟩
      case round =>
        clear M hP D hc
        obtain ⟨j, hj, rfl, M, hP, D⟩ := hrel
        by_cases hlt : j < xs.length
        · have hp : 0 ≤ p4 ∧ p4 ≤ 4096 := by
            have h := HG.out 0 (by omega)
            by_cases hp : p4 < 0 ∨ 4096 < p4
            · rw [wdAt_bad hp, bad_neg] at h; exact absurd h (by decide)
            · omega
          obtain ⟨hp0, hp1⟩ := hp
          obtain ⟨g, cs, rfl, hgb, hcs⟩ := HF.out.resolve_left (fun e => by rw [e] at hlt; exact absurd hlt (by simp))
          have hgl := lt_of_block hgb
          have nga : g ≠ a := blk_ne hgb hM.hd (by decide)
          have ngb : g ≠ b := blk_ne hgb hM.ws (by decide)
          have G := D.at hgb (by simp [nga, ngb])
          have cg : wr.cell? ⟨g, j, none⟩ = some (.float .f64 (xs.getD j 0)) := cell_of_blk G (hcs j hlt)
          obtain ⟨x, hx⟩ : ∃ x, x = xs.getD j 0 := ⟨_, rfl⟩
          rw [← hx] at cg
          have HX := Lib.hid hx
          have q4 : wr.cell? ⟨pb, 4, none⟩ = some (.int .i64 p4) := cell_of_blk hP rfl
          have npa : pb ≠ a := blk_ne hP M.hd (by decide)
          have npb : pb ≠ b := blk_ne hP M.ws (by decide)
          clear hx hgb hcs G
          go_wp2_with fail
          refine (bits_r x _).mono ?_; rintro e w3 ⟨rfl, hw3⟩
          have hw3' := hw3.symm
          subst hw3'
          clear hw3
          go_wp2_with fail
          refine (poke_r M (p4 + 3 * (j : Int)) 0).mono ?_; rintro e w4 ⟨rfl, M4, d4⟩
          have P4 := d4.at hP (by simp [npa, npb])
          have q4 : w4.cell? ⟨pb, 4, none⟩ = some (.int .i64 p4) := cell_of_blk P4 rfl
          go_wp2_with fail
          refine (poke_r M4 (p4 + 3 * (j : Int) + 1) (fixB x : Int)).mono ?_; rintro e w5 ⟨rfl, M5, d5⟩
          have P5 := d5.at P4 (by simp [npa, npb])
          have q4 : w5.cell? ⟨pb, 4, none⟩ = some (.int .i64 p4) := cell_of_blk P5 rfl
          go_wp2_with fail
          refine (poke_r M5 (p4 + 3 * (j : Int) + 2) 0).mono ?_; rintro e w6 ⟨rfl, M6, d6⟩
          have P6 := d6.at P5 (by simp [npa, npb])
          have D6 := ((D.trans d4).trans d5).trans d6
          have E6 : MemAt 148 w6 a b (startK s p4 xs (j + 1)) := by rw [startK, ← HX.out]; exact M6
          clear M M4 M5 M6 D d4 d5 d6 cg q4 hP P4 P5
          go_wp2
          go_roundw
          case rel => exact ⟨j + 1, by omega, by go_num, E6, P6, D6⟩
          case measure => simp [intOf]; omega
        · obtain rfl : j = xs.length := by omega
          go_wp2
          go_ret
          exact ⟨rfl, M, D⟩

set_option maxRecDepth 100000 in
set_option maxHeartbeats 40000000 in
theorem startr_bad (hM : MemAt 148 w a b s) (p0 p1 p2 p3 p4 p5 : Int) (v : Value) (hv : FL w v xs) (hn : xs.length ≤ 256) (hb : ∃ k : Nat, k < 3 * xs.length ∧ s.bad (wdAt p4 0 k) ≠ 0) :
    Calls Try.prog 134 #[.pointer (some ⟨a, 0, none⟩), .agg #[.int .i64 p0, .int .i64 p1, .int .i64 p2, .int .i64 p3, .int .i64 p4, .int .i64 p5], v] w fun e w' => e = .returned (.int .i64 30) ∧ MemAt 148 w' a b s ∧ Mod [a, b] w w' := by
  obtain ⟨fa, cap, rfl, hf⟩ := hv
  have HB := Lib.hid hb
  have HF := Lib.hid hf
  clear hf hb
  have hal := hM.lta
  have hbl := hM.ltb
  go_enter Try.func134, Try.ntmps134
  go_wp2_with fail
  have M0 := hM.alloc (.cells #[.int .i64 p0, .int .i64 p1, .int .i64 p2, .int .i64 p3, .int .i64 p4, .int .i64 p5] 35)
  have P0 := heap_alloc_new w (.cells #[.int .i64 p0, .int .i64 p1, .int .i64 p2, .int .i64 p3, .int .i64 p4, .int .i64 p5] 35)
  have D0 := (Mod.refl [a, b] w).alloc (.cells #[.int .i64 p0, .int .i64 p1, .int .i64 p2, .int .i64 p3, .int .i64 p4, .int .i64 p5] 35)
  generalize w.alloc (.cells #[.int .i64 p0, .int .i64 p1, .int .i64 p2, .int .i64 p3, .int .i64 p4, .int .i64 p5] 35) = w0 at *
  generalize hpb : w.heap.size = pb at P0 ⊢
  clear hpb
  go_loopw [7] (fun i wr => ∃ k : Nat, k ≤ 3 * xs.length ∧ i = .int .i64 k ∧ MemAt 148 wr a b s ∧ wr.heap[pb]? = some (.cells #[.int .i64 p0, .int .i64 p1, .int .i64 p2, .int .i64 p3, .int .i64 p4, .int .i64 p5] 35 (0, 0)) ∧ Mod [a, b] w wr ∧ ∀ j : Nat, j < k → s.bad (wdAt p4 0 j) = 0) (fun i _ => 3 * xs.length - (intOf i).toNat)
  case atStart => exact ⟨0, by omega, rfl, M0, P0, D0, fun j hj => absurd hj (by omega)⟩
  case round =>
    clear M0 P0 D0
    obtain ⟨k, hk, rfl, M, hP, D, hgd⟩ := hrel
    by_cases hlt : k < 3 * xs.length
    · have hc : decide ((k : Int) < 3 * (xs.length : Int)) = true := decide_eq_true (by omega)
      have q0 : wr.cell? ⟨pb, 0, none⟩ = some (.int .i64 p0) := cell_of_blk hP rfl
      have q1 : wr.cell? ⟨pb, 1, none⟩ = some (.int .i64 p1) := cell_of_blk hP rfl
      have q2 : wr.cell? ⟨pb, 2, none⟩ = some (.int .i64 p2) := cell_of_blk hP rfl
      have q3 : wr.cell? ⟨pb, 3, none⟩ = some (.int .i64 p3) := cell_of_blk hP rfl
      have q4 : wr.cell? ⟨pb, 4, none⟩ = some (.int .i64 p4) := cell_of_blk hP rfl
      have q5 : wr.cell? ⟨pb, 5, none⟩ = some (.int .i64 p5) := cell_of_blk hP rfl
      have HGD := Lib.hid hgd
      clear hgd
      by_cases hbk : s.bad (wdAt p4 0 k) = 0
      · have HK := Lib.hid hbk
        clear hbk
        go_wp2_with fail
        refine (word_r _ _ _ _ _ _ 0 k (by omega) (by omega) (by omega) (by omega) _).mono ?_; rintro e w1 ⟨rfl, rfl⟩
        go_wp2_with fail
        refine (peek_rq (M.alloc _) _).mono ?_; rintro e w1 ⟨rfl, rfl⟩
        rw [HK.out]
        have M1 := M.alloc (.cells #[.int .i64 p0, .int .i64 p1, .int .i64 p2, .int .i64 p3, .int .i64 p4, .int .i64 p5] 35)
        have P1 := blk_alloc_old (.cells #[.int .i64 p0, .int .i64 p1, .int .i64 p2, .int .i64 p3, .int .i64 p4, .int .i64 p5] 35) hP
        have D1 := D.alloc (.cells #[.int .i64 p0, .int .i64 p1, .int .i64 p2, .int .i64 p3, .int .i64 p4, .int .i64 p5] 35)
        clear M hP D q0 q1 q2 q3 q4 q5
        go_wp2
        go_roundw
        case rel => exact ⟨k + 1, by omega, by go_num, M1, P1, D1, fun j hj => by rcases Nat.lt_succ_iff_lt_or_eq.1 hj with h | rfl; exact HGD.out j h; exact HK.out⟩
        case measure => simp [intOf]; omega
      · have HK := Lib.hid (bad_30 hbk)
        clear hbk
        go_wp2_with fail
        refine (word_r _ _ _ _ _ _ 0 k (by omega) (by omega) (by omega) (by omega) _).mono ?_; rintro e w1 ⟨rfl, rfl⟩
        go_wp2_with fail
        refine (peek_rq (M.alloc _) _).mono ?_; rintro e w1 ⟨rfl, rfl⟩
        rw [HK.out]
        have M1 := M.alloc (.cells #[.int .i64 p0, .int .i64 p1, .int .i64 p2, .int .i64 p3, .int .i64 p4, .int .i64 p5] 35)
        have P1 := blk_alloc_old (.cells #[.int .i64 p0, .int .i64 p1, .int .i64 p2, .int .i64 p3, .int .i64 p4, .int .i64 p5] 35) hP
        have D1 := D.alloc (.cells #[.int .i64 p0, .int .i64 p1, .int .i64 p2, .int .i64 p3, .int .i64 p4, .int .i64 p5] 35)
        clear M hP D q0 q1 q2 q3 q4 q5
        go_wp2
        go_ret
        exact ⟨rfl, M1, D1⟩
    · obtain ⟨j, hj, hbj⟩ := HB.out
      exact absurd (hgd j (by omega)) hbj

set_option maxRecDepth 100000 in
set_option maxHeartbeats 40000000 in
theorem startr_long (hM : MemAt 148 w a b s) (p0 p1 p2 p3 p4 p5 : Int) (v : Value) (hv : FL w v xs) (h1 : 256 < xs.length) (h2 : xs.length ≤ 140737488351232) :
    Calls Try.prog 134 #[.pointer (some ⟨a, 0, none⟩), .agg #[.int .i64 p0, .int .i64 p1, .int .i64 p2, .int .i64 p3, .int .i64 p4, .int .i64 p5], v] w fun e w' => e = .returned (.int .i64 2) ∧ MemAt 148 w' a b s ∧ Mod [a, b] w w' := by
  obtain ⟨fa, cap, rfl, hf⟩ := hv
  clear hf
  go_enter Try.func134, Try.ntmps134
  go_wp2
  go_ret
  exact ⟨rfl, hM.alloc _, (Mod.refl _ _).alloc _⟩
theorem startr_c (hM : MemAt 148 w a b s) (p0 p1 p2 p3 p4 p5 : Int) (v : Value) (hv : FL w v xs) (hl : xs.length ≤ 140737488351232) :
    Calls Try.prog 134 #[.pointer (some ⟨a, 0, none⟩), .agg #[.int .i64 p0, .int .i64 p1, .int .i64 p2, .int .i64 p3, .int .i64 p4, .int .i64 p5], v] w fun e w' => e = .returned (.int .i64 (startE s p4 xs)) ∧ MemAt 148 w' a b (startM s p4 xs) ∧ Mod [a, b] w w' := by
  unfold startM
  by_cases h1 : 256 < xs.length
  · have e : startE s p4 xs = 2 := if_pos h1
    rw [e, if_neg (by decide)]; exact startr_long hM _ _ _ _ _ _ v hv h1 hl
  · by_cases h2 : xs.length = 0
    · have e : startE s p4 xs = 0 := by unfold startE; rw [if_neg h1, if_pos h2]
      rw [e, if_pos rfl]; exact startr_ok hM _ _ _ _ _ _ v hv (by omega) (fun k hk => absurd hk (by omega))
    · by_cases h3 : p4 < 0 ∨ 4096 < p4 ∨ (s.ws.length : Int) < p4 + 3 * xs.length
      · have e : startE s p4 xs = 30 := by unfold startE; rw [if_neg h1, if_neg h2, if_pos h3]
        rw [e, if_neg (by decide)]
        refine startr_bad hM _ _ _ _ _ _ v hv (by omega) ⟨3 * xs.length - 1, by omega, ?_⟩
        by_cases hp : p4 < 0 ∨ 4096 < p4
        · rw [wdAt_bad hp, bad_neg]; decide
        · rw [wdAt_ok (by omega) (by omega)]; unfold MemS.bad; rw [if_pos (by omega)]; decide
      · have e : startE s p4 xs = 0 := by unfold startE; rw [if_neg h1, if_neg h2, if_neg h3]
        rw [e, if_pos rfl]
        refine startr_ok hM _ _ _ _ _ _ v hv (by omega) (fun k hk => ?_)
        rw [wdAt_ok (by omega) (by omega)]; unfold MemS.bad; rw [if_neg (by omega)]

end Go.Proofs.Ytobmgnoceacoaaa

/- Layer 11: Start. -/
import Derived.Test.YtobmgnoceacoaaaXL
import Derived.Test.YtobmgnoceacoaaaPlays03
import Derived.Deep.QuietTactic
import Derived.BigQuiet
import Derived.Deep.DeepCutAuto
import Derived.Deep.CutBlock
import Derived.Deep.RegionHeld3
import Derived.StillTailTactics
import Derived.IntWalk
namespace Go.Proofs.Ytobmgnoceacoaaa
open Go.RowKit
attribute [local go_sem] run_store_float

/-- A list of floats in memory, by their bits. -/
def FL (w : World) (v : Value) (xs : List Nat) : Prop :=
  ∃ a cap, v = .slice a xs.length cap ∧ (xs = [] ∨ ∃ g cs, a = some ⟨g, 0, none⟩ ∧ w.heap[g]? = some (.cells cs 110 (0, 0)) ∧ ∀ i, i < xs.length → cs[i]? = some (.float .f64 (xs.getD i 0)))
/-- The numbers that Start lays, one cell behind the other. -/
def startK (s : MemS) (p4 : Int) (xs : List Nat) : Nat → MemS
  | 0 => s
  | k + 1 => (((startK s p4 xs k).poke (p4 + 3 * k) 0).poke (p4 + 3 * k + 1) (fixB (xs.getD k 0) : Int)).poke (p4 + 3 * k + 2) 0
theorem startK_len (s : MemS) (p4 : Int) (xs : List Nat) : ∀ k, (startK s p4 xs k).ws.length = s.ws.length
  | 0 => rfl
  | k + 1 => by rw [startK, len_poke, len_poke, len_poke, startK_len s p4 xs k]
def startE (s : MemS) (p4 : Int) (xs : List Nat) : Int := if 256 < xs.length then 2 else if xs.length = 0 then 0 else if p4 < 0 ∨ 4096 < p4 ∨ (s.ws.length : Int) < p4 + 3 * xs.length then 30 else 0
def startM (s : MemS) (p4 : Int) (xs : List Nat) : MemS := if startE s p4 xs = 0 then startK s p4 xs xs.length else s
variable {a b : Nat} {s : MemS} {w : World} {xs : List Nat}

set_option maxRecDepth 100000 in
set_option maxHeartbeats 40000000 in
theorem start_ok (hM : MemAt 142 w a b s) (p0 p1 p2 p3 p4 p5 : Int) (v : Value) (hv : FL w v xs) (h1 : 0 < xs.length) (h2 : xs.length ≤ 256) (h3 : 0 ≤ p4) (h4 : p4 ≤ 4096) (h5 : p4 + 3 * xs.length ≤ s.ws.length) :
    Calls Try.prog 74 #[.pointer (some ⟨a, 0, none⟩), .agg #[.int .i64 p0, .int .i64 p1, .int .i64 p2, .int .i64 p3, .int .i64 p4, .int .i64 p5], v] w fun e w' => e = .returned (.int .i64 0) ∧ MemAt 142 w' a b (startK s p4 xs xs.length) ∧ Mod [a, b] w w' := by
  obtain ⟨fa, cap, rfl, hf⟩ := hv
  obtain ⟨g, cs, rfl, hg, hcs⟩ := hf.resolve_left (fun e => by rw [e] at h1; exact absurd h1 (by decide))
  have hgl := lt_of_block hg
  have hga : g ≠ a := blk_ne hg hM.hd (by decide)
  have hgb : g ≠ b := blk_ne hg hM.ws (by decide)
  have hal := hM.lta
  have hbl := hM.ltb
  clear hf
  go_enter Try.func74, Try.ntmps74
  go_wp2_with fail
  refine (place11_e _ _ _ _ _ _ 0 0 (by omega) (by omega) h3 h4 (by omega) (by omega) _).mono ?_; rintro e w1 ⟨rfl, rfl⟩
  go_wp2_with fail
  refine (len_cq ((hM.alloc _).alloc _)).mono ?_; rintro e w1 ⟨rfl, rfl⟩
  go_wp2_with fail
  have M0 := (hM.alloc (.cells #[.int .i64 p0, .int .i64 p1, .int .i64 p2, .int .i64 p3, .int .i64 p4, .int .i64 p5] 35)).alloc (.cells #[.int .i64 p0, .int .i64 p1, .int .i64 p2, .int .i64 p3, .int .i64 p4, .int .i64 p5] 35)
  have G0 : ((w.alloc (.cells #[.int .i64 p0, .int .i64 p1, .int .i64 p2, .int .i64 p3, .int .i64 p4, .int .i64 p5] 35)).alloc (.cells #[.int .i64 p0, .int .i64 p1, .int .i64 p2, .int .i64 p3, .int .i64 p4, .int .i64 p5] 35)).heap[g]? = some (.cells cs 110 (0, 0)) := blk_alloc_old _ (blk_alloc_old _ hg)
  have D0 : Mod [a, b] w ((w.alloc (.cells #[.int .i64 p0, .int .i64 p1, .int .i64 p2, .int .i64 p3, .int .i64 p4, .int .i64 p5] 35)).alloc (.cells #[.int .i64 p0, .int .i64 p1, .int .i64 p2, .int .i64 p3, .int .i64 p4, .int .i64 p5] 35)) := ((Mod.refl _ _).alloc _).alloc _
  clear hM hg
  go_loopw [7, 36] (fun t v wr => ∃ i : Nat, i ≤ xs.length ∧ t = .int .i64 (p4 + 3 * (i : Int)) ∧ v = .int .i64 i ∧ MemAt 142 wr a b (startK s p4 xs i) ∧ wr.heap[g]? = some (.cells cs 110 (0, 0)) ∧ Mod [a, b] w wr) (fun _ v _ => xs.length - (intOf v).toNat)
  case atStart => exact ⟨0, by omega, by simp, rfl, M0, G0, D0⟩
  case round =>
    clear M0 G0 D0
    obtain ⟨i, hi, rfl, rfl, M, G, D⟩ := hrel
    by_cases hlt : i < xs.length
    · have cg : wr.cell? ⟨g, i, none⟩ = some (.float .f64 (xs.getD i 0)) := cell_of_blk G (hcs i hlt)
      obtain ⟨x, hx⟩ : ∃ x, x = xs.getD i 0 := ⟨_, rfl⟩
      rw [← hx] at cg
      have HX := Lib.hid hx
      clear hx
      go_wp2_with fail
      refine (poke_c M (p4 + 3 * (i : Int)) 0).mono ?_; rintro e w2 ⟨rfl, M2, d2⟩
      go_wp2_with fail
      refine (bits_c x _).mono ?_; rintro e w3 ⟨rfl, hw3⟩
      have hw3' := hw3.symm
      subst hw3'
      go_wp2_with fail
      refine (poke_c M2 (p4 + 3 * (i : Int) + 1) (fixB x : Int)).mono ?_; rintro e w4 ⟨rfl, M4, d4⟩
      go_wp2_with fail
      refine (poke_c M4 (p4 + 3 * (i : Int) + 2) 0).mono ?_; rintro e w5 ⟨rfl, M5, d5⟩
      have G5 := d5.at (d4.at (d2.at G (by simp [hga, hgb])) (by simp [hga, hgb])) (by simp [hga, hgb])
      have D5 := ((D.trans d2).trans d4).trans d5
      have E5 : MemAt 142 w5 a b (startK s p4 xs (i + 1)) := by rw [startK, ← HX.out]; exact M5
      clear M M2 M4 M5 G D d2 d4 d5 cg
      go_wp2
      go_roundw
      case rel => exact ⟨i + 1, by omega, by congr 1; omega, by go_num, E5, G5, D5⟩
      case measure => simp [intOf]; omega
    · obtain rfl : i = xs.length := by omega
      go_wp2
      go_ret
      exact ⟨rfl, M, D⟩

set_option maxRecDepth 100000 in
set_option maxHeartbeats 40000000 in
theorem start_long (hM : MemAt 142 w a b s) (p0 p1 p2 p3 p4 p5 : Int) (v : Value) (hv : FL w v xs) (h1 : 256 < xs.length) (h2 : xs.length ≤ 140737488351232) :
    Calls Try.prog 74 #[.pointer (some ⟨a, 0, none⟩), .agg #[.int .i64 p0, .int .i64 p1, .int .i64 p2, .int .i64 p3, .int .i64 p4, .int .i64 p5], v] w fun e w' => e = .returned (.int .i64 2) ∧ MemAt 142 w' a b s ∧ Mod [a, b] w w' := by
  obtain ⟨fa, cap, rfl, hf⟩ := hv
  clear hf
  go_enter Try.func74, Try.ntmps74
  go_wp2
  go_ret
  exact ⟨rfl, hM.alloc _, (Mod.refl _ _).alloc _⟩
set_option maxRecDepth 100000 in
set_option maxHeartbeats 40000000 in
theorem start_none (hM : MemAt 142 w a b s) (p0 p1 p2 p3 p4 p5 : Int) (v : Value) (hv : FL w v xs) (h1 : xs.length = 0) :
    Calls Try.prog 74 #[.pointer (some ⟨a, 0, none⟩), .agg #[.int .i64 p0, .int .i64 p1, .int .i64 p2, .int .i64 p3, .int .i64 p4, .int .i64 p5], v] w fun e w' => e = .returned (.int .i64 0) ∧ MemAt 142 w' a b s ∧ Mod [a, b] w w' := by
  obtain ⟨fa, cap, rfl, hf⟩ := hv
  rw [h1]
  clear hf h1
  go_enter Try.func74, Try.ntmps74
  go_wp2
  go_ret
  exact ⟨rfl, hM.alloc _, (Mod.refl _ _).alloc _⟩
set_option maxRecDepth 100000 in
set_option maxHeartbeats 40000000 in
theorem start_place (hM : MemAt 142 w a b s) (p0 p1 p2 p3 p4 p5 : Int) (v : Value) (hv : FL w v xs) (h1 : 0 < xs.length) (h2 : xs.length ≤ 256) (h3 : p4 < 0 ∨ 4096 < p4) :
    Calls Try.prog 74 #[.pointer (some ⟨a, 0, none⟩), .agg #[.int .i64 p0, .int .i64 p1, .int .i64 p2, .int .i64 p3, .int .i64 p4, .int .i64 p5], v] w fun e w' => e = .returned (.int .i64 30) ∧ MemAt 142 w' a b s ∧ Mod [a, b] w w' := by
  obtain ⟨fa, cap, rfl, hf⟩ := hv
  have he := xpErr_place (p4 := p4) (c := 0) (by omega) (by omega) h3
  have He := Lib.hid he
  clear hf he
  go_enter Try.func74, Try.ntmps74
  go_wp2_with fail
  refine (place11 _ _ _ _ _ _ 0 0 (by omega) (by omega) _).mono ?_; rintro e w1 ⟨rfl, rfl⟩
  rw [He.out]
  go_wp2
  go_ret
  exact ⟨rfl, (hM.alloc _).alloc _, ((Mod.refl _ _).alloc _).alloc _⟩
set_option maxRecDepth 100000 in
set_option maxHeartbeats 40000000 in
theorem start_room (hM : MemAt 142 w a b s) (p0 p1 p2 p3 p4 p5 : Int) (v : Value) (hv : FL w v xs) (h1 : 0 < xs.length) (h2 : xs.length ≤ 256) (h3 : 0 ≤ p4) (h4 : p4 ≤ 4096) (h5 : (s.ws.length : Int) < p4 + 3 * xs.length) :
    Calls Try.prog 74 #[.pointer (some ⟨a, 0, none⟩), .agg #[.int .i64 p0, .int .i64 p1, .int .i64 p2, .int .i64 p3, .int .i64 p4, .int .i64 p5], v] w fun e w' => e = .returned (.int .i64 30) ∧ MemAt 142 w' a b s ∧ Mod [a, b] w w' := by
  obtain ⟨fa, cap, rfl, hf⟩ := hv
  clear hf
  go_enter Try.func74, Try.ntmps74
  go_wp2_with fail
  refine (place11_e _ _ _ _ _ _ 0 0 (by omega) (by omega) h3 h4 (by omega) (by omega) _).mono ?_; rintro e w1 ⟨rfl, rfl⟩
  go_wp2_with fail
  refine (len_cq ((hM.alloc _).alloc _)).mono ?_; rintro e w1 ⟨rfl, rfl⟩
  go_wp2
  go_ret
  exact ⟨rfl, (hM.alloc _).alloc _, ((Mod.refl _ _).alloc _).alloc _⟩
theorem start_c (hM : MemAt 142 w a b s) (p0 p1 p2 p3 p4 p5 : Int) (v : Value) (hv : FL w v xs) (hl : xs.length ≤ 140737488351232) :
    Calls Try.prog 74 #[.pointer (some ⟨a, 0, none⟩), .agg #[.int .i64 p0, .int .i64 p1, .int .i64 p2, .int .i64 p3, .int .i64 p4, .int .i64 p5], v] w fun e w' => e = .returned (.int .i64 (startE s p4 xs)) ∧ MemAt 142 w' a b (startM s p4 xs) ∧ Mod [a, b] w w' := by
  unfold startM
  by_cases h1 : 256 < xs.length
  · have e : startE s p4 xs = 2 := if_pos h1
    rw [e, if_neg (by decide)]; exact start_long hM _ _ _ _ _ _ v hv h1 hl
  · by_cases h2 : xs.length = 0
    · have e : startE s p4 xs = 0 := by unfold startE; rw [if_neg h1, if_pos h2]
      rw [e, if_pos rfl, h2]; exact start_none hM _ _ _ _ _ _ v hv h2
    · by_cases h3 : p4 < 0 ∨ 4096 < p4
      · have e : startE s p4 xs = 30 := by unfold startE; rw [if_neg h1, if_neg h2, if_pos (by omega)]
        rw [e, if_neg (by decide)]; exact start_place hM _ _ _ _ _ _ v hv (by omega) (by omega) h3
      · by_cases h4 : (s.ws.length : Int) < p4 + 3 * xs.length
        · have e : startE s p4 xs = 30 := by unfold startE; rw [if_neg h1, if_neg h2, if_pos (by omega)]
          rw [e, if_neg (by decide)]; exact start_room hM _ _ _ _ _ _ v hv (by omega) (by omega) (by omega) (by omega) h4
        · have e : startE s p4 xs = 0 := by unfold startE; rw [if_neg h1, if_neg h2, if_neg (by omega)]
          rw [e, if_pos rfl]; exact start_ok hM _ _ _ _ _ _ v hv (by omega) (by omega) (by omega) (by omega) (by omega)

end Go.Proofs.Ytobmgnoceacoaaa

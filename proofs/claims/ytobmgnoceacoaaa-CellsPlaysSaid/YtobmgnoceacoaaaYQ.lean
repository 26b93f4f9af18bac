/- CellsPlays: the walk. -/
import Derived.Test.YtobmgnoceacoaaaYO
import Derived.Test.YtobmgnoceacoaaaYP
import Derived.Test.YtobmgnoceacoaaaXLV
import Derived.Test.YtobmgnoceacoaaaWords
import Derived.Test.YtobmgnoceacoaaaMV
import Derived.Deep.QuietTactic
import Derived.BigQuiet
import Derived.Deep.DeepCutAuto
import Derived.Deep.CutBlock
import Derived.Deep.RegionHeld3
import Derived.StillTailTactics
import Derived.IntWalk
namespace Go.Proofs.Ytobmgnoceacoaaa
open Go.RowKit
attribute [local go_sem] run_store_float

variable {w0 w w1 w' : World} {lab lab' : Nat → Nat} {x a b c d k g n : Nat} {r0 r1 d0 d1 u0 u1 e0 e1 v : Value} {s t s' : MemS} {R0 R1 : Option RdS} {D0 D1 : Option (RdS × List Int)} {U0 U1 E0 E1 : Option WrS} {r r' : RdS} {q q' : WrS} {u : Value} {L L' : List Int} {kr : Nat}
def Ok11 (w0 w : World) (x a b c d : Nat) : Prop :=
  ∃ lab r0 r1 d0 d1 u0 u1 e0 e1 s R0 R1 D0 D1 U0 U1 E0 E1, W11 w0 w lab x a b c d r0 r1 d0 d1 u0 u1 e0 e1 s s R0 R1 D0 D1 U0 U1 E0 E1 ∧ CplR R0 D0 ∧ CplR R1 D1 ∧ CplW U0 E0 ∧ CplW U1 E1
theorem Ok11.both (h : Ok11 w0 w x a b c d) : (∃ s, Both w a b c d s) ∧ Mod [] w0 w := by
  obtain ⟨lab, r0, r1, d0, d1, u0, u1, e0, e1, s, R0, R1, D0, D1, U0, U1, E0, E1, W, _⟩ := h
  refine ⟨⟨s, W.m, W.r, fun e => ?_⟩, W.fr⟩
  have h1 := W.lb
  rw [e, W.ld] at h1
  exact absurd h1 (by decide)
/-- The world at first. -/
theorem ok11_first (hM : MemAt 142 w a b s) (hR : MemAt 148 w c d s) (hbd : b ≠ d) (hD : Mod [] w0 w) (ga : w0.heap.size ≤ a) (gb : w0.heap.size ≤ b) (gc : w0.heap.size ≤ c) (gd : w0.heap.size ≤ d) :
    Ok11 w0 (w.alloc (.cells #[.pointer (some ⟨a, 0, none⟩), .pointer (some ⟨c, 0, none⟩), .pointer none, .pointer none, .pointer none, .pointer none, .pointer none, .pointer none, .pointer none, .pointer none] 136)) w.heap.size a b c d := by
  have hac : a ≠ c := blk_ne hM.hd hR.hd (by decide)
  have had : a ≠ d := blk_ne hM.hd hR.ws (by decide)
  have hbc : b ≠ c := blk_ne hM.ws hR.hd (by decide)
  have la := hM.lta
  have lb := hM.ltb
  have lc := hR.lta
  have ld := hR.ltb
  have hz := hD.size
  refine ⟨fun n => if n = w.heap.size then 2 else if n = a then 0 else if n = b then 0 else if n = c then 1 else if n = d then 1 else 11, _, _, _, _, _, _, _, _, s, none, none, none, none, none, none, none, none, ⟨heap_alloc_new _ _, hM.alloc _, hR.alloc _, if_pos rfl, ?_, ?_, ?_, ?_, rfl, rfl, rfl, rfl, rfl, rfl, rfl, rfl, ?_, hD.alloc _⟩, trivial, trivial, trivial, trivial⟩
  · show (if a = w.heap.size then 2 else _) = 0; rw [if_neg (by omega), if_pos rfl]
  · show (if b = w.heap.size then 2 else _) = 0; rw [if_neg (by omega), if_neg (Ne.symm hM.ne), if_pos rfl]
  · show (if c = w.heap.size then 2 else _) = 1; rw [if_neg (by omega), if_neg (Ne.symm hac), if_neg (Ne.symm hbc), if_pos rfl]
  · show (if d = w.heap.size then 2 else _) = 1; rw [if_neg (by omega), if_neg (Ne.symm had), if_neg (Ne.symm hbd), if_neg (Ne.symm hR.ne), if_pos rfl]
  · intro n hn
    show (if n = w.heap.size then 2 else _) = 11
    rw [if_neg (by omega), if_neg (by omega), if_neg (by omega), if_neg (by omega), if_neg (by omega)]
set_option maxRecDepth 100000 in
set_option maxHeartbeats 1000000 in
theorem cellsPlays_bad (n : Int) (v : Value) (hn : n < 1 ∨ 4096 < n) (w : World) : Calls Try.prog 22 #[.int .i64 n, v] w fun e w' => e = .returned (.bool true) ∧ Mod [] w w' := by
  go_enter Try.func22, Try.ntmps22
  go_wp2_with fail
  refine (live11 _).mono ?_; rintro e w1 ⟨rfl, d1⟩
  go_wp2_with fail
  refine (new_bad n hn _).mono ?_; rintro e w1 ⟨rfl, rfl⟩
  go_wp2_with fail
  refine (newr_bad n hn _).mono ?_; rintro e w1 ⟨rfl, rfl⟩
  go_wp2
  go_ret
  exact ⟨rfl, d1⟩
set_option maxRecDepth 100000 in
set_option maxHeartbeats 40000000 in
theorem cellsPlays_ok (n : Int) (a0 : Option Addr) (len cap : Nat) (h1 : 1 ≤ n) (h2 : n ≤ 4096) (w : World) (hS : Script11 w a0 len) :
    Calls Try.prog 22 #[.int .i64 n, .slice a0 len cap] w fun e w' => e = .returned (.bool true) ∧ Mod [] w w' := by
  have hlb := hS.1
  go_enter Try.func22, Try.ntmps22
  go_wp2_with fail
  refine (live11 _).mono ?_; rintro e w1 ⟨rfl, d1⟩
  go_wp2_with fail
  refine (new_e n h1 h2 _).mono ?_; rintro e w2 ⟨a, b, rfl, M2, ha, hb, d2⟩
  go_wp2_with fail
  refine (newr_e n h1 h2 _).mono ?_; rintro e w3 ⟨c, d, rfl, R3, hc, hd, d3⟩
  have z1 := d1.size
  have z2 := d2.size
  have O4 := ok11_first (w0 := w) (M2.mod d3 (by simp) (by simp)) R3 (by have := M2.ltb; omega) ((d1.trans d2).trans d3) (by omega) (by omega) (by omega) (by omega)
  clear d1 d2 d3 M2 R3 ha hb hc hd z1 z2
  go_upto_region 7 with fail
  generalize w3.alloc (.cells #[.pointer (some ⟨a, 0, none⟩), .pointer (some ⟨c, 0, none⟩), .pointer none, .pointer none, .pointer none, .pointer none, .pointer none, .pointer none, .pointer none, .pointer none] 136) = w4 at *
  generalize w3.heap.size = x at *
  go_wp2_with fail
  go_loopw [45] (fun i wr => ∃ j : Nat, j ≤ len ∧ i = .int .i64 j ∧ Ok11 w wr x a b c d) (fun i _ => len - (intOf i).toNat)
  case atStart => exact ⟨0, Nat.zero_le _, rfl, O4⟩
  case round =>
    clear O4
    obtain ⟨j, hj, rfl, hO⟩ := hrel
    by_cases hlt : j < len
    · obtain ⟨bs, off, kd, ii, ce, cl, vv, xx, yy, la, ln, lc, zs, rfl, hN, hln, hcell⟩ := hS.get hlt
      obtain ⟨lab, r0, r1, d0, d1, u0, u1, e0, e1, s, R0, R1, D0, D1, U0, U1, E0, E1, W0, k0, k1, k2, k3⟩ := hO
      obtain ⟨c0, c1, c2, c3, c4, c5, c6, c7⟩ := hcell wr W0.fr
      have W1 := W0.mod0 ((Mod.refl [] _).alloc (.cells #[.int .i64 kd, .int .i64 ii, .int .i64 ce, .int .i64 cl, .int .u64 vv, .int .u64 xx, .int .u64 yy, .slice la ln lc] 138))
      clear hcell W0
      go_wp2_with fail
      refine (step11 W1 k0 k1 k2 k3 kd ii ce cl vv xx yy la ln lc zs hN hln).mono ?_; rintro e w4 ⟨rfl, hK⟩
      have HK := Lib.hid hK
      clear W1 hK c0 c1 c2 c3 c4 c5 c6 c7 hN hln
      go_wp2
      go_roundw
      case rel => exact ⟨j + 1, by omega, by go_num, HK.out⟩
      case measure => simp [intOf]; omega
    · obtain ⟨⟨s, hB⟩, fr⟩ := hO.both
      have hl := hB.m.len
      clear hO
      go_wp2_with fail
      refine (all_r hB.r).mono ?_; rintro e w4 ⟨l, rfl, L4, R4, d4⟩
      have B4 : Both w4 a b c d s := ⟨hB.m.mod d4 (by simp) (by simp), R4, hB.bd⟩
      have D4 := fr.trans d4
      clear hB fr d4 R4
      go_wp2_with fail
      refine (all_e B4.m).mono ?_; rintro e w5 ⟨g, rfl, G5, hg, M5, d5⟩
      have L5 := L4.mod d5 (by simp)
      have B5 := B4.mod d5 (by simp) (by simp) (by simp) (by simp)
      have D5 := D4.trans d5
      clear B4 D4 d5 L4 M5
      go_wp2_with fail
      refine (words89 (ListAt.of_blk G5) L5 hl).mono ?_; rintro e w6 ⟨rfl, m, rfl⟩
      have B6 := B5.drewN m
      have D6 := D5.drewN m
      clear B5 D5 L5 G5
      go_wp2_with fail
      refine (count_cq B6.m).mono ?_; rintro e w7 ⟨rfl, rfl⟩
      go_wp2_with fail
      refine (count_rq B6.r).mono ?_; rintro e w7 ⟨rfl, rfl⟩
      go_wp2
      go_ret
      exact ⟨rfl, D6⟩
theorem cellsPlays_walk (n : Int) (a0 : Option Addr) (len cap : Nat) (w : World) (hS : Script11 w a0 len) :
    Calls Try.prog 22 #[.int .i64 n, .slice a0 len cap] w fun e w' => e = .returned (.bool true) ∧ Mod [] w w' := by
  by_cases h : n < 1 ∨ 4096 < n
  · exact cellsPlays_bad n _ h w
  · exact cellsPlays_ok n a0 len cap (by omega) (by omega) w hS

end Go.Proofs.Ytobmgnoceacoaaa

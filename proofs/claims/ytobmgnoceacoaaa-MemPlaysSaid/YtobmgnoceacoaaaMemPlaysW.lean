/- MemPlays: the walk. -/
import Derived.Test.YtobmgnoceacoaaaPlays03
import Derived.Test.YtobmgnoceacoaaaLive03
namespace Go.Proofs.Ytobmgnoceacoaaa
open Go.RowKit

set_option maxRecDepth 100000 in
set_option maxHeartbeats 1000000 in
theorem memPlays_bad (n : Int) (v : Value) (hn : n < 1 ∨ 4096 < n) (w : World) : Calls Try.prog 9 #[.int .i64 n, v] w fun e w' => e = .returned (.bool true) ∧ Mod [] w w' := by
  go_enter Try.func9, Try.ntmps9
  go_wp2_with fail
  refine (live03 _).mono ?_; rintro e w1 ⟨rfl, d1⟩
  go_wp2_with fail
  refine (new_bad n hn _).mono ?_; rintro e w1 ⟨rfl, rfl⟩
  go_wp2_with fail
  refine (newr_bad n hn _).mono ?_; rintro e w1 ⟨rfl, rfl⟩
  go_wp2
  go_ret
  exact ⟨rfl, d1⟩

set_option maxRecDepth 100000 in
set_option maxHeartbeats 4000000 in
theorem memPlays_ok (n : Int) (a0 : Option Addr) (len cap : Nat) (ops : List (List Int)) (h1 : 1 ≤ n) (h2 : n ≤ 4096) (w : World) (hS : Script w [.i64, .i64, .u64] a0 len ops) :
    Calls Try.prog 9 #[.int .i64 n, .slice a0 len cap] w fun e w' => e = .returned (.bool true) ∧ Mod [] w w' := by
  have hlb := hS.2.1
  go_enter Try.func9, Try.ntmps9
  go_wp2_with fail
  refine (live03 _).mono ?_; rintro e w1 ⟨rfl, d1⟩
  go_wp2_with fail
  refine (new_e n h1 h2 _).mono ?_; rintro e w2 ⟨a, b, rfl, M2, ha, hb, d2⟩
  go_wp2_with fail
  refine (newr_e n h1 h2 _).mono ?_; rintro e w3 ⟨c, d, rfl, R3, hc, hd, d3⟩
  have z1 := d1.size
  have z2 := d2.size
  have B3 : Both w3 a b c d (MemS.fresh n.toNat) := ⟨M2.mod d3 (by simp) (by simp), R3, by have := M2.ltb; omega⟩
  have D3 := (d1.trans d2).trans d3
  generalize MemS.fresh n.toNat = s0 at B3 M2 R3
  clear d1 d2 d3 M2 R3
  go_wp2_with fail
  go_loopw [6, 42] (fun mp i wr => ∃ (k a b : Nat) (s : MemS), k ≤ len ∧ i = .int .i64 k ∧ mp = .pointer (some ⟨a, 0, none⟩) ∧ Both wr a b c d s ∧ w.heap.size ≤ a ∧ w.heap.size ≤ b ∧ Mod [] w wr) (fun _ i _ => len - (intOf i).toNat)
  case atStart => exact ⟨0, a, b, s0, Nat.zero_le _, rfl, rfl, B3, by omega, by omega, D3⟩
  case round =>
    clear B3 D3 ha hb
    obtain ⟨k, a, b, s, hk, rfl, rfl, hB, ha, hb, dr⟩ := hrel
    by_cases hlt : k < len
    · obtain ⟨bs, off, x, y, z, rfl, -, hcell⟩ := hS.get3 hlt
      obtain ⟨x0, x1, x2⟩ := hcell wr dr
      clear hcell
      have hB1 : Both (wr.alloc (.cells #[.int .i64 x, .int .i64 y, .int .u64 z] 47)) a b c d s := ⟨hB.m.alloc _, hB.r.alloc _, hB.bd⟩
      have D1 : Mod [] w (wr.alloc (.cells #[.int .i64 x, .int .i64 y, .int .u64 z] 47)) := dr.alloc _
      have hal := hB.m.lta
      have hbl := hB.m.ltb
      have hcl := hB.r.lta
      have hdl := hB.r.ltb
      have e1 := hB.ac
      have e2 := hB.ad
      have e3 := hB.bc
      have e4 := hB.bd
      clear hB
      by_cases h8 : x = 8
      · subst h8
        go_wp2_with fail
        refine (clone_c hB1.m).mono ?_; rintro e w4 ⟨a', b', rfl, M4, M4o, ha', hb', d4⟩
        simp only [World.size_alloc] at ha' hb'
        have R4 := hB1.r.mod d4 (by simp) (by simp)
        have D4 := D1.trans d4
        clear hB1 D1 d4 x0 x1 x2 dr
        go_wp2_with fail
        refine (stir_c M4o).mono ?_; rintro e w5 ⟨rfl, d5⟩
        have HB : Hid (Both w5 a' b' c d s) := ⟨M4.mod d5 (by simp; omega) (by simp; omega), R4.mod d5 (by simp; omega) (by simp; omega), by omega⟩
        have HD : Hid (Mod [] w w5) := D4.then d5 (by simp; omega)
        have hsz := D4.size
        clear M4 M4o R4 D4 d5
        go_wp2
        go_roundw
        case rel => exact ⟨k + 1, a', b', s, by omega, by go_num, rfl, HB.out, by omega, by omega, HD.out⟩
        case measure => simp [intOf]; omega
      · by_cases h9 : x = 9
        · subst h9
          clear h8
          go_wp2_with fail
          refine (clone_c hB1.m).mono ?_; rintro e w4 ⟨a', b', rfl, M4, M4o, ha', hb', d4⟩
          simp only [World.size_alloc] at ha' hb'
          have R4 := hB1.r.mod d4 (by simp) (by simp)
          have D4 := D1.trans d4
          clear hB1 D1 d4 x0 x1 x2 dr
          go_wp2_with fail
          refine (stir_c M4).mono ?_; rintro e w5 ⟨rfl, d5⟩
          have HB : Hid (Both w5 a b c d s) := ⟨M4o.mod d5 (by simp; omega) (by simp; omega), R4.mod d5 (by simp; omega) (by simp; omega), e4⟩
          have HD : Hid (Mod [] w w5) := D4.then d5 (by simp; omega)
          clear M4 M4o R4 D4 d5
          go_wp2
          go_roundw
          case rel => exact ⟨k + 1, a, b, s, by omega, by go_num, rfl, HB.out, ha, hb, HD.out⟩
          case measure => simp [intOf]; omega
        · have n8 : (x == 8) = false := by simp [h8]
          have n9 : (x == 9) = false := by simp [h9]
          clear h8 h9
          go_wp2_with fail
          refine (step03 hB1 x y z).mono ?_; rintro e w4 ⟨rfl, s', B4, -, d4⟩
          have HB := Lib.hid B4
          have HD : Hid (Mod [] w w4) := D1.then d4 (by simp [Four]; omega)
          clear hB1 D1 d4 x0 x1 x2 dr B4
          go_wp2
          go_roundw
          case rel => exact ⟨k + 1, a, b, s', by omega, by go_num, rfl, HB.out, ha, hb, HD.out⟩
          case measure => simp [intOf]; omega
    · have hl := hB.m.len
      go_wp2_with fail
      refine (all_r hB.r).mono ?_; rintro e w4 ⟨l, rfl, L4, R4, d4⟩
      have B4 : Both w4 a b c d s := ⟨hB.m.mod d4 (by simp) (by simp), R4, hB.bd⟩
      have D4 := dr.trans d4
      clear hB dr d4 R4
      go_wp2_with fail
      refine (all_e B4.m).mono ?_; rintro e w5 ⟨g, rfl, G5, hg, M5, d5⟩
      have L5 := L4.mod d5 (by simp)
      have B5 := B4.mod d5 (by simp) (by simp) (by simp) (by simp)
      have D5 := D4.trans d5
      clear B4 D4 d5 L4 M5
      go_wp2_with fail
      refine (words42 (ListAt.of_blk G5) L5 hl).mono ?_; rintro e w6 ⟨rfl, m, rfl⟩
      have B6 := B5.drewN m
      have D6 := D5.drewN m
      clear B5 D5 L5 G5
      go_wp2_with fail
      refine (count_cq B6.m).mono ?_; rintro e w7 ⟨rfl, rfl⟩
      go_wp2_with fail
      refine (count_rq B6.r).mono ?_; rintro e w7 ⟨rfl, rfl⟩
      go_wp2_with fail
      refine (len_cq B6.m).mono ?_; rintro e w7 ⟨rfl, rfl⟩
      go_wp2_with fail
      refine (len_rq B6.r).mono ?_; rintro e w7 ⟨rfl, rfl⟩
      go_wp2
      go_ret
      exact ⟨rfl, D6⟩

theorem memPlays_walk (n : Int) (a0 : Option Addr) (len cap : Nat) (ops : List (List Int)) (w : World) (hS : Script w [.i64, .i64, .u64] a0 len ops) :
    Calls Try.prog 9 #[.int .i64 n, .slice a0 len cap] w fun e w' => e = .returned (.bool true) ∧ Mod [] w w' := by
  by_cases h : n < 1 ∨ 4096 < n
  · exact memPlays_bad n _ h w
  · exact memPlays_ok n a0 len cap ops (by omega) (by omega) w hS
end Go.Proofs.Ytobmgnoceacoaaa

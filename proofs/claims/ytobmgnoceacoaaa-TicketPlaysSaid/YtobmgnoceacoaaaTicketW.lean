/- TicketNumbers and TicketPlays: the walks. -/
import Derived.Test.YtobmgnoceacoaaaLive12
import Derived.Test.YtobmgnoceacoaaaPlays12
namespace Go.Proofs.Ytobmgnoceacoaaa
open Go.RowKit

set_option maxRecDepth 100000 in
set_option maxHeartbeats 4000000 in
theorem ticketNumbers_walk (w : World) : Calls Try.prog 10 #[] w fun e w' => e = .returned (.bool true) ∧ Mod [] w w' := by
  go_enter Try.func10, Try.ntmps10
  go_wp2_with fail
  refine (two12 _).mono ?_; rintro e w1 ⟨a, b, rfl, M1, ha, hb, d1⟩
  have hal := M1.lta
  have hbl := M1.ltb
  go_wp2_with fail
  have B1 : (w1.alloc (.cells #[.int .i64 0, .int .i64 1, .int .i64 0, .int .i64 0, .int .i64 0, .int .i64 0] 35)).heap[w1.heap.size]? = some (.cells #[.int .i64 0, .int .i64 1, .int .i64 0, .int .i64 0, .int .i64 0, .int .i64 0] 35 (0, 0)) := heap_alloc_new _ _
  refine (open_c (M1.alloc _)).mono ?_; rintro e w2 ⟨rfl, M2, d2⟩
  have B2 := d2.at B1 (by simp; omega)
  clear B1  M1
  have p2_0 := cell_of_blk (i := 0) B2 rfl
  have p2_1 := cell_of_blk (i := 1) B2 rfl
  have p2_2 := cell_of_blk (i := 2) B2 rfl
  have p2_3 := cell_of_blk (i := 3) B2 rfl
  have p2_4 := cell_of_blk (i := 4) B2 rfl
  have p2_5 := cell_of_blk (i := 5) B2 rfl
  have D2 : Mod [] w w2 := (d1.alloc _).then d2 (by simp; omega)
  clear d2
  go_wp2_with fail
  refine (pass_c M2 0 1 0 0 0 0 18446744073709551615).mono ?_; rintro e w3 ⟨rfl, M3, d3⟩
  have B3 := d3.at B2 (by simp; omega)
  clear B2 p2_0 p2_1 p2_2 p2_3 p2_4 p2_5 M2
  have p3_0 := cell_of_blk (i := 0) B3 rfl
  have p3_1 := cell_of_blk (i := 1) B3 rfl
  have p3_2 := cell_of_blk (i := 2) B3 rfl
  have p3_3 := cell_of_blk (i := 3) B3 rfl
  have p3_4 := cell_of_blk (i := 4) B3 rfl
  have p3_5 := cell_of_blk (i := 5) B3 rfl
  rw [show ((MemS.fresh 2).opened).acc 1 = 0 from by decide +kernel]
  have D3 := D2.then d3 (by simp; omega)
  clear d3
  go_wp2_with fail
  refine (open_c M3).mono ?_; rintro e w4 ⟨rfl, M4, d4⟩
  have B4 := d4.at B3 (by simp; omega)
  clear B3 p3_0 p3_1 p3_2 p3_3 p3_4 p3_5 M3
  have p4_0 := cell_of_blk (i := 0) B4 rfl
  have p4_1 := cell_of_blk (i := 1) B4 rfl
  have p4_2 := cell_of_blk (i := 2) B4 rfl
  have p4_3 := cell_of_blk (i := 3) B4 rfl
  have p4_4 := cell_of_blk (i := 4) B4 rfl
  have p4_5 := cell_of_blk (i := 5) B4 rfl
  have D4 := D3.then d4 (by simp; omega)
  clear d4
  go_wp2_with fail
  refine (look_c M4 0 1 0 0 0 0 0).mono ?_; rintro e w5 ⟨rfl, M5, d5⟩
  have B5 := d5.at B4 (by simp; omega)
  clear B4 p4_0 p4_1 p4_2 p4_3 p4_4 p4_5 M4
  have p5_0 := cell_of_blk (i := 0) B5 rfl
  have p5_1 := cell_of_blk (i := 1) B5 rfl
  have p5_2 := cell_of_blk (i := 2) B5 rfl
  have p5_3 := cell_of_blk (i := 3) B5 rfl
  have p5_4 := cell_of_blk (i := 4) B5 rfl
  have p5_5 := cell_of_blk (i := 5) B5 rfl
  rw [show ((((MemS.fresh 2).opened).store 1 (IntKind.u64.wrap (18446744073709551615 + 1))).opened).look 1 0 = true from by decide +kernel]
  rw [show ((((MemS.fresh 2).opened).store 1 (IntKind.u64.wrap (18446744073709551615 + 1))).opened).acc 1 = 0 from by decide +kernel]
  have D5 := D4.then d5 (by simp; omega)
  clear d5
  go_wp2_with fail
  refine (draw_c M5 2 0 0 0 0 0).mono ?_; rintro e w6 ⟨rfl, M6, d6⟩
  have B6 := d6.at B5 (by simp; omega)
  clear B5 p5_0 p5_1 p5_2 p5_3 p5_4 p5_5 M5
  have p6_0 := cell_of_blk (i := 0) B6 rfl
  have p6_1 := cell_of_blk (i := 1) B6 rfl
  have p6_2 := cell_of_blk (i := 2) B6 rfl
  have p6_3 := cell_of_blk (i := 3) B6 rfl
  have p6_4 := cell_of_blk (i := 4) B6 rfl
  have p6_5 := cell_of_blk (i := 5) B6 rfl
  rw [show (((((MemS.fresh 2).opened).store 1 (IntKind.u64.wrap (18446744073709551615 + 1))).opened).load 1).got 2 = 0 from by decide +kernel]
  rw [show (((((MemS.fresh 2).opened).store 1 (IntKind.u64.wrap (18446744073709551615 + 1))).opened).load 1).acc 2 = 30 from by decide +kernel]
  have D6 := D5.then d6 (by simp; omega)
  clear d6
  go_wp2_with fail
  refine (ahead_c M6 0 1 0 0 0 0 9223372036854775808).mono ?_; rintro e w7 ⟨rfl, M7, d7⟩
  have B7 := d7.at B6 (by simp; omega)
  clear B6 p6_0 p6_1 p6_2 p6_3 p6_4 p6_5 M6
  have p7_0 := cell_of_blk (i := 0) B7 rfl
  have p7_1 := cell_of_blk (i := 1) B7 rfl
  have p7_2 := cell_of_blk (i := 2) B7 rfl
  have p7_3 := cell_of_blk (i := 3) B7 rfl
  have p7_4 := cell_of_blk (i := 4) B7 rfl
  have p7_5 := cell_of_blk (i := 5) B7 rfl
  rw [show ((((((MemS.fresh 2).opened).store 1 (IntKind.u64.wrap (18446744073709551615 + 1))).opened).load 1).add 2 1).ahead 1 9223372036854775808 = 2147483647 from by decide +kernel]
  rw [show ((((((MemS.fresh 2).opened).store 1 (IntKind.u64.wrap (18446744073709551615 + 1))).opened).load 1).add 2 1).bad 1 = 0 from by decide +kernel]
  have D7 := D6.then d7 (by simp; omega)
  clear d7
  clear M7
  go_wp2
  go_ret
  exact ⟨rfl, D7⟩

set_option maxRecDepth 100000 in
set_option maxHeartbeats 1000000 in
theorem ticketPlays_bad (n : Int) (v : Value) (hn : n < 1 ∨ 4096 < n) (w : World) : Calls Try.prog 12 #[.int .i64 n, v] w fun e w' => e = .returned (.bool true) ∧ Mod [] w w' := by
  go_enter Try.func12, Try.ntmps12
  go_wp2_with fail
  refine (live12 _).mono ?_; rintro e w1 ⟨rfl, d1⟩
  go_wp2_with fail
  refine (new_bad n hn _).mono ?_; rintro e w1 ⟨rfl, rfl⟩
  go_wp2_with fail
  refine (newr_bad n hn _).mono ?_; rintro e w1 ⟨rfl, rfl⟩
  go_wp2
  go_ret
  exact ⟨rfl, d1⟩

set_option maxRecDepth 100000 in
set_option maxHeartbeats 4000000 in
theorem ticketPlays_ok (n : Int) (a0 : Option Addr) (len cap : Nat) (ops : List (List Int)) (h1 : 1 ≤ n) (h2 : n ≤ 4096) (w : World) (hS : Script w [.i64, .i64, .i64, .u64] a0 len ops) :
    Calls Try.prog 12 #[.int .i64 n, .slice a0 len cap] w fun e w' => e = .returned (.bool true) ∧ Mod [] w w' := by
  have hlb := hS.2.1
  go_enter Try.func12, Try.ntmps12
  go_wp2_with fail
  refine (live12 _).mono ?_; rintro e w1 ⟨rfl, d1⟩
  go_wp2_with fail
  refine (new_e n h1 h2 _).mono ?_; rintro e w2 ⟨a, b, rfl, M2, ha, hb, d2⟩
  go_wp2_with fail
  refine (newr_e n h1 h2 _).mono ?_; rintro e w3 ⟨c, d, rfl, R3, hc, hd, d3⟩
  have z1 := d1.size
  have z2 := d2.size
  have B3 : Both w3 a b c d (MemS.fresh n.toNat) := ⟨M2.mod d3 (by simp) (by simp), R3, by have := M2.ltb; omega⟩
  have D3 := (d1.trans d2).trans d3
  generalize MemS.fresh n.toNat = s0 at B3 M2 R3
  clear d1 d2 d3 M2 R3
  go_wp2_with fail
  go_loopw [40] (fun i wr => ∃ (k : Nat) (s : MemS), k ≤ len ∧ i = .int .i64 k ∧ Both wr a b c d s ∧ Mod [] w wr) (fun i _ => len - (intOf i).toNat)
  case atStart => exact ⟨0, s0, Nat.zero_le _, rfl, B3, D3⟩
  case round =>
    clear B3 D3
    obtain ⟨k, s, hk, rfl, hB, dr⟩ := hrel
    by_cases hlt : k < len
    · obtain ⟨bs, off, x, y, z, u, rfl, -, hcell⟩ := hS.get4 hlt
      obtain ⟨x0, x1, x2, x3⟩ := hcell wr dr
      clear hcell
      have hB1 : Both (wr.alloc (.cells #[.int .i64 x, .int .i64 y, .int .i64 z, .int .u64 u] 75)) a b c d s := ⟨hB.m.alloc _, hB.r.alloc _, hB.bd⟩
      have D1 : Mod [] w (wr.alloc (.cells #[.int .i64 x, .int .i64 y, .int .i64 z, .int .u64 u] 75)) := dr.alloc _
      clear hB
      go_wp2_with fail
      refine (step12 hB1 x y z u).mono ?_; rintro e w4 ⟨rfl, s', B4, -, d4⟩
      have HB := Lib.hid B4
      have HD : Hid (Mod [] w w4) := D1.then d4 (by simp [Four]; omega)
      clear hB1 D1 d4 x0 x1 x2 x3 dr B4
      go_wp2
      go_roundw
      case rel => exact ⟨k + 1, s', by omega, by go_num, HB.out, HD.out⟩
      case measure => simp [intOf]; omega
    · have hl := hB.m.len
      go_wp2_with fail
      refine (all_r hB.r).mono ?_; rintro e w4 ⟨l, rfl, L4, R4, d4⟩
      have B4 : Both w4 a b c d s := ⟨hB.m.mod d4 (by simp) (by simp), R4, hB.bd⟩
      have D4 := dr.trans d4
      clear hB dr d4 R4
      go_wp2_with fail
      refine (all_e B4.m).mono ?_; rintro e w5 ⟨g, rfl, G5, hg, M5, d5⟩
      have L5 := L4.mod d5 (by simp)
      have B5 := B4.mod d5 (by simp) (by simp) (by simp) (by simp)
      have D5 := D4.trans d5
      clear B4 D4 d5 L4 M5
      go_wp2_with fail
      refine (words53 (ListAt.of_blk G5) L5 hl).mono ?_; rintro e w6 ⟨rfl, m, rfl⟩
      have B6 := B5.drewN m
      have D6 := D5.drewN m
      clear B5 D5 L5 G5
      go_wp2_with fail
      refine (count_cq B6.m).mono ?_; rintro e w7 ⟨rfl, rfl⟩
      go_wp2_with fail
      refine (count_rq B6.r).mono ?_; rintro e w7 ⟨rfl, rfl⟩
      go_wp2
      go_ret
      exact ⟨rfl, D6⟩

theorem ticketPlays_walk (n : Int) (a0 : Option Addr) (len cap : Nat) (ops : List (List Int)) (w : World) (hS : Script w [.i64, .i64, .i64, .u64] a0 len ops) :
    Calls Try.prog 12 #[.int .i64 n, .slice a0 len cap] w fun e w' => e = .returned (.bool true) ∧ Mod [] w w' := by
  by_cases h : n < 1 ∨ 4096 < n
  · exact ticketPlays_bad n _ h w
  · exact ticketPlays_ok n a0 len cap ops (by omega) (by omega) w hS

end Go.Proofs.Ytobmgnoceacoaaa

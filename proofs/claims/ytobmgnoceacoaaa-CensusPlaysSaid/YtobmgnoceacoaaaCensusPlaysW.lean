/- CensusPlays: the walk. -/
import Derived.Test.YtobmgnoceacoaaaStep13
import Derived.Test.YtobmgnoceacoaaaLive13
import Derived.Test.YtobmgnoceacoaaaOps
import Derived.Test.YtobmgnoceacoaaaWords
import Derived.Test.YtobmgnoceacoaaaMV
import Derived.Deep.RegionHeld3
namespace Go.Proofs.Ytobmgnoceacoaaa
open Go.RowKit
variable {w0 w w' : World} {x a b c d k l n m : Nat} {vr vs : Value} {s : MemS} {co : ComS} {sc : ScanS}

/-- The world's struct, before all of it is laid. -/
structure Pre13 (w0 w : World) (x a b c d k l : Nat) (vr vs : Value) (s : MemS) (co : ComS) (sc : ScanS) : Prop where
  hx : w.heap[x]? = some (.cells #[.pointer (some ⟨a, 0, none⟩), .pointer (some ⟨c, 0, none⟩), .pointer (some ⟨k, 0, none⟩), vr, .pointer (some ⟨l, 0, none⟩), vs] 99 (0, 0))
  bo : Both w a b c d s
  hk : w.heap[k]? = some (.cells co.arr 160 (0, 0))
  hl : w.heap[l]? = some (.cells sc.arr 162 (0, 0))
  ge : w0.heap.size ≤ x ∧ w0.heap.size ≤ a ∧ w0.heap.size ≤ b ∧ w0.heap.size ≤ c ∧ w0.heap.size ≤ d ∧ w0.heap.size ≤ k ∧ w0.heap.size ≤ l
  fr : Mod [] w0 w
theorem Pre13.mod (h : Pre13 w0 w x a b c d k l vr vs s co sc) (q : Mod [] w w') : Pre13 w0 w' x a b c d k l vr vs s co sc :=
  ⟨q.at h.hx (by simp), h.bo.mod q (by simp) (by simp) (by simp) (by simp), q.at h.hk (by simp), q.at h.hl (by simp), h.ge, h.fr.trans q⟩
theorem Pre13.put3 (h : Pre13 w0 w x a b c d k l vr vs s co sc) : Pre13 w0 (w.setCell ⟨x, 3, none⟩ (.pointer (some ⟨n, 0, none⟩))) x a b c d k l (.pointer (some ⟨n, 0, none⟩)) vs s co sc := by
  have hg := h.ge
  exact ⟨blk_setCell_same _ h.hx, ⟨h.bo.m.other _ _ _ (blk_ne h.bo.m.hd h.hx (by decide)) (blk_ne h.bo.m.ws h.hx (by decide)), h.bo.r.other _ _ _ (blk_ne h.bo.r.hd h.hx (by decide)) (blk_ne h.bo.r.ws h.hx (by decide)), h.bo.bd⟩,
    blk_setCell_other _ h.hk (blk_ne h.hk h.hx (by decide)), blk_setCell_other _ h.hl (blk_ne h.hl h.hx (by decide)), hg, h.fr.setCell _ _ (.inr hg.1)⟩
theorem Pre13.put5 (h : Pre13 w0 w x a b c d k l (.pointer (some ⟨n, 0, none⟩)) vs s co sc) (hn : w.heap[n]? = some (.cells co.arr 168 (0, 0))) (hm : w.heap[m]? = some (.cells sc.arr 170 (0, 0))) (gn : w0.heap.size ≤ n) (gm : w0.heap.size ≤ m) (iC : co.Inv) (iS : sc.Inv) :
    W13 w0 (w.setCell ⟨x, 5, none⟩ (.pointer (some ⟨m, 0, none⟩))) x a b c d k n l m s co sc := by
  have hg := h.ge
  exact ⟨blk_setCell_same _ h.hx, ⟨h.bo.m.other _ _ _ (blk_ne h.bo.m.hd h.hx (by decide)) (blk_ne h.bo.m.ws h.hx (by decide)), h.bo.r.other _ _ _ (blk_ne h.bo.r.hd h.hx (by decide)) (blk_ne h.bo.r.ws h.hx (by decide)), h.bo.bd⟩,
    blk_setCell_other _ h.hk (blk_ne h.hk h.hx (by decide)), blk_setCell_other _ hn (blk_ne hn h.hx (by decide)), blk_setCell_other _ h.hl (blk_ne h.hl h.hx (by decide)), blk_setCell_other _ hm (blk_ne hm h.hx (by decide)), iC, iS, by omega, h.fr.setCell _ _ (.inr hg.1)⟩

/-- What the region that makes the world leaves. -/
def Made13 (w0 : World) (a b c d pb : Nat) (s : MemS) (v : Value) (wx : World) : Prop :=
  ∃ x k l, v = .pointer (some ⟨x, 0, none⟩) ∧ Pre13 w0 wx x a b c d k l (.pointer none) (.pointer none) s (ComS.mk 0 0 0 1 0 0 0 0 0 0) (ScanS.mk 0 0 0 1 0 0 1 0 0 0) ∧ wx.heap[pb]? = some (.cells #[.int .i64 0, .int .i64 0, .int .i64 0, .int .i64 1, .int .i64 0, .int .i64 0] 35 (0, 0))

theorem made13_mk {w4 : World} {pb : Nat} (hB : Both w4 a b c d s) (D : Mod [] w0 w4) (gm : w0.heap.size ≤ a ∧ w0.heap.size ≤ b ∧ w0.heap.size ≤ c ∧ w0.heap.size ≤ d) (q : Mod [] w4 w') (hk : w'.heap[k]? = some (.cells (ComS.mk 0 0 0 1 0 0 0 0 0 0).arr 160 (0, 0))) (gk : w4.heap.size ≤ k)
    (hl : w'.heap[l]? = some (.cells (ScanS.mk 0 0 0 1 0 0 1 0 0 0).arr 162 (0, 0))) (gl : w4.heap.size ≤ l) (hp : w'.heap[pb]? = some (.cells #[.int .i64 0, .int .i64 0, .int .i64 0, .int .i64 1, .int .i64 0, .int .i64 0] 35 (0, 0))) :
    Made13 w0 a b c d pb s (.pointer (some ⟨w'.heap.size, 0, none⟩)) (w'.alloc (.cells #[.pointer (some ⟨a, 0, none⟩), .pointer (some ⟨c, 0, none⟩), .pointer (some ⟨k, 0, none⟩), .pointer none, .pointer (some ⟨l, 0, none⟩), .pointer none] 99)) := by
  have h1 := D.size
  have h2 := q.size
  have B := hB.mod q (by simp) (by simp) (by simp) (by simp)
  exact ⟨_, k, l, rfl, ⟨heap_alloc_new _ _, ⟨B.m.alloc _, B.r.alloc _, B.bd⟩, blk_alloc_old _ hk, blk_alloc_old _ hl, by omega, (D.trans q).alloc _⟩, blk_alloc_old _ hp⟩

set_option maxRecDepth 100000 in
set_option maxHeartbeats 1000000 in
theorem censusPlays_bad (n : Int) (v : Value) (hn : n < 1 ∨ 4096 < n) (w : World) : Calls Try.prog 17 #[.int .i64 n, v] w fun e w' => e = .returned (.bool true) ∧ Mod [] w w' := by
  go_enter Try.func17, Try.ntmps17
  go_wp2_with fail
  refine (live13 _).mono ?_; rintro e w1 ⟨rfl, d1⟩
  go_wp2_with fail
  refine (new_bad n hn _).mono ?_; rintro e w1 ⟨rfl, rfl⟩
  go_wp2_with fail
  refine (newr_bad n hn _).mono ?_; rintro e w1 ⟨rfl, rfl⟩
  go_wp2
  go_ret
  exact ⟨rfl, d1⟩

set_option maxRecDepth 100000 in
set_option maxHeartbeats 40000000 in
theorem censusPlays_ok (n : Int) (a0 : Option Addr) (len cap : Nat) (ops : List (List Int)) (h1 : 1 ≤ n) (h2 : n ≤ 4096) (w : World) (hS : Script w [.i64, .i64, .i64, .i64, .u64] a0 len ops) :
    Calls Try.prog 17 #[.int .i64 n, .slice a0 len cap] w fun e w' => e = .returned (.bool true) ∧ Mod [] w w' := by
  have hlb := hS.2.1
  go_enter Try.func17, Try.ntmps17
  go_wp2_with fail
  refine (live13 _).mono ?_; rintro e w1 ⟨rfl, d1⟩
  go_wp2_with fail
  refine (new_e n h1 h2 _).mono ?_; rintro e w2 ⟨a, b, rfl, M2, ha, hb, d2⟩
  go_wp2_with fail
  refine (newr_e n h1 h2 _).mono ?_; rintro e w3 ⟨c, d, rfl, R3, hc, hd, d3⟩
  have z1 := d1.size
  have z2 := d2.size
  have B3 : Both w3 a b c d (MemS.fresh n.toNat) := ⟨M2.mod d3 (by simp) (by simp), R3, by have := M2.ltb; omega⟩
  have D3 := (d1.trans d2).trans d3
  have gm : w.heap.size ≤ a ∧ w.heap.size ≤ b ∧ w.heap.size ≤ c ∧ w.heap.size ≤ d := by have := M2.lta; omega
  generalize MemS.fresh n.toNat = s0 at B3 M2 R3
  clear d1 d2 d3 M2 R3 ha hb hc hd z1 z2
  go_upto_region 7 with fail
  have P4 : (w3.alloc (.cells #[.int .i64 0, .int .i64 0, .int .i64 0, .int .i64 1, .int .i64 0, .int .i64 0] 35)).heap[w3.heap.size]? = some (.cells #[.int .i64 0, .int .i64 0, .int .i64 0, .int .i64 1, .int .i64 0, .int .i64 0] 35 (0, 0)) := heap_alloc_new _ _
  have B4 : Both (w3.alloc (.cells #[.int .i64 0, .int .i64 0, .int .i64 0, .int .i64 1, .int .i64 0, .int .i64 0] 35)) a b c d s0 := ⟨B3.m.alloc _, B3.r.alloc _, B3.bd⟩
  have D4 := D3.alloc (.cells #[.int .i64 0, .int .i64 0, .int .i64 0, .int .i64 1, .int .i64 0, .int .i64 0] 35)
  clear B3 D3
  generalize w3.alloc (.cells #[.int .i64 0, .int .i64 0, .int .i64 0, .int .i64 1, .int .i64 0, .int .i64 0] 35) = w4 at *
  generalize w3.heap.size = pb at *
  have q0 : w4.cell? ⟨pb, 0, none⟩ = some (.int .i64 0) := cell_of_blk P4 rfl
  have q1 : w4.cell? ⟨pb, 1, none⟩ = some (.int .i64 0) := cell_of_blk P4 rfl
  have q2 : w4.cell? ⟨pb, 2, none⟩ = some (.int .i64 0) := cell_of_blk P4 rfl
  have q3 : w4.cell? ⟨pb, 3, none⟩ = some (.int .i64 1) := cell_of_blk P4 rfl
  have q4 : w4.cell? ⟨pb, 4, none⟩ = some (.int .i64 0) := cell_of_blk P4 rfl
  have q5 : w4.cell? ⟨pb, 5, none⟩ = some (.int .i64 0) := cell_of_blk P4 rfl
  go_cut [11] (fun v wx => Made13 w a b c d pb s0 v wx)
  case first =>
    go_region_held3 (fun wx => wx.cell? ⟨pb, 0, none⟩ = some (.int .i64 0) ∧ wx.cell? ⟨pb, 1, none⟩ = some (.int .i64 0) ∧ wx.cell? ⟨pb, 2, none⟩ = some (.int .i64 0) ∧ wx.cell? ⟨pb, 3, none⟩ = some (.int .i64 1) ∧ wx.cell? ⟨pb, 4, none⟩ = some (.int .i64 0) ∧ wx.cell? ⟨pb, 5, none⟩ = some (.int .i64 0))
      (first | exact ⟨q0, q1, q2, q3, q4, q5⟩ | exact ⟨cell_of_blk P6 rfl, cell_of_blk P6 rfl, cell_of_blk P6 rfl, cell_of_blk P6 rfl, cell_of_blk P6 rfl, cell_of_blk P6 rfl⟩ | exact ⟨cell_of_blk P5 rfl, cell_of_blk P5 rfl, cell_of_blk P5 rfl, cell_of_blk P5 rfl, cell_of_blk P5 rfl, cell_of_blk P5 rfl⟩ | exact ⟨cell_of_blk (blk_alloc_old _ P6) rfl, cell_of_blk (blk_alloc_old _ P6) rfl, cell_of_blk (blk_alloc_old _ P6) rfl, cell_of_blk (blk_alloc_old _ P6) rfl, cell_of_blk (blk_alloc_old _ P6) rfl, cell_of_blk (blk_alloc_old _ P6) rfl⟩ | exact ⟨cell_of_blk (blk_alloc_old _ P5) rfl, cell_of_blk (blk_alloc_old _ P5) rfl, cell_of_blk (blk_alloc_old _ P5) rfl, cell_of_blk (blk_alloc_old _ P5) rfl, cell_of_blk (blk_alloc_old _ P5) rfl, cell_of_blk (blk_alloc_old _ P5) rfl⟩)
      (first
        | (go_at_call 55; refine (come_e 0 0 0 1 0 0 0 _).mono ?_; rintro e w5 ⟨k, rfl, K5, gk, A5⟩; have P5 := A5.at (k := pb) (o := .cells #[.int .i64 0, .int .i64 0, .int .i64 0, .int .i64 1, .int .i64 0, .int .i64 0] 35 (0, 0)) (by first | exact P4 | exact P6) (by simp))
        | (go_at_call 56; refine (look_e 0 0 0 1 0 0 1 0 _).mono ?_; rintro e w6 ⟨l, rfl, K6, gl, A6⟩; have P6 := A6.at (k := pb) (o := .cells #[.int .i64 0, .int .i64 0, .int .i64 0, .int .i64 1, .int .i64 0, .int .i64 0] 35 (0, 0)) (by first | exact P5 | exact P4) (by simp)))
    all_goals
      go_wp2_with fail
      go_meet
      first
        | exact made13_mk B4 D4 gm (((Mod.refl _ _).drew.trans A5).trans A6) (A6.at K5 (by simp)) gk K6 (Nat.le_trans A5.size gl) P6
        | exact made13_mk B4 D4 gm (((Mod.refl _ _).drew.trans A6).trans A5) K5 (Nat.le_trans A6.size gk) (A5.at K6 (by simp)) gl P5
  case rest =>
    obtain ⟨x, k, l, rfl, R5, P5⟩ := hcut
    clear q0 q1 q2 q3 q4 q5 P4 B4 D4 gm
    obtain ⟨w5, rfl⟩ : ∃ w5, w5 = wc := ⟨_, rfl⟩
    have gp := lt_of_block P5
    have npx : pb ≠ x := blk_ne P5 R5.hx (by decide)
    have r0 : w5.cell? ⟨pb, 0, none⟩ = some (.int .i64 0) := cell_of_blk P5 rfl
    have r1 : w5.cell? ⟨pb, 1, none⟩ = some (.int .i64 0) := cell_of_blk P5 rfl
    have r2 : w5.cell? ⟨pb, 2, none⟩ = some (.int .i64 0) := cell_of_blk P5 rfl
    have r3 : w5.cell? ⟨pb, 3, none⟩ = some (.int .i64 1) := cell_of_blk P5 rfl
    have r4 : w5.cell? ⟨pb, 4, none⟩ = some (.int .i64 0) := cell_of_blk P5 rfl
    have r5 : w5.cell? ⟨pb, 5, none⟩ = some (.int .i64 0) := cell_of_blk P5 rfl
    go_wp2_with fail
    refine (come_re 0 0 0 1 0 0 0 _).mono ?_; rintro e w6 ⟨n3, rfl, N6, gn, A6⟩
    have R6 := R5.mod A6
    have P6 := A6.at P5 (by simp)
    have fz := free_of_blk (i := 3) R6.hx
    have cx : w6.cell? ⟨x, 3, none⟩ = some (.pointer none) := cell_of_blk R6.hx rfl
    have gn' : w.heap.size ≤ n3 := Nat.le_trans R5.fr.size gn
    clear r0 r1 r2 r3 r4 r5 R5 P5 A6 gn
    go_upto_region 9 with fail
    have R7 := R6.put3 (n := n3)
    have N7 := blk_setCell_other (.pointer (some ⟨n3, 0, none⟩)) (i := 3) N6 (blk_ne N6 R6.hx (by decide))
    have P7 := blk_setCell_other (.pointer (some ⟨n3, 0, none⟩)) (i := 3) P6 npx
    clear R6 P6 N6 fz cx
    generalize w6.setCell ⟨x, 3, none⟩ (.pointer (some ⟨n3, 0, none⟩)) = w7 at *
    have r0 : w7.cell? ⟨pb, 0, none⟩ = some (.int .i64 0) := cell_of_blk P7 rfl
    have r1 : w7.cell? ⟨pb, 1, none⟩ = some (.int .i64 0) := cell_of_blk P7 rfl
    have r2 : w7.cell? ⟨pb, 2, none⟩ = some (.int .i64 0) := cell_of_blk P7 rfl
    have r3 : w7.cell? ⟨pb, 3, none⟩ = some (.int .i64 1) := cell_of_blk P7 rfl
    have r4 : w7.cell? ⟨pb, 4, none⟩ = some (.int .i64 0) := cell_of_blk P7 rfl
    have r5 : w7.cell? ⟨pb, 5, none⟩ = some (.int .i64 0) := cell_of_blk P7 rfl
    go_wp2_with fail
    refine (look_re 0 0 0 1 0 0 1 0 _).mono ?_; rintro e w8 ⟨n5, rfl, N8, gn, A8⟩
    have R8 := R7.mod A8
    have N9 := A8.at N7 (by simp)
    have fz := free_of_blk (i := 5) R8.hx
    have cx : w8.cell? ⟨x, 5, none⟩ = some (.pointer none) := cell_of_blk R8.hx rfl
    have gn5 : w.heap.size ≤ n5 := Nat.le_trans R7.fr.size gn
    clear r0 r1 r2 r3 r4 r5 R7 P7 N7 A8 gn
    go_upto_region 10 with fail
    have W9 := R8.put5 N9 N8 gn' gn5 ⟨by simp, by simp, fun _ => rfl, fun _ => rfl⟩ ⟨by simp, by simp⟩
    clear R8 N8 N9 fz cx npx gp gn' gn5
    generalize w8.setCell ⟨x, 5, none⟩ (.pointer (some ⟨n5, 0, none⟩)) = w9 at *
    have x2 : w9.cell? ⟨x, 2, none⟩ = some (.pointer (some ⟨k, 0, none⟩)) := cell_of_blk W9.hx rfl
    have x4 : w9.cell? ⟨x, 4, none⟩ = some (.pointer (some ⟨l, 0, none⟩)) := cell_of_blk W9.hx rfl
    generalize (ComS.mk 0 0 0 1 0 0 0 0 0 0) = co0 at W9
    generalize (ScanS.mk 0 0 0 1 0 0 1 0 0 0) = sc0 at W9
    go_wp2_with fail
    go_loopw [73] (fun i wr => ∃ (j : Nat) (k kr l lr : Nat) (s : MemS) (co : ComS) (sc : ScanS), j ≤ len ∧ i = .int .i64 j ∧ W13 w wr x a b c d k kr l lr s co sc) (fun i _ => len - (intOf i).toNat)
    case atStart => exact ⟨0, _, _, _, _, _, _, _, Nat.zero_le _, rfl, W9⟩
    case round =>
      clear W9 x2 x4
      obtain ⟨j, k, kr, l, lr, s, co, sc, hj, rfl, W⟩ := hrel
      by_cases hlt : j < len
      · obtain ⟨bs, off, y, st, ce, th, u, rfl, -, hcell⟩ := hS.get5 hlt
        obtain ⟨c0, c1, c2, c3, c4⟩ := hcell wr W.fr
        clear hcell
        have W1 := W.alloc (.cells #[.int .i64 y, .int .i64 st, .int .i64 ce, .int .i64 th, .int .u64 u] 103)
        clear W
        go_wp2_with fail
        refine (step13 W1 y st ce th u).mono ?_; rintro e w4 ⟨rfl, k', r', l', s', t', co', sc', W4, -⟩
        have HW := Lib.hid W4
        clear W1 W4 c0 c1 c2 c3 c4
        go_wp2
        go_roundw
        case rel => exact ⟨j + 1, _, _, _, _, _, _, _, by omega, by go_num, HW.out⟩
        case measure => simp [intOf]; omega
      · have hl := W.bo.m.len
        have fr := W.fr
        have hB := W.bo
        clear W
        go_wp2_with fail
        refine (all_r hB.r).mono ?_; rintro e w4 ⟨l, rfl, L4, R4, d4⟩
        have B4 : Both w4 a b c d s := ⟨hB.m.mod d4 (by simp) (by simp), R4, hB.bd⟩
        have D4 := fr.trans d4
        clear hB fr d4 R4
        go_wp2_with fail
        refine (all_e B4.m).mono ?_; rintro e w5 ⟨g, rfl, G5, hg, M5, d5⟩
        have L5 := L4.mod d5 (by simp)
        have B5 := B4.mod d5 (by simp) (by simp) (by simp) (by simp)
        have D5 := D4.trans d5
        clear B4 D4 d5 L4 M5
        go_wp2_with fail
        refine (words72 (ListAt.of_blk G5) L5 hl).mono ?_; rintro e w6 ⟨rfl, m, rfl⟩
        have B6 := B5.drewN m
        have D6 := D5.drewN m
        clear B5 D5 L5 G5
        go_wp2_with fail
        refine (count_cq B6.m).mono ?_; rintro e w7 ⟨rfl, rfl⟩
        go_wp2_with fail
        refine (count_rq B6.r).mono ?_; rintro e w7 ⟨rfl, rfl⟩
        go_wp2
        go_ret
        exact ⟨rfl, D6⟩

theorem censusPlays_walk (n : Int) (a0 : Option Addr) (len cap : Nat) (ops : List (List Int)) (w : World) (hS : Script w [.i64, .i64, .i64, .i64, .u64] a0 len ops) :
    Calls Try.prog 17 #[.int .i64 n, .slice a0 len cap] w fun e w' => e = .returned (.bool true) ∧ Mod [] w w' := by
  by_cases h : n < 1 ∨ 4096 < n
  · exact censusPlays_bad n _ h w
  · exact censusPlays_ok n a0 len cap ops (by omega) (by omega) w hS

end Go.Proofs.Ytobmgnoceacoaaa

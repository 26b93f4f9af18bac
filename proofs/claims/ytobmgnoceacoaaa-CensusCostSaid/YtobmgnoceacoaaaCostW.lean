/- CensusCost: the walk. -/
import Derived.Test.YtobmgnoceacoaaaCostS
import Derived.Test.YtobmgnoceacoaaaLive13
import Derived.Test.YtobmgnoceacoaaaMO
import Derived.Test.YtobmgnoceacoaaaMP
import Derived.Test.YtobmgnoceacoaaaMV
import Derived.Test.YtobmgnoceacoaaaNums
import Derived.Deep.DeepCutAuto
import Derived.Deep.CutBlock
namespace Go.Proofs.Ytobmgnoceacoaaa
open Go.RowKit

theorem tmod8 (n : Int) : -7 ≤ n.tmod 8 ∧ n.tmod 8 ≤ 7 := by
  have h1 := Int.tmod_lt_of_pos n (show (0 : Int) < 8 by decide)
  have h2 := Int.lt_tmod_of_pos n (show (0 : Int) < 8 by decide)
  omega

/-- The world of CensusCost: the memory, the coming, the scan. -/
structure CostW (w0 w : World) (a b k l : Nat) (s : MemS) (c : ComS) (q : ScanS) : Prop where
  m : MemAt 142 w a b s
  hk : w.heap[k]? = some (.cells c.arr 160 (0, 0))
  hl : w.heap[l]? = some (.cells q.arr 162 (0, 0))
  ge : w0.heap.size ≤ a ∧ w0.heap.size ≤ b ∧ w0.heap.size ≤ k ∧ w0.heap.size ≤ l
  fr : Mod [] w0 w
variable {w0 w w' : World} {a b k l : Nat} {s s' : MemS} {c c' : ComS} {q q' : ScanS}
theorem CostW.mem (h : CostW w0 w a b k l s c q) (m : MemAt 142 w' a b s') (d : Mod [a, b] w w') : CostW w0 w' a b k l s' c q := by
  have hg := h.ge
  have h1 : k ≠ a := blk_ne h.hk h.m.hd (by decide)
  have h2 : k ≠ b := blk_ne h.hk h.m.ws (by decide)
  have h3 : l ≠ a := blk_ne h.hl h.m.hd (by decide)
  have h4 : l ≠ b := blk_ne h.hl h.m.ws (by decide)
  exact ⟨m, d.at h.hk (by simp [h1, h2]), d.at h.hl (by simp [h3, h4]), hg, h.fr.then d (by simp; omega)⟩
theorem CostW.com (h : CostW w0 w a b k l s c q) (m : MemAt 142 w' a b s') (hk : w'.heap[k]? = some (.cells c'.arr 160 (0, 0))) (d : Mod [a, b, k] w w') : CostW w0 w' a b k l s' c' q := by
  have hg := h.ge
  have h3 : l ≠ a := blk_ne h.hl h.m.hd (by decide)
  have h4 : l ≠ b := blk_ne h.hl h.m.ws (by decide)
  have h5 : l ≠ k := blk_ne h.hl h.hk (by decide)
  exact ⟨m, hk, d.at h.hl (by simp [h3, h4, h5]), hg, h.fr.then d (by simp; omega)⟩
theorem CostW.scan (h : CostW w0 w a b k l s c q) (m : MemAt 142 w' a b s') (hl : w'.heap[l]? = some (.cells q'.arr 162 (0, 0))) (d : Mod [a, b, l] w w') : CostW w0 w' a b k l s' c q' := by
  have hg := h.ge
  have h3 : k ≠ a := blk_ne h.hk h.m.hd (by decide)
  have h4 : k ≠ b := blk_ne h.hk h.m.ws (by decide)
  have h5 : k ≠ l := blk_ne h.hk h.hl (by decide)
  exact ⟨m, d.at h.hk (by simp [h3, h4, h5]), hl, hg, h.fr.then d (by simp; omega)⟩

set_option maxRecDepth 100000 in
set_option maxHeartbeats 40000000 in
theorem censusCost_walk (thread need : Int) (a0 : Option Addr) (len cap : Nat) (zs : List Int) (w : World) (hS : Nums w .u64 a0 len zs) :
    Calls Try.prog 14 #[.int .i64 thread, .int .u64 need, .slice a0 len cap] w fun e w' => e = .returned (.bool true) ∧ Mod [] w w' := by
  have hlb := hS.2.1
  obtain ⟨r0, r1⟩ := tmod8 thread
  go_enter Try.func14, Try.ntmps14
  go_wp2_with fail
  refine (live13 _).mono ?_; rintro e w1 ⟨rfl, d1⟩
  go_wp2_with fail
  refine (fresh13 9 (by omega) (by omega) _).mono ?_; rintro e w2 ⟨a, b, rfl, M2, ha, hb, d2⟩
  have hf : (MemS.fresh (Int.toNat 9)).ws.length = 9 := by decide +kernel
  generalize MemS.fresh (Int.toNat 9) = s0 at M2 hf
  have HF := Lib.hid hf
  clear hf
  obtain ⟨t, ht⟩ : ∃ t : Int, t = if thread.tmod 8 < 0 then thread.tmod 8 + 8 else thread.tmod 8 := ⟨_, rfl⟩
  have t0 : 0 ≤ t := by split at ht <;> omega
  have t8 : t < 8 := by split at ht <;> omega
  by_cases hneg : thread.tmod 8 < 0
  all_goals
    go_upto_region 7 with fail
    first
      | (have ht' : thread.tmod 8 + 8 = t := by rw [ht, if_pos hneg]
         generalize thread.tmod 8 + 8 = t' at *
         subst ht')
      | (have ht' : thread.tmod 8 = t := by rw [ht, if_neg (by omega)]
         generalize thread.tmod 8 = t' at *
         subst ht')
    clear ht hneg
    have P3 : (w2.alloc (.cells #[.int .i64 0, .int .i64 0, .int .i64 0, .int .i64 1, .int .i64 0, .int .i64 0] 35)).heap[w2.heap.size]? = some (.cells #[.int .i64 0, .int .i64 0, .int .i64 0, .int .i64 1, .int .i64 0, .int .i64 0] 35 (0, 0)) := heap_alloc_new _ _
    have M3 := M2.alloc (.cells #[.int .i64 0, .int .i64 0, .int .i64 0, .int .i64 1, .int .i64 0, .int .i64 0] 35)
    have D3 := (d1.trans d2).alloc (.cells #[.int .i64 0, .int .i64 0, .int .i64 0, .int .i64 1, .int .i64 0, .int .i64 0] 35)
    have ga : w.heap.size ≤ a ∧ w.heap.size ≤ b := by have := d1.size; omega
    clear d1 d2 ha hb M2
    generalize w2.alloc (.cells #[.int .i64 0, .int .i64 0, .int .i64 0, .int .i64 1, .int .i64 0, .int .i64 0] 35) = w3 at *
    generalize w2.heap.size = pb at *
    have u0 : w3.cell? ⟨pb, 0, none⟩ = some (.int .i64 0) := cell_of_blk P3 rfl
    have u1 : w3.cell? ⟨pb, 1, none⟩ = some (.int .i64 0) := cell_of_blk P3 rfl
    have u2 : w3.cell? ⟨pb, 2, none⟩ = some (.int .i64 0) := cell_of_blk P3 rfl
    have u3 : w3.cell? ⟨pb, 3, none⟩ = some (.int .i64 1) := cell_of_blk P3 rfl
    have u4 : w3.cell? ⟨pb, 4, none⟩ = some (.int .i64 0) := cell_of_blk P3 rfl
    have u5 : w3.cell? ⟨pb, 5, none⟩ = some (.int .i64 0) := cell_of_blk P3 rfl
    go_wp2_with fail
    refine (come_e 0 0 0 1 0 0 t' _).mono ?_; rintro e w4 ⟨k, rfl, K4, gk, A4⟩
    have P4 := A4.at P3 (by simp)
    have gk' : w.heap.size ≤ k := Nat.le_trans D3.size gk
    have D4 := D3.trans A4
    have M4 := M3.mod A4 (by simp) (by simp)
    clear u0 u1 u2 u3 u4 u5 P3 D3 M3 A4 gk
    have u0 : w4.cell? ⟨pb, 0, none⟩ = some (.int .i64 0) := cell_of_blk P4 rfl
    have u1 : w4.cell? ⟨pb, 1, none⟩ = some (.int .i64 0) := cell_of_blk P4 rfl
    have u2 : w4.cell? ⟨pb, 2, none⟩ = some (.int .i64 0) := cell_of_blk P4 rfl
    have u3 : w4.cell? ⟨pb, 3, none⟩ = some (.int .i64 1) := cell_of_blk P4 rfl
    have u4 : w4.cell? ⟨pb, 4, none⟩ = some (.int .i64 0) := cell_of_blk P4 rfl
    have u5 : w4.cell? ⟨pb, 5, none⟩ = some (.int .i64 0) := cell_of_blk P4 rfl
    go_wp2_with fail
    refine (look_e 0 0 0 1 0 0 (t' + 1) need _).mono ?_; rintro e w5 ⟨l, rfl, L5, gl, A5⟩
    have gl' : w.heap.size ≤ l := Nat.le_trans D4.size gl
    have W5 : CostW w w5 a b k l s0 (ComS.mk 0 0 0 1 0 0 t' 0 0 0) (ScanS.mk 0 0 0 1 0 0 (t' + 1) need 0 0) := ⟨M4.mod A5 (by simp) (by simp), A5.at K4 (by simp), L5, by omega, D4.trans A5⟩
    have C5 : CostI t' 0 (ComS.mk 0 0 0 1 0 0 t' 0 0 0) s0 := ⟨rfl, rfl, rfl, rfl, HF.out, by omega, ⟨by simp, by simp, fun _ => rfl, fun _ => rfl⟩⟩
    have hq : (ScanS.mk 0 0 0 1 0 0 (t' + 1) need 0 0).T = t' + 1 ∧ (ScanS.mk 0 0 0 1 0 0 (t' + 1) need 0 0).p3 = 1 ∧ (ScanS.mk 0 0 0 1 0 0 (t' + 1) need 0 0).nx = 0 ∧ (ScanS.mk 0 0 0 1 0 0 (t' + 1) need 0 0).po = 0 := ⟨rfl, rfl, rfl, rfl⟩
    have HQ := Lib.hid hq
    clear u0 u1 u2 u3 u4 u5 P4 D4 M4 K4 L5 A5 gl ga gk' gl' hq HF
    generalize ComS.mk 0 0 0 1 0 0 t' 0 0 0 = c0 at *
    generalize ScanS.mk 0 0 0 1 0 0 (t' + 1) need 0 0 = q0 at *
    go_wp2_with fail
    go_loopw [13] (fun i wr => ∃ (j : Nat) (s : MemS) (c : ComS), j ≤ 3 ∧ i = .int .i64 j ∧ CostW w wr a b k l s c q0 ∧ CostI t' j c s) (fun i _ => 3 - (intOf i).toNat)
    case atStart => exact ⟨0, s0, c0, by omega, rfl, W5, C5⟩
    case round =>
      clear W5 C5
      obtain ⟨j, s, c, hj, rfl, W, C⟩ := hrel
      by_cases hlt : j < 3
      · rcases Nat.lt_or_ge j len with hjl | hjl
        all_goals
          first
            | (obtain ⟨bz, off, z, rfl, -, z0, z1, hcell⟩ := hS.get hjl
               have cz := hcell wr W.fr
               clear hcell
               go_wp2_with fail
               refine (poke_c W.m 0 z).mono ?_; rintro e w6 ⟨rfl, M6, d6⟩
               have W1 := W.mem M6 d6
               have C1 := C.poke t0 z
               clear W C M6 d6 cz z0 z1
               generalize s.poke 0 z = s1 at *
               go_upto_region 16 with fail)
            | (go_upto_region 16 with fail
               have W1 := W
               have C1 := C
               clear W C
               generalize s = s1 at *)
          go_wp2_with fail
          refine (count_cq W1.m).mono ?_; rintro e w7 ⟨rfl, hw7⟩
          have hw7' := hw7.symm
          subst hw7'
          go_wp2_with fail
          refine (comes13 W1.m c C1.inv W1.hk).mono ?_; rintro e w8 ⟨rfl, M8, K8, d8⟩
          obtain ⟨he, ho, hct, C8⟩ := C1.step hlt t0 t8
          rw [he, ho]
          have W8 := W1.com M8 K8 d8
          have HC := Lib.hid hct
          clear W1 C1 M8 K8 d8 he ho hct
          generalize c.mem s1.opened = s8 at *
          generalize c.next s1.opened = c8 at *
          go_wp2_with fail
          refine (count_cq W8.m).mono ?_; rintro e w9 ⟨rfl, hw9⟩
          have hw9' := hw9.symm
          subst hw9'
          rw [HC.out]
          go_wp2
          go_roundw
          case rel => exact ⟨j + 1, s8, c8, by omega, by go_num, W8, C8⟩
          case measure => simp [intOf]; omega
      · obtain rfl : j = 3 := by omega
        have hb : s.bad (1 + t') = 0 := by
          have := C.len
          unfold MemS.bad
          rw [if_neg (by omega)]
        have hp : s.peek (1 + t') = IntKind.u64.wrap (c.cl + 1) := by
          unfold MemS.peek
          rw [if_pos hb]; exact C.put (by omega)
        have HP := Lib.hid hp
        have HB := Lib.hid hb
        have Q0 : CostS t' 0 q0 s := by
          obtain ⟨e1, e2, e3, e4⟩ := HQ.out
          exact ⟨e1, e2, by omega, by omega, by omega, by omega, C.len, ⟨by omega, by intros; omega⟩⟩
        clear hb hp C HQ
        go_wp2_with fail
        refine (peek_cq W.m (1 + t')).mono ?_; rintro e w6 ⟨rfl, hw6⟩
        have hw6' := hw6.symm
        subst hw6'
        rw [HP.out, HB.out]
        clear HP HB
        go_wp2_with fail
        refine (claim_c c W.hk).mono ?_; rintro e w7 ⟨rfl, hw7⟩
        have hw7' := hw7.symm
        subst hw7'
        obtain ⟨wo, rfl⟩ : ∃ wo : World, wo = wr := ⟨_, rfl⟩
        go_wp2_with fail
        go_loopw [19] (fun i wr => ∃ (j : Nat) (s : MemS) (q : ScanS), j ≤ len ∧ i = .int .i64 j ∧ CostW w wr a b k l s c q ∧ CostS t' j q s) (fun i _ => len - (intOf i).toNat)
        case atStart => exact ⟨0, s, q0, by omega, rfl, W, Q0⟩
        case round =>
          clear W Q0
          obtain ⟨j, s, q, hj, rfl, W, Q⟩ := hrel
          by_cases hlt : j < len
          · obtain ⟨bz, off, z, rfl, -, z0, z1, hcell⟩ := hS.get hlt
            have cz := hcell wr W.fr
            clear hcell
            have Q1 := Q.poke (1 + (j : Int) % 8) z
            go_wp2_with fail
            refine (poke_c W.m (1 + (j : Int) % 8) z).mono ?_; rintro e w6 ⟨rfl, M6, d6⟩
            have W1 := W.mem M6 d6
            clear W Q M6 d6 cz z0 z1
            generalize s.poke (1 + (j : Int) % 8) z = s1 at *
            by_cases hx : q.nx ≤ t'
            · go_wp2_with fail
              refine (at_c q W1.hl).mono ?_; rintro e w7 ⟨rfl, hw7⟩
              have hw7' := hw7.symm
              subst hw7'
              go_wp2_with fail
              refine (open_c W1.m).mono ?_; rintro e w8 ⟨rfl, M8, d8⟩
              have W8 := W1.mem M8 d8
              obtain ⟨he, ho, Q9⟩ := Q1.step t0 t8 hx (by omega)
              have qi := Q1.inv
              have He := Lib.hid he
              have Ho := Lib.hid ho
              clear W1 Q1 M8 d8 hx he ho
              go_wp2_with fail
              refine (scanStep_c W8.m q qi W8.hl).mono ?_; rintro e w9 ⟨rfl, M9, L9, d9⟩
              rw [He.out, Ho.out]
              have W9 := W8.scan M9 L9 d9
              clear W8 M9 L9 d9 He Ho qi
              generalize q.mem s1.opened = s9 at *
              generalize q.next s1.opened = q9 at *
              have n0 := Q9.nx0
              have n1 := Q9.nx1
              have p0 := Q9.po
              have p1 : q9.po ≤ 140737488351232 := by have := Q9.sum; omega
              have HS := Lib.hid Q9.sum
              go_wp2_with fail
              refine (at_c q9 W9.hl).mono ?_; rintro e w10 ⟨rfl, hw10⟩
              have hw10' := hw10.symm
              subst hw10'
              go_wp2_with fail
              refine (at_c q9 W9.hl).mono ?_; rintro e w11 ⟨rfl, hw11⟩
              have hw11' := hw11.symm
              subst hw11'
              go_wp2_with fail
              refine (polls_c q9 W9.hl).mono ?_; rintro e w12 ⟨rfl, hw12⟩
              have hw12' := hw12.symm
              subst hw12'
              have hs : q9.nx + q9.po = (j : Int) + 1 := by have := HS.out; omega
              go_wp2
              go_roundw
              case rel => exact ⟨j + 1, s9, q9, by omega, by go_num, W9, Q9⟩
              case measure => simp [intOf]; omega
            · go_wp2_with fail
              refine (at_c q W1.hl).mono ?_; rintro e w7 ⟨rfl, hw7⟩
              have hw7' := hw7.symm
              subst hw7'
              have D := W1.fr
              clear W1 Q1
              go_wp2
              go_ret
              exact ⟨rfl, D⟩
          · have D := W.fr
            clear W Q
            go_wp2
            go_ret
            exact ⟨rfl, D⟩

end Go.Proofs.Ytobmgnoceacoaaa

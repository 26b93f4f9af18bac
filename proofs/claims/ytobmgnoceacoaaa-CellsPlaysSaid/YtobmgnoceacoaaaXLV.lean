/- Layer 11: what a few calls answer (73). -/
import Derived.Test.YtobmgnoceacoaaaXWP
import Derived.Test.YtobmgnoceacoaaaXS
import Derived.Test.YtobmgnoceacoaaaXRP
import Derived.Test.YtobmgnoceacoaaaMO
import Derived.Deep.QuietTactic
import Derived.BigQuiet
import Derived.Deep.DeepCutAuto
import Derived.Deep.CutBlock
import Derived.Deep.RegionHeld3
import Derived.StillTailTactics
import Derived.IntWalk
namespace Go.Proofs.Ytobmgnoceacoaaa
open Go.RowKit
attribute [local go_sem] run_store_float

deriving instance DecidableEq for MemS
deriving instance DecidableEq for WrS
deriving instance DecidableEq for RdS

def lvM : Nat → MemS × WrS
  | 0 => (MemS.mk [0, 4617315517961601024, 0] false 1, WrS.mk 0 0 0 0 0 0 0 4617315517961601024 1 4619567317775286272 0)
  | i + 1 => ((lvM i).2.mem (lvM i).1.opened, (lvM i).2.next (lvM i).1.opened)
theorem lv_inv : ∀ i, (lvM i).2.Inv
  | 0 => ⟨by decide, by decide⟩
  | i + 1 => WrS.next_inv (lv_inv i) _
theorem lv_step (i : Nat) (h : i < 3) : (lvM i).2.err (lvM i).1.opened = 0 ∧ (lvM i).2.over (lvM i).1.opened = ((i : Int) == 2) := by
  rcases (show i = 0 ∨ i = 1 ∨ i = 2 by omega) with rfl | rfl | rfl
  · exact ⟨by decide +kernel, by decide +kernel⟩
  · exact ⟨by decide +kernel, by decide +kernel⟩
  · exact ⟨by decide +kernel, by decide +kernel⟩

/-- The world of 'live': the memory, a writing, a reading. -/
structure LvW (w0 w : World) (a b k l : Nat) (s : MemS) (q : WrS) (r : RdS) : Prop where
  m : MemAt 142 w a b s
  hk : w.heap[k]? = some (.cells q.arr 180 (0, 0))
  hl : w.heap[l]? = some (.cells r.arr 177 (0, 0))
  ge : w0.heap.size ≤ a ∧ w0.heap.size ≤ b ∧ w0.heap.size ≤ k ∧ w0.heap.size ≤ l
  fr : Mod [] w0 w
variable {w0 w w' : World} {a b k l : Nat} {s s' : MemS} {q q' : WrS} {r r' : RdS}
theorem LvW.mem (h : LvW w0 w a b k l s q r) (m : MemAt 142 w' a b s') (d : Mod [a, b] w w') : LvW w0 w' a b k l s' q r := by
  have hg := h.ge
  exact ⟨m, d.at h.hk (by simp [blk_ne h.hk h.m.hd (by decide), blk_ne h.hk h.m.ws (by decide)]), d.at h.hl (by simp [blk_ne h.hl h.m.hd (by decide), blk_ne h.hl h.m.ws (by decide)]), hg, h.fr.then d (by simp; omega)⟩
theorem LvW.write (h : LvW w0 w a b k l s q r) (m : MemAt 142 w' a b s') (hk : w'.heap[k]? = some (.cells q'.arr 180 (0, 0))) (d : Mod [a, b, k] w w') : LvW w0 w' a b k l s' q' r := by
  have hg := h.ge
  exact ⟨m, hk, d.at h.hl (by simp [blk_ne h.hl h.m.hd (by decide), blk_ne h.hl h.m.ws (by decide), blk_ne h.hl h.hk (by decide)]), hg, h.fr.then d (by simp; omega)⟩
theorem LvW.read (h : LvW w0 w a b k l s q r) (m : MemAt 142 w' a b s') (hl : w'.heap[l]? = some (.cells r'.arr 177 (0, 0))) (d : Mod [a, b, l] w w') : LvW w0 w' a b k l s' q r' := by
  have hg := h.ge
  exact ⟨m, d.at h.hk (by simp [blk_ne h.hk h.m.hd (by decide), blk_ne h.hk h.m.ws (by decide), blk_ne h.hk h.hl (by decide)]), hl, hg, h.fr.then d (by simp; omega)⟩

set_option maxRecDepth 100000 in
set_option maxHeartbeats 40000000 in
theorem live11 (w : World) : Calls Try.prog 73 #[] w fun e w' => e = .returned (.bool true) ∧ Mod [] w w' := by
  have h5 : (FloatKind.f64.format.order 4617315517961601024 4617315517961601024 == some .eq) = true := by decide +kernel
  go_enter Try.func73, Try.ntmps73
  go_wp2_with fail
  refine (new_e 3 (by omega) (by omega) _).mono ?_; rintro e w1 ⟨a, b, rfl, M1, ha, hb, d1⟩
  rw [show MemS.fresh (Int.toNat 3) = (MemS.mk [0, 0, 0] false 0) from by decide +kernel] at M1
  go_wp2_with fail
  have FL1 : FL (w1.alloc (.cells #[.float .f64 4617315517961601024] 110)) (.slice (some ⟨w1.heap.size, 0, none⟩) 1 1) [4617315517961601024] :=
    ⟨_, 1, rfl, .inr ⟨_, _, rfl, heap_alloc_new _ _, fun i hi => by
      have h0 : i = 0 := Nat.lt_one_iff.1 hi
      subst h0
      rfl⟩⟩
  refine (start_c (M1.alloc _) 0 0 0 0 0 0 _ FL1 (by simp)).mono ?_; rintro e w2 ⟨rfl, M2, d2⟩
  rw [show startE (MemS.mk [0, 0, 0] false 0) 0 [4617315517961601024] = 0 from by decide +kernel]
  rw [show startM (MemS.mk [0, 0, 0] false 0) 0 [4617315517961601024] = (MemS.mk [0, 4617315517961601024, 0] false 0) from by decide +kernel] at M2
  have hal := M1.lta
  have hbl := M1.ltb
  have D2 : Mod [] w w2 := (d1.alloc _).then d2 (by simp; omega)
  clear M1 d1 d2 FL1 hal hbl
  go_wp2_with fail
  refine (open_c M2).mono ?_; rintro e w3 ⟨rfl, M3, d3⟩
  rw [show (MemS.mk [0, 4617315517961601024, 0] false 0).opened = (MemS.mk [0, 4617315517961601024, 0] true 0) from by decide +kernel] at M3
  have D3 : Mod [] w w3 := D2.then d3 (by simp; omega)
  clear M2 D2 d3
  go_wp2_with fail
  refine (now11 M3 0 0 0 0 0 0 0).mono ?_; rintro e w4 ⟨rfl, M4, d4⟩
  rw [show (MemS.mk [0, 4617315517961601024, 0] true 0).nowV 0 0 = 4617315517961601024 from by decide +kernel, show (MemS.mk [0, 4617315517961601024, 0] true 0).cellE 0 0 1 = 0 from by decide +kernel]
  rw [show (MemS.mk [0, 4617315517961601024, 0] true 0).cellM 0 0 1 = (lvM 0).1 from by decide +kernel] at M4
  have D4 : Mod [] w w4 := D3.then d4 (by simp; omega)
  clear M3 D3 d4
  go_wp2_with fail
  refine (write11 0 0 0 0 0 0 0 1 4617315517961601024 4619567317775286272 _).mono ?_; rintro e w5 ⟨k, rfl, K5, gk, d5⟩
  rw [show (WrS.mk 0 0 0 0 0 0 0 (fixB 4617315517961601024 : Int) 1 (fixB 4619567317775286272 : Int) 0) = (lvM 0).2 from by decide +kernel] at K5
  have M5 := M4.mod d5 (by simp) (by simp)
  have D5 := D4.trans d5
  have gk' : w.heap.size ≤ k := Nat.le_trans D4.size gk
  clear M4 D4 d5 gk
  go_wp2_with fail
  refine (read11 0 0 0 0 0 0 0 0 _).mono ?_; rintro e w6 ⟨l, rfl, L6, gl, d6⟩
  have gl' : w.heap.size ≤ l := Nat.le_trans D5.size gl
  have W6 : LvW w w6 a b k l (lvM 0).1 (lvM 0).2 (RdS.mk 0 0 0 0 0 0 0 0 0 0 0 0 false) := ⟨M5.mod d6 (by simp) (by simp), d6.at K5 (by simp), L6, by omega, D5.trans d6⟩
  clear M5 K5 L6 D5 d6 gl gl' gk' ha hb
  go_wp2_with fail
  go_loopw [8, 9] (fun n v wr => ∃ i : Nat, i ≤ 3 ∧ n = .int .i64 i ∧ v = .int .i64 i ∧ LvW w wr a b k l (lvM i).1 (lvM i).2 (RdS.mk 0 0 0 0 0 0 0 0 0 0 0 0 false)) (fun _ v _ => 3 - (intOf v).toNat)
  case atStart => exact ⟨0, by omega, rfl, rfl, W6⟩
  case round =>
    clear W6
    obtain ⟨i, hi, rfl, rfl, W⟩ := hrel
    by_cases hlt : i < 3
    · obtain ⟨he, ho⟩ := lv_step i hlt
      have He := Lib.hid he
      have Ho := Lib.hid ho
      clear he ho
      go_wp2_with fail
      refine (open_c W.m).mono ?_; rintro e w7 ⟨rfl, M7, d7⟩
      have W7 := W.mem M7 d7
      clear W M7 d7
      go_wp2_with fail
      refine (wstep_c W7.m (lvM i).2 (lv_inv i) W7.hk).mono ?_; rintro e w8 ⟨rfl, M8, K8, d8⟩
      rw [He.out, Ho.out]
      have W8 : LvW w w8 a b k l (lvM (i + 1)).1 (lvM (i + 1)).2 _ := W7.write M8 K8 d8
      clear W7 M8 K8 d8 He Ho
      go_wp2
      go_roundw
      case rel => exact ⟨i + 1, by omega, by go_num, by go_num, W8⟩
      case measure => simp [intOf]; omega
    · obtain rfl : i = 3 := by omega
      rw [show lvM 3 = (MemS.mk [1, 4619567317775286272, 4617315517961601024] false 4, WrS.mk 0 0 0 0 0 0 0 4617315517961601024 1 4619567317775286272 3) from by decide +kernel] at W
      dsimp only at W
      go_wp2_with fail
      refine (open_c W.m).mono ?_; rintro e w7 ⟨rfl, M7, d7⟩
      have W7 := W.mem M7 d7
      rw [show (MemS.mk [1, 4619567317775286272, 4617315517961601024] false 4).opened = (MemS.mk [1, 4619567317775286272, 4617315517961601024] true 4) from by decide +kernel] at W7
      clear W M7 d7
      go_wp2_with fail
      refine (rstep_c W7.m _ ⟨by decide, by decide⟩ W7.hl).mono ?_; rintro e w8 ⟨rfl, M8, K8, d8⟩
      rw [show (RdS.mk 0 0 0 0 0 0 0 0 0 0 0 0 false).over (MemS.mk [1, 4619567317775286272, 4617315517961601024] true 4) = false from by decide +kernel, show (RdS.mk 0 0 0 0 0 0 0 0 0 0 0 0 false).err (MemS.mk [1, 4619567317775286272, 4617315517961601024] true 4) = 0 from by decide +kernel]
      have W8 := W7.read M8 K8 d8
      rw [show (RdS.mk 0 0 0 0 0 0 0 0 0 0 0 0 false).mem (MemS.mk [1, 4619567317775286272, 4617315517961601024] true 4) = (MemS.mk [1, 4619567317775286272, 4617315517961601024] false 5) from by decide +kernel, show (RdS.mk 0 0 0 0 0 0 0 0 0 0 0 0 false).next (MemS.mk [1, 4619567317775286272, 4617315517961601024] true 4) = (RdS.mk 0 0 0 0 0 0 0 0 3 1 0 1 false) from by decide +kernel] at W8
      clear W7 M8 K8 d8
      go_wp2_with fail
      refine (open_c W8.m).mono ?_; rintro e w9 ⟨rfl, M9, d9⟩
      have W9 := W8.mem M9 d9
      rw [show (MemS.mk [1, 4619567317775286272, 4617315517961601024] false 5).opened = (MemS.mk [1, 4619567317775286272, 4617315517961601024] true 5) from by decide +kernel] at W9
      clear W8 M9 d9
      go_wp2_with fail
      refine (rstep_c W9.m _ ⟨by decide, by decide⟩ W9.hl).mono ?_; rintro e w10 ⟨rfl, M10, K10, d10⟩
      rw [show (RdS.mk 0 0 0 0 0 0 0 0 3 1 0 1 false).over (MemS.mk [1, 4619567317775286272, 4617315517961601024] true 5) = true from by decide +kernel, show (RdS.mk 0 0 0 0 0 0 0 0 3 1 0 1 false).err (MemS.mk [1, 4619567317775286272, 4617315517961601024] true 5) = 0 from by decide +kernel]
      have W10 := W9.read M10 K10 d10
      rw [show (RdS.mk 0 0 0 0 0 0 0 0 3 1 0 1 false).mem (MemS.mk [1, 4619567317775286272, 4617315517961601024] true 5) = (MemS.mk [1, 4619567317775286272, 4617315517961601024] false 6) from by decide +kernel, show (RdS.mk 0 0 0 0 0 0 0 0 3 1 0 1 false).next (MemS.mk [1, 4619567317775286272, 4617315517961601024] true 5) = (RdS.mk 0 0 0 0 0 0 0 0 4 1 4617315517961601024 2 false) from by decide +kernel] at W10
      clear W9 M10 K10 d10
      go_wp2_with fail
      refine (peek11_ok W10.m 0 0 0 0 0 0 0 (by decide +kernel) (by decide +kernel)).mono ?_; rintro e w11 ⟨rfl, M11, d11⟩
      rw [show (MemS.mk [1, 4619567317775286272, 4617315517961601024] false 6).peek (0 + 3 * 0) = 1 from by decide +kernel, show (MemS.mk [1, 4619567317775286272, 4617315517961601024] false 6).peek (0 + 3 * 0 + 1) = 4619567317775286272 from by decide +kernel, show (MemS.mk [1, 4619567317775286272, 4617315517961601024] false 6).peek (0 + 3 * 0 + 2) = 4617315517961601024 from by decide +kernel]
      have L11 := d11.at W10.hl (by simp)
      have D11 := W10.fr.trans d11
      clear W10 M11 d11
      go_wp2_with fail
      refine (rvalue_c _ (blk_alloc_old _ L11)).mono ?_; rintro e w12 ⟨rfl, rfl⟩
      rw [show (RdS.mk 0 0 0 0 0 0 0 0 4 1 4617315517961601024 2 false).value = 4617315517961601024 from by decide +kernel]
      go_wp2
      go_ret
      exact ⟨rfl, D11.alloc _⟩

end Go.Proofs.Ytobmgnoceacoaaa

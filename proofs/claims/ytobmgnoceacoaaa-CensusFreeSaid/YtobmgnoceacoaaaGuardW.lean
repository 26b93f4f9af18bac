/- CensusGuards, CensusFree: the walks. -/
import Derived.Test.YtobmgnoceacoaaaGuardB
import Derived.Test.YtobmgnoceacoaaaLive13
import Derived.Test.YtobmgnoceacoaaaNums
import Derived.Deep.RegionWith
import Derived.Deep.QuietTactic
import Derived.BigQuiet
import Derived.Deep.DeepCutAuto
import Derived.Deep.CutBlock
import Derived.Deep.RegionHeld3
import Derived.IntWalk
namespace Go.Proofs.Ytobmgnoceacoaaa
open Go.RowKit
variable {w0 w w' : World} {g a b L n : Nat} {mem : MemS} {pt : Nat → Int} {cb : Nat → Option Nat} {cs : Nat → ComS} {part s : Int} {sb : Option Nat} {sc : ScanS}


def GMade (w0 : World) (v : Value) (wx : World) : Prop := ∃ g a b L, v = .pointer (some ⟨g, 0, none⟩) ∧ GW w0 wx g a b L (GS.mk (MemS.fresh 9) (fun _ => 0) (fun _ => none) (fun _ => (ComS.mk 0 0 0 0 0 0 0 0 0 0)) 0 0 none (ScanS.mk 0 0 0 0 0 0 0 0 0 0))
theorem gmade {w1 : World} {z : Nat} (hz : z = w.heap.size) (D : Mod [] w0 w1) (q : Mod [] w1 w) (m : MemAt 142 w a b (.fresh 9)) (ga : w1.heap.size ≤ a) (gb : w1.heap.size ≤ b) (hL : w.heap[L]? = some (.cells #[.int .i64 0, .pointer none, .int .i64 0, .pointer none, .int .i64 0, .pointer none, .int .i64 0, .pointer none, .int .i64 0, .pointer none, .int .i64 0, .pointer none, .int .i64 0, .pointer none] 93 (0, 0))) (gL : w1.heap.size ≤ L) :
    GMade w0 (.pointer (some ⟨z, 0, none⟩)) (w.alloc (.cells #[.pointer (some ⟨a, 0, none⟩), .int .i64 0, .int .i64 0, .int .i64 0, .int .i64 1, .int .i64 0, .int .i64 0, .slice (some ⟨L, 0, none⟩) 7 7, .int .i64 0, .int .u64 0, .pointer none] 90)) := by
  have h1 := D.size
  have h2 := q.size
  subst hz
  exact ⟨_, a, b, L, rfl, ⟨heap_alloc_new _ _, m.alloc _, blk_alloc_old _ hL, fun _ _ _ h => by simp at h, fun _ _ _ _ _ h => by simp at h, fun _ h => by simp at h, by omega, (D.trans q).alloc _⟩⟩

theorem ginv0 : GInv 0 (GS.mk (MemS.fresh 9) (fun _ => 0) (fun _ => none) (fun _ => (ComS.mk 0 0 0 0 0 0 0 0 0 0)) 0 0 none (ScanS.mk 0 0 0 0 0 0 0 0 0 0)) :=
  ⟨by decide +kernel, by decide +kernel, by decide +kernel, fun t ht => by
    have hw : GS.wd (GS.mk (MemS.fresh 9) (fun _ => 0) (fun _ => none) (fun _ => (ComS.mk 0 0 0 0 0 0 0 0 0 0)) 0 0 none (ScanS.mk 0 0 0 0 0 0 0 0 0 0)) t = 0 := seven (P := fun t => GS.wd (GS.mk (MemS.fresh 9) (fun _ => 0) (fun _ => none) (fun _ => (ComS.mk 0 0 0 0 0 0 0 0 0 0)) 0 0 none (ScanS.mk 0 0 0 0 0 0 0 0 0 0)) t = 0) (by decide +kernel) (by decide +kernel) (by decide +kernel) (by decide +kernel) (by decide +kernel) (by decide +kernel) (by decide +kernel) t ht
    rw [hw]
    have a0 : ¬ (0 : Int) < 0 := by decide
    exact ⟨(by decide : (0 : Int) ≤ 0), (by decide : (0 : Int) ≤ 3), fun h => absurd h a0, fun h => absurd h a0, fun h => absurd h a0, fun h => absurd h a0, fun h => absurd h a0, fun h => absurd h a0, fun h => absurd h a0, fun h => absurd h a0, fun _ => rfl, fun h => absurd h (by show ¬ 2 ≤ (0 : Int); decide), fun h => absurd h (by show ¬ (0 : Int) = 3; decide)⟩,
    .inl rfl, fun h => absurd h (by decide), fun h => absurd h (by decide), fun h => absurd h (by decide), fun h => absurd h (by decide), fun h => absurd h (by decide)⟩

theorem make_persons (w : World) : (Instr.makeSlice 88 (.int .i64 7) (.int .i64 7)).run Try.prog w = .ok (.slice (some ⟨w.heap.size, 0, none⟩) 7 7) (w.alloc (.cells #[.int .i64 0, .pointer none, .int .i64 0, .pointer none, .int .i64 0, .pointer none, .int .i64 0, .pointer none, .int .i64 0, .pointer none, .int .i64 0, .pointer none, .int .i64 0, .pointer none] 93)) := by kernel_rfl


set_option maxRecDepth 100000 in
set_option maxHeartbeats 40000000 in
theorem censusGuards_walk (a0 : Option Addr) (len cap : Nat) (zs : List Int) (w : World) (hS : Nums w .u8 a0 len zs) :
    Calls Try.prog 15 #[.slice a0 len cap] w fun e w' => e = .returned (.bool true) ∧ Mod [] w w' := by
  have hlb := hS.2.1
  go_enter Try.func15, Try.ntmps15
  go_wp2_with fail
  refine (live13 _).mono ?_; rintro e w1 ⟨rfl, d1⟩
  go_upto_region 2 with fail
  have hmk := make_persons
  go_cut [4] (fun v wx => GMade w v wx)
  case first =>
    go_region_held3 (fun _ => True) (trivial)
      (first | (go_at_call 54; refine (fresh13 9 (by omega) (by omega) _).mono ?_; rintro e w2 ⟨a, b, rfl, M2, ha, hb, d2⟩))
    all_goals
      go_wp2_with fail
      go_meet
      have hd := d1.size
      have hd2 := d2.size
      first
        | exact gmade (by simp) d1 ((Mod.refl _ _).drew.trans (d2.alloc _)) (M2.alloc _) (by simpa using ha) (by simpa using hb) (heap_alloc_new _ _) (by simpa using hd2)
        | exact gmade (by simp) d1 (((Mod.refl _ _).drew.alloc _).trans d2) M2 (by simp at ha; omega) (by simp at hb; omega) (d2.at (heap_alloc_new _ _) (by simp)) (Nat.le_refl _)
  case rest =>
    clear hmk
    obtain ⟨g, a, b, L, rfl, W0⟩ := hcut
    obtain ⟨w2, rfl⟩ : ∃ w2, w2 = wc := ⟨_, rfl⟩
    have I0 := ginv0
    have g0 : w2.cell? ⟨g, 0, none⟩ = some (.pointer (some ⟨a, 0, none⟩)) := cell_of_blk W0.hg rfl
    generalize (GS.mk (MemS.fresh 9) (fun _ => 0) (fun _ => none) (fun _ => (ComS.mk 0 0 0 0 0 0 0 0 0 0)) 0 0 none (ScanS.mk 0 0 0 0 0 0 0 0 0 0)) = G0 at W0 I0
    go_wp2_with fail
    go_loopw [22] (fun i wr => ∃ (j : Nat) (G : GS), j ≤ len ∧ i = .int .i64 j ∧ GW w wr g a b L G ∧ GInv j G) (fun i _ => len - (intOf i).toNat)
    case atStart => exact ⟨0, G0, by omega, rfl, W0, I0⟩
    case round =>
      clear W0 I0 g0 d1
      obtain ⟨j, G, hj, rfl, W, I⟩ := hrel
      by_cases hlt : j < len
      · obtain ⟨bz, off, z, rfl, -, z0, z1, hcell⟩ := hS.get hlt
        have cz := hcell wr W.fr
        have z0' : 0 ≤ z := z0
        have z1' : z ≤ 255 := z1
        clear hcell z0 z1
        obtain ⟨t, ht, ht8⟩ : ∃ t : Nat, z % 8 = t ∧ t < 8 := ⟨(z % 8).toNat, by omega, by omega⟩
        by_cases h7 : t = 7
        all_goals
          first
            | (subst h7
               go_wp2_with fail
               refine (writes66 W I (by omega)).mono ?_; rintro e w3 ⟨rfl, G', W', I'⟩
               clear W I cz)
            | (have ht7 : t < 7 := by omega
               have HT := Lib.hid h7
               clear h7
               go_wp2_with fail
               refine (reads67 ht7 W I (by omega)).mono ?_; rintro e w3 ⟨rfl, G', W', I1, -, -, -⟩
               have I' := I1.mono (Nat.le_succ j)
               clear W I cz I1)
          clear ht ht8 z0' z1'
          have HI := Lib.hid I'
          obtain ⟨mem, pt, cb, cs, part, s, sb, sc⟩ := G'
          have hp : part = 0 ∨ part = 1 ∨ part = 2 := I'.part
          have HF : Hid (part = 2 → ∀ u : Nat, u < 7 → pt u = 3 → (cs u).st = s ∧ ∃ k, cb u = some k) := Lib.hid (fun h2 u hu h3 => ⟨(I'.f2 h2 u hu h3).trans (I'.s (by show 0 < part; omega)).symm, (I'.rd u hu).cb (by show 0 < pt u; omega)⟩)
          clear I'
          have f7 : w3.cell? ⟨g, 7, none⟩ = some (.slice (some ⟨L, 0, none⟩) 7 7) := cell_of_blk W'.hg rfl
          obtain ⟨wo, rfl⟩ : ∃ wo, wo = w3 := ⟨_, rfl⟩
          go_wp2_with fail
          go_loopw [8] (fun v wq => ∃ u : Nat, u ≤ 7 ∧ v = .int .i64 u ∧ GW w wq g a b L (GS.mk mem pt cb cs part s sb sc)) (fun v _ => 7 - (intOf v).toNat)
          case atStart => exact ⟨0, by omega, rfl, W'⟩
          case round =>
            clear W' f7
            obtain ⟨u, hu, rfl, W⟩ := hrel
            have f7 : wr.cell? ⟨g, 7, none⟩ = some (.slice (some ⟨L, 0, none⟩) 7 7) := cell_of_blk W.hg rfl
            have f8 : wr.cell? ⟨g, 8, none⟩ = some (.int .i64 part) := cell_of_blk W.hg rfl
            have f9 : wr.cell? ⟨g, 9, none⟩ = some (.int .u64 s) := cell_of_blk W.hg rfl
            by_cases hu7 : u < 7
            · have lp : wr.cell? ⟨L, u * 2, none⟩ = some (.int .i64 (pt u)) := cell_of_blk W.hL (persons_pt _ _ u hu7)
              have lc : wr.cell? ⟨L, u * 2 + 1, none⟩ = some (ptrO (cb u)) := cell_of_blk W.hL (persons_cb _ _ u hu7)
              rcases hp with rfl | rfl | rfl
              · go_wp2_with fail
                go_quiet (fail)
                go_wp2
                go_roundw
                case rel => exact ⟨u + 1, by omega, by go_num, W.mod ((Mod.refl _ _).drewN _)⟩
                case measure => simp [intOf]; omega
              · go_wp2_with fail
                go_quiet (fail)
                go_wp2
                go_roundw
                case rel => exact ⟨u + 1, by omega, by go_num, W.mod ((Mod.refl _ _).drewN _)⟩
                case measure => simp [intOf]; omega
              · by_cases h3 : pt u = 3
                · obtain ⟨hst, k, hk⟩ := HF.out rfl u hu7 h3
                  have KC := (W.hc u hu7 k hk).1
                  have HC := Lib.hid KC
                  rw [h3] at lp
                  rw [hk] at lc
                  have lc : wr.cell? ⟨L, u * 2 + 1, none⟩ = some (.pointer (some ⟨k, 0, none⟩)) := lc
                  clear hk h3 KC
                  go_wp2_with fail
                  go_quiet ((go_at_call 68; exact Calls.quiet_of_same (cstamp_c _ HC.out)))
                  go_wp2
                  go_roundw
                  case rel => exact ⟨u + 1, by omega, by go_num, W.mod ((Mod.refl _ _).drewN _)⟩
                  case measure => simp [intOf]; omega
                · have hn3 : (pt u == 3) = false := by simpa using h3
                  have hn3' : decide (pt u = 3) = false := by simpa using h3
                  clear h3
                  go_wp2_with fail
                  go_quiet (fail)
                  go_wp2
                  go_roundw
                  case rel => exact ⟨u + 1, by omega, by go_num, W.mod ((Mod.refl _ _).drewN _)⟩
                  case measure => simp [intOf]; omega
            · go_wp2
              go_roundw
              case rel => exact ⟨j + 1, (GS.mk mem pt cb cs part s sb sc), by omega, by go_num, W, HI.out⟩
              case measure => simp [intOf]; omega
      · have D := W.fr
        clear W I
        go_wp2
        go_ret
        exact ⟨rfl, D⟩

end Go.Proofs.Ytobmgnoceacoaaa

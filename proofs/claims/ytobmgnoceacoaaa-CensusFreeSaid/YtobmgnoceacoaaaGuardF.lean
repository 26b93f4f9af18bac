/- CensusFree: the walk. -/
import Derived.Test.YtobmgnoceacoaaaGuardW
import Derived.Deep.RegionWith
import Derived.Deep.QuietTactic
import Derived.BigQuiet
import Derived.Deep.DeepCutAuto
import Derived.Deep.CutBlock
import Derived.Deep.RegionHeld3
import Derived.IntWalk
namespace Go.Proofs.Ytobmgnoceacoaaa
open Go.RowKit
variable {w0 w w' : World} {g a b L n : Nat} {mem : MemS} {pt : Nat → Int} {cb : Nat → Option Nat} {cs : Nat → ComS} {part s : Int} {sb : Option Nat} {sc : ScanS}

set_option maxRecDepth 100000 in
set_option maxHeartbeats 40000000 in
theorem censusFree_walk (a0 : Option Addr) (len cap : Nat) (zs : List Int) (w : World) (hS : Nums w .u8 a0 len zs) :
    Calls Try.prog 16 #[.slice a0 len cap] w fun e w' => e = .returned (.bool true) ∧ Mod [] w w' := by
  have hlb := hS.2.1
  go_enter Try.func16, Try.ntmps16
  go_wp2_with fail
  refine (live13 _).mono ?_; rintro e w1 ⟨rfl, d1⟩
  go_upto_region 2 with fail
  have hmk := make_persons
  go_cut [4] (fun v wx => GMade w v wx)
  case first =>
    go_region_held3 (fun _ => True) (trivial)
      (first | (go_at_call 54; refine (fresh13 9 (by omega) (by omega) _).mono ?_; rintro e w2 ⟨a, b, rfl, M2, ha, hb, d2⟩))
    all_goals
      go_wp2_with fail
      go_meet
      have hd := d1.size
      have hd2 := d2.size
      first
        | exact gmade (by simp) d1 ((Mod.refl _ _).drew.trans (d2.alloc _)) (M2.alloc _) (by simpa using ha) (by simpa using hb) (heap_alloc_new _ _) (by simpa using hd2)
        | exact gmade (by simp) d1 (((Mod.refl _ _).drew.alloc _).trans d2) M2 (by simp at ha; omega) (by simp at hb; omega) (d2.at (heap_alloc_new _ _) (by simp)) (Nat.le_refl _)
  case rest =>
    clear hmk
    obtain ⟨g, a, b, L, rfl, W0⟩ := hcut
    obtain ⟨w2, rfl⟩ : ∃ w2, w2 = wc := ⟨_, rfl⟩
    have I0 := ginv0
    have g0 : w2.cell? ⟨g, 0, none⟩ = some (.pointer (some ⟨a, 0, none⟩)) := cell_of_blk W0.hg rfl
    generalize (GS.mk (MemS.fresh 9) (fun _ => 0) (fun _ => none) (fun _ => (ComS.mk 0 0 0 0 0 0 0 0 0 0)) 0 0 none (ScanS.mk 0 0 0 0 0 0 0 0 0 0)) = G0 at W0 I0
    go_wp2_with fail
    go_loopw [23] (fun i wr => ∃ (j : Nat) (G : GS), j ≤ len ∧ i = .int .i64 j ∧ GW w wr g a b L G ∧ GInv j G) (fun i _ => len - (intOf i).toNat)
    case atStart => exact ⟨0, G0, by omega, rfl, W0, I0⟩
    case round =>
      clear W0 I0 g0 d1
      obtain ⟨j, G, hj, rfl, W, I⟩ := hrel
      by_cases hlt : j < len
      · obtain ⟨bz, off, z, rfl, -, z0, z1, hcell⟩ := hS.get hlt
        have cz := hcell wr W.fr
        have z0' : 0 ≤ z := z0
        have z1' : z ≤ 255 := z1
        clear hcell z0 z1
        obtain ⟨t, ht, ht8⟩ : ∃ t : Nat, z % 8 = t ∧ t < 8 := ⟨(z % 8).toNat, by omega, by omega⟩
        by_cases h7 : t = 7
        · subst h7
          go_wp2_with fail
          refine (writes66 W I (by omega)).mono ?_; rintro e w3 ⟨rfl, G', W', I'⟩
          clear W I cz ht z0' z1'
          go_wp2_with fail
          go_quiet (fail)
          go_wp2
          go_roundw
          case rel => exact ⟨j + 1, G', by omega, by go_num, W'.mod ((Mod.refl _ _).drewN _), I'⟩
          case measure => simp [intOf]; omega
        · have ht7 : t < 7 := by omega
          have HT := Lib.hid h7
          clear h7 ht8
          obtain ⟨mem, pt, cb, cs, part, s, sb, sc⟩ := G
          have f7 : wr.cell? ⟨g, 7, none⟩ = some (.slice (some ⟨L, 0, none⟩) 7 7) := cell_of_blk W.hg rfl
          have f8 : wr.cell? ⟨g, 8, none⟩ = some (.int .i64 part) := cell_of_blk W.hg rfl
          have lp : wr.cell? ⟨L, t * 2, none⟩ = some (.int .i64 (pt t)) := cell_of_blk W.hL (persons_pt _ _ t ht7)
          have hp : part = 0 ∨ part = 1 ∨ part = 2 := I.part
          have HS : Hid (part = 1 → s = GS.V (GS.mk mem pt cb cs part s sb sc)) := Lib.hid (fun h => I.s (by show 0 < part; omega))
          by_cases hb : pt t = 0 ∧ part = 1
          · obtain ⟨h0, rfl⟩ := hb
            rw [h0] at lp
            have H0 := Lib.hid h0
            clear h0 hp
            go_wp2_with fail
            refine (reads67 ht7 W I (by omega)).mono ?_; rintro e w3 ⟨rfl, ⟨mem', pt', cb', cs', part', s', sb', sc'⟩, W', I1, hp', hs', hcl⟩
            have hp1 : part' = 1 := hp'
            have hs1 : s' = s := hs'
            subst hp1
            subst hs1
            obtain ⟨⟨k, hk⟩, hc⟩ := hcl H0.out
            have HK : Hid (cb' t = some k) := Lib.hid hk
            have hc' : (cs' t).cl = s' := hc.trans (HS.out (by first | rfl | trivial)).symm
            have HI := Lib.hid (I1.mono (Nat.le_succ j))
            clear W I cz I1 f7 f8 lp hp' hs' hcl hk hc HS H0 ht
            have f7 : w3.cell? ⟨g, 7, none⟩ = some (.slice (some ⟨L, 0, none⟩) 7 7) := cell_of_blk W'.hg rfl
            have f9 : w3.cell? ⟨g, 9, none⟩ = some (.int .u64 s') := cell_of_blk W'.hg rfl
            have lc : w3.cell? ⟨L, t * 2 + 1, none⟩ = some (.pointer (some ⟨k, 0, none⟩)) := (cell_of_blk W'.hL (persons_cb _ _ t ht7)).trans (congrArg (fun o => some (ptrO o)) HK.out)
            have HC : Hid (w3.heap[k]? = some (.cells (cs' t).arr 160 (0, 0))) := Lib.hid (W'.hc t ht7 k HK.out).1
            go_wp2_with fail
            go_quiet ((go_at_call 64; exact Calls.quiet_of_same (claim_c _ HC.out)))
            go_wp2
            go_roundw
            case rel => exact ⟨j + 1, _, by omega, by go_num, W'.mod ((Mod.refl _ _).drewN _), HI.out⟩
            case measure => simp [intOf]; omega
          · by_cases h0 : pt t = 0
            · have h1 : part = 0 ∨ part = 2 := by omega
              rw [h0] at lp
              clear hb hp h0
              rcases h1 with rfl | rfl
              all_goals
                go_wp2_with fail
                refine (reads67 ht7 W I (by omega)).mono ?_; rintro e w3 ⟨rfl, G', W', I1, -, -, -⟩
                have I' := I1.mono (Nat.le_succ j)
                clear W I cz I1 f7 f8 lp HS ht
                go_wp2_with fail
                go_quiet (fail)
                go_wp2
                go_roundw
                case rel => exact ⟨j + 1, G', by omega, by go_num, W'.mod ((Mod.refl _ _).drewN _), I'⟩
                case measure => simp [intOf]; omega
            · have hn0 : (pt t == 0) = false := by simpa using h0
              have hn0' : decide (pt t = 0) = false := by simpa using h0
              clear hb hp h0
              go_wp2_with fail
              refine (reads67 ht7 W I (by omega)).mono ?_; rintro e w3 ⟨rfl, G', W', I1, -, -, -⟩
              have I' := I1.mono (Nat.le_succ j)
              clear W I cz I1 f7 f8 lp HS hn0 hn0' ht
              go_wp2_with fail
              go_quiet (fail)
              go_wp2
              go_roundw
              case rel => exact ⟨j + 1, G', by omega, by go_num, W'.mod ((Mod.refl _ _).drewN _), I'⟩
              case measure => simp [intOf]; omega
      · have D := W.fr
        clear W I
        go_wp2
        go_ret
        exact ⟨rfl, D⟩

end Go.Proofs.Ytobmgnoceacoaaa

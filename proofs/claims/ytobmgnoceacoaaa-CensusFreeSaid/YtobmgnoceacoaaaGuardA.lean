/- CensusGuards, CensusFree: a step of the updater (66). -/
import Derived.Test.YtobmgnoceacoaaaGuardQ
import Derived.Test.YtobmgnoceacoaaaMO
import Derived.Test.YtobmgnoceacoaaaBegin13
import Derived.Deep.RegionWith
import Derived.Deep.QuietTactic
import Derived.BigQuiet
import Derived.Deep.DeepCutAuto
import Derived.Deep.CutBlock
import Derived.Deep.RegionHeld3
import Derived.IntWalk
namespace Go.Proofs.Ytobmgnoceacoaaa
open Go.RowKit
variable {w0 w w' : World} {g a b L n : Nat} {mem : MemS} {pt : Nat → Int} {cb : Nat → Option Nat} {cs : Nat → ComS} {part s : Int} {sb : Option Nat} {sc : ScanS}

/-- What a step leaves. -/
def GPost (w0 : World) (g a b L n : Nat) (e : Ending) (w' : World) : Prop := e = .returned (.bool true) ∧ ∃ G, GW w0 w' g a b L G ∧ GInv n G

set_option maxRecDepth 100000 in
set_option maxHeartbeats 40000000 in
theorem writes0 (W : GW w0 w g a b L (GS.mk mem pt cb cs 0 s sb sc)) (hI : GInv n (GS.mk mem pt cb cs 0 s sb sc)) :
    Calls Try.prog 66 #[.pointer (some ⟨g, 0, none⟩)] w (GPost w0 g a b L (n + 1)) := by
  have hl := hI.len
  have ha : mem.opened.acc 0 = 0 := acc9 hl (by omega) (by omega)
  have hgt : mem.opened.got 0 = GS.V (GS.mk mem pt cb cs 0 s sb sc) := got9 hl 0 (by omega)
  have hld : (mem.opened.load 0).ws = mem.ws := load9 hl (by omega) (by omega)
  have Ha := Lib.hid ha
  have Hg := Lib.hid hgt
  have Hl := Lib.hid hld
  have HI := Lib.hid hI
  have v0 := hI.v0
  have v1 := hI.v1
  clear hl ha hgt hld hI
  generalize hV : GS.V (GS.mk mem pt cb cs 0 s sb sc) = V at Hg v0 v1
  have HV := Lib.hid hV
  clear hV
  go_enter Try.func66, Try.ntmps66
  have f0 : w.cell? ⟨g, 0, none⟩ = some (.pointer (some ⟨a, 0, none⟩)) := cell_of_blk W.hg rfl
  go_wp2_with fail
  refine (open_c W.m).mono ?_; rintro e w1 ⟨rfl, M1, d1⟩
  have W1 := W.mem M1 d1
  clear W M1 d1 f0
  have f0 : w1.cell? ⟨g, 0, none⟩ = some (.pointer (some ⟨a, 0, none⟩)) := cell_of_blk W1.hg rfl
  have f1 : w1.cell? ⟨g, 1, none⟩ = some (.int .i64 0) := cell_of_blk W1.hg rfl
  have f2 : w1.cell? ⟨g, 2, none⟩ = some (.int .i64 0) := cell_of_blk W1.hg rfl
  have f3 : w1.cell? ⟨g, 3, none⟩ = some (.int .i64 0) := cell_of_blk W1.hg rfl
  have f4 : w1.cell? ⟨g, 4, none⟩ = some (.int .i64 1) := cell_of_blk W1.hg rfl
  have f5 : w1.cell? ⟨g, 5, none⟩ = some (.int .i64 0) := cell_of_blk W1.hg rfl
  have f6 : w1.cell? ⟨g, 6, none⟩ = some (.int .i64 0) := cell_of_blk W1.hg rfl
  have f8 : w1.cell? ⟨g, 8, none⟩ = some (.int .i64 0) := cell_of_blk W1.hg rfl
  go_upto_region 4 with fail
  go_cut [3, 4] (fun A C wx => A = .int .u64 (mem.opened.got 0) ∧ C = .int .i64 (mem.opened.acc 0) ∧ GW w0 wx g a b L (GS.mk (mem.opened.load 0) pt cb cs 0 s sb sc))
  case first =>
    go_region_held3 (fun wx => wx.cell? ⟨g, 0, none⟩ = some (.pointer (some ⟨a, 0, none⟩)) ∧ wx.cell? ⟨g, 1, none⟩ = some (.int .i64 0) ∧ wx.cell? ⟨g, 2, none⟩ = some (.int .i64 0) ∧ wx.cell? ⟨g, 3, none⟩ = some (.int .i64 0) ∧ wx.cell? ⟨g, 4, none⟩ = some (.int .i64 1) ∧ wx.cell? ⟨g, 5, none⟩ = some (.int .i64 0) ∧ wx.cell? ⟨g, 6, none⟩ = some (.int .i64 0)) (first | exact ⟨f0, f1, f2, f3, f4, f5, f6⟩ | exact ⟨cell_of_blk W2.hg rfl, cell_of_blk W2.hg rfl, cell_of_blk W2.hg rfl, cell_of_blk W2.hg rfl, cell_of_blk W2.hg rfl, cell_of_blk W2.hg rfl, cell_of_blk W2.hg rfl⟩)
      (first | (go_at_call 116; refine (stamp_c W1.drew.m 0 0 0 1 0 0).mono ?_; rintro e w2 ⟨rfl, M2, d2⟩; have W2 := W1.drew.mem M2 d2))
    all_goals
      go_wp2_with fail
      go_meet
      exact ⟨rfl, rfl, W2⟩
  case rest =>
    obtain ⟨rfl, rfl, W3⟩ := hcut
    rw [Ha.out, Hg.out]
    clear f0 f1 f2 f3 f4 f5 f6 f8 W1 Ha Hg
    obtain ⟨w3, rfl⟩ : ∃ w3, w3 = wc := ⟨_, rfl⟩
    have f9 : w3.cell? ⟨g, 9, none⟩ = some (.int .u64 s) := cell_of_blk W3.hg rfl
    have fz := free_of_blk (i := 9) W3.hg
    go_upto_region 6 with fail
    have W4 := W3.setS V
    clear W3 f9 fz
    generalize w3.setCell ⟨g, 9, none⟩ (.int .u64 V) = w4 at *
    have f1 : w4.cell? ⟨g, 1, none⟩ = some (.int .i64 0) := cell_of_blk W4.hg rfl
    have f2 : w4.cell? ⟨g, 2, none⟩ = some (.int .i64 0) := cell_of_blk W4.hg rfl
    have f3 : w4.cell? ⟨g, 3, none⟩ = some (.int .i64 0) := cell_of_blk W4.hg rfl
    have f4 : w4.cell? ⟨g, 4, none⟩ = some (.int .i64 1) := cell_of_blk W4.hg rfl
    have f5 : w4.cell? ⟨g, 5, none⟩ = some (.int .i64 0) := cell_of_blk W4.hg rfl
    have f6 : w4.cell? ⟨g, 6, none⟩ = some (.int .i64 0) := cell_of_blk W4.hg rfl
    have f7 : w4.cell? ⟨g, 7, none⟩ = some (.slice (some ⟨L, 0, none⟩) 7 7) := cell_of_blk W4.hg rfl
    have f10 : w4.cell? ⟨g, 10, none⟩ = some (ptrO sb) := cell_of_blk W4.hg rfl
    have fz := free_of_blk (i := 10) W4.hg
    go_cut [] (fun wx => ∃ k, GW w0 wx g a b L (GS.mk (mem.opened.load 0) pt cb cs 0 V (some k) (ScanS.mk 0 0 0 1 0 0 7 V 0 0)))
    case first =>
      go_region_held3 (fun wx => wx.cell? ⟨g, 1, none⟩ = some (.int .i64 0) ∧ wx.cell? ⟨g, 2, none⟩ = some (.int .i64 0) ∧ wx.cell? ⟨g, 3, none⟩ = some (.int .i64 0) ∧ wx.cell? ⟨g, 4, none⟩ = some (.int .i64 1) ∧ wx.cell? ⟨g, 5, none⟩ = some (.int .i64 0) ∧ wx.cell? ⟨g, 6, none⟩ = some (.int .i64 0) ∧ wx.cell? ⟨g, 7, none⟩ = some (.slice (some ⟨L, 0, none⟩) 7 7)) (first | exact ⟨f1, f2, f3, f4, f5, f6, f7⟩ | exact ⟨cell_of_blk W6.hg rfl, cell_of_blk W6.hg rfl, cell_of_blk W6.hg rfl, cell_of_blk W6.hg rfl, cell_of_blk W6.hg rfl, cell_of_blk W6.hg rfl, cell_of_blk W6.hg rfl⟩ | exact ⟨cell_of_blk W5.hg rfl, cell_of_blk W5.hg rfl, cell_of_blk W5.hg rfl, cell_of_blk W5.hg rfl, cell_of_blk W5.hg rfl, cell_of_blk W5.hg rfl, cell_of_blk W5.hg rfl⟩)
        (first | (go_at_call 56; refine (look_e 0 0 0 1 0 0 7 V _).mono ?_; rintro e w5 ⟨k, rfl, K5, gk, A5⟩; have W5 := W4.drew.mod A5; have W6 := W5.setSb K5 (Nat.le_trans W4.fr.size gk); have f10 := cell_of_blk (i := 10) (v := ptrO sb) W5.hg rfl; have fz := free_of_blk (i := 10) W5.hg))
      all_goals
        go_wp2_with fail
        go_meet
        exact ⟨_, W6⟩
    case rest =>
      obtain ⟨k, W7⟩ := hcut
      clear f1 f2 f3 f4 f5 f6 f7 f10 fz W4
      obtain ⟨w7, rfl⟩ : ∃ w7, w7 = wc := ⟨_, rfl⟩
      have f8 : w7.cell? ⟨g, 8, none⟩ = some (.int .i64 0) := cell_of_blk W7.hg rfl
      have fz := free_of_blk (i := 8) W7.hg
      go_upto_region 8 with fail
      have W8 := W7.setPart 1
      clear W7 f8 fz
      generalize w7.setCell ⟨g, 8, none⟩ (.int .i64 1) = w8 at *
      have f10 : w8.cell? ⟨g, 10, none⟩ = some (.pointer (some ⟨k, 0, none⟩)) := cell_of_blk W8.hg rfl
      go_wp2
      go_ret
      have hI := HI.out.load k Hl.out
      rw [HV.out] at hI
      exact ⟨rfl, _, W8, hI.mono (by omega)⟩

/-- What a scan's step makes of the readers and the updater. -/
theorem scan_cases (hI : GInv n (GS.mk mem pt cb cs 1 s sb sc)) : sc.err mem.opened = 0 ∧
    ((sc.over mem.opened = true ∧ GInv n (GS.mk (sc.mem mem.opened) pt cb cs 2 s sb (sc.next mem.opened))) ∨
     (sc.over mem.opened = false ∧ GInv n (GS.mk (sc.mem mem.opened) pt cb cs 1 s sb (sc.next mem.opened)))) := by
  obtain ⟨hT, h3, hnd, h0, h7⟩ := hI.sc rfl
  have hl := hI.len
  simp only at hT h3 hnd h0 h7 hl
  obtain ⟨he, hm, hp⟩ := scan9 hl hT h3 h0 h7
  refine ⟨he, ?_⟩
  by_cases hq : sc.passes mem.opened = true
  · have hx : sc.next mem.opened = { sc with nx := sc.nx + 1 } := by unfold ScanS.next; rw [if_neg (by omega), if_pos hq]
    have hw : ∀ t : Nat, (t : Int) = sc.nx → GS.wd (GS.mk mem pt cb cs 1 s sb sc) t = 0 ∨ GS.V (GS.mk mem pt cb cs 1 s sb sc) < GS.wd (GS.mk mem pt cb cs 1 s sb sc) t := by
      intro t ht
      rw [hp] at hq
      have := of_decide_eq_true hq
      rw [← ht, hnd] at this
      exact this
    by_cases h6 : sc.nx + 1 = 7
    · left
      refine ⟨?_, ?_⟩
      · unfold ScanS.over; rw [if_pos he, if_pos hq, hT]; simp only [h6]; decide
      · rw [hx]; exact hI.ends rfl hm h6 hw
    · right
      refine ⟨?_, ?_⟩
      · unfold ScanS.over; rw [if_pos he, if_pos hq, hT]; simp only [beq_eq_false_iff_ne]; exact h6
      · rw [hx]; exact hI.pass rfl hm (by show sc.nx + 1 < 7; omega) hw
  · right
    have hx : sc.next mem.opened = { sc with po := wrap64 (sc.po + 1) } := by unfold ScanS.next; rw [if_neg (by omega), if_neg hq]
    refine ⟨?_, ?_⟩
    · unfold ScanS.over; rw [if_pos he, if_neg hq]
    · rw [hx]; exact hI.poll hm _

set_option maxRecDepth 100000 in
set_option maxHeartbeats 40000000 in
theorem writes1 (W : GW w0 w g a b L (GS.mk mem pt cb cs 1 s sb sc)) (hI : GInv n (GS.mk mem pt cb cs 1 s sb sc)) (hsi : sc.Inv) :
    Calls Try.prog 66 #[.pointer (some ⟨g, 0, none⟩)] w (GPost w0 g a b L (n + 1)) := by
  obtain ⟨he, hc⟩ := scan_cases hI
  obtain ⟨k, hk⟩ := hI.sb rfl
  have hk' : sb = some k := hk
  subst hk'
  have He := Lib.hid he
  have HC := Lib.hid hc
  clear he hc hI hk
  go_enter Try.func66, Try.ntmps66
  have f0 : w.cell? ⟨g, 0, none⟩ = some (.pointer (some ⟨a, 0, none⟩)) := cell_of_blk W.hg rfl
  go_wp2_with fail
  refine (open_c W.m).mono ?_; rintro e w1 ⟨rfl, M1, d1⟩
  have W1 := W.mem M1 d1
  clear W M1 d1 f0
  have f0 : w1.cell? ⟨g, 0, none⟩ = some (.pointer (some ⟨a, 0, none⟩)) := cell_of_blk W1.hg rfl
  have f8 : w1.cell? ⟨g, 8, none⟩ = some (.int .i64 1) := cell_of_blk W1.hg rfl
  have f10 : w1.cell? ⟨g, 10, none⟩ = some (.pointer (some ⟨k, 0, none⟩)) := cell_of_blk W1.hg rfl
  go_upto_region 10 with fail
  go_cut [5, 6] (fun A C wx => A = .bool (sc.over mem.opened) ∧ C = .int .i64 (sc.err mem.opened) ∧ GW w0 wx g a b L (GS.mk (sc.mem mem.opened) pt cb cs 1 s (some k) (sc.next mem.opened)))
  case first =>
    go_region_held3 (fun wx => wx.cell? ⟨g, 0, none⟩ = some (.pointer (some ⟨a, 0, none⟩)) ∧ wx.cell? ⟨g, 10, none⟩ = some (.pointer (some ⟨k, 0, none⟩))) (first | exact ⟨f0, f10⟩ | exact ⟨cell_of_blk W2.hg rfl, cell_of_blk W2.hg rfl⟩)
      (first | (go_at_call 58; refine (scanStep_c W1.drew.m sc hsi (W1.drew.hs k rfl).1).mono ?_; rintro e w2 ⟨rfl, M2, L2, d2⟩; have W2 := W1.drew.scan rfl M2 L2 d2))
    all_goals
      go_wp2_with fail
      go_meet
      exact ⟨rfl, rfl, W2⟩
  case rest =>
    obtain ⟨rfl, rfl, W3⟩ := hcut
    rw [He.out]
    clear f0 f8 f10 W1 He hsi
    obtain ⟨w3, rfl⟩ : ∃ w3, w3 = wc := ⟨_, rfl⟩
    rcases HC.out with ⟨ho, hI⟩ | ⟨ho, hI⟩
    · rw [ho]
      have HI := Lib.hid hI
      clear ho hI HC
      have f8 : w3.cell? ⟨g, 8, none⟩ = some (.int .i64 1) := cell_of_blk W3.hg rfl
      have fz := free_of_blk (i := 8) W3.hg
      go_upto_region 13 with fail
      have W8 := W3.setPart 2
      clear W3 f8 fz
      generalize w3.setCell ⟨g, 8, none⟩ (.int .i64 2) = w8 at *
      go_wp2
      go_ret
      exact ⟨rfl, _, W8, HI.out.mono (by omega)⟩
    · rw [ho]
      have HI := Lib.hid hI
      clear ho hI HC
      go_wp2
      go_ret
      exact ⟨rfl, _, W3, HI.out.mono (by omega)⟩

set_option maxRecDepth 100000 in
set_option maxHeartbeats 40000000 in
theorem writes2 (W : GW w0 w g a b L (GS.mk mem pt cb cs 2 s sb sc)) (hI : GInv n (GS.mk mem pt cb cs 2 s sb sc)) (hn : n < 4611686018427387904) :
    Calls Try.prog 66 #[.pointer (some ⟨g, 0, none⟩)] w (GPost w0 g a b L (n + 1)) := by
  have hl := hI.len
  have ha : mem.opened.acc 0 = 0 := acc9 hl (by omega) (by omega)
  have hs : s = GS.V (GS.mk mem pt cb cs 2 s sb sc) := hI.s (by show (0 : Int) < 2; decide)
  have v0 := hI.v0
  have v1 := hI.v1
  rw [← hs] at v0 v1
  have hst : (mem.opened.store 0 (s + 1)).ws = mem.ws.set 0 (GS.V (GS.mk mem pt cb cs 2 s sb sc) + 1) := by rw [← hs]; exact store9 hl 0 (by omega) _
  have hI' := hI.publish hst
  have Ha := Lib.hid ha
  have HI := Lib.hid hI'
  clear hl ha hs hI hst hI'
  go_enter Try.func66, Try.ntmps66
  have f0 : w.cell? ⟨g, 0, none⟩ = some (.pointer (some ⟨a, 0, none⟩)) := cell_of_blk W.hg rfl
  go_wp2_with fail
  refine (open_c W.m).mono ?_; rintro e w1 ⟨rfl, M1, d1⟩
  have W1 := W.mem M1 d1
  clear W M1 d1 f0
  have f0 : w1.cell? ⟨g, 0, none⟩ = some (.pointer (some ⟨a, 0, none⟩)) := cell_of_blk W1.hg rfl
  have f1 : w1.cell? ⟨g, 1, none⟩ = some (.int .i64 0) := cell_of_blk W1.hg rfl
  have f2 : w1.cell? ⟨g, 2, none⟩ = some (.int .i64 0) := cell_of_blk W1.hg rfl
  have f3 : w1.cell? ⟨g, 3, none⟩ = some (.int .i64 0) := cell_of_blk W1.hg rfl
  have f4 : w1.cell? ⟨g, 4, none⟩ = some (.int .i64 1) := cell_of_blk W1.hg rfl
  have f5 : w1.cell? ⟨g, 5, none⟩ = some (.int .i64 0) := cell_of_blk W1.hg rfl
  have f6 : w1.cell? ⟨g, 6, none⟩ = some (.int .i64 0) := cell_of_blk W1.hg rfl
  have f8 : w1.cell? ⟨g, 8, none⟩ = some (.int .i64 2) := cell_of_blk W1.hg rfl
  have f9 : w1.cell? ⟨g, 9, none⟩ = some (.int .u64 s) := cell_of_blk W1.hg rfl
  go_upto_region 14 with fail
  have hw : IntKind.u64.wrap (s + 1) = s + 1 := IntWalk.u64_in _ (by omega)
  go_cut [7] (fun A wx => A = .int .i64 (mem.opened.acc 0) ∧ GW w0 wx g a b L (GS.mk (mem.opened.store 0 (s + 1)) pt cb cs 2 s sb sc))
  case first =>
    go_region_held3 (fun wx => wx.cell? ⟨g, 0, none⟩ = some (.pointer (some ⟨a, 0, none⟩)) ∧ wx.cell? ⟨g, 1, none⟩ = some (.int .i64 0) ∧ wx.cell? ⟨g, 2, none⟩ = some (.int .i64 0) ∧ wx.cell? ⟨g, 3, none⟩ = some (.int .i64 0) ∧ wx.cell? ⟨g, 4, none⟩ = some (.int .i64 1) ∧ wx.cell? ⟨g, 5, none⟩ = some (.int .i64 0) ∧ wx.cell? ⟨g, 6, none⟩ = some (.int .i64 0) ∧ wx.cell? ⟨g, 9, none⟩ = some (.int .u64 s)) (first | exact ⟨f0, f1, f2, f3, f4, f5, f6, f9⟩ | exact ⟨cell_of_blk W2.hg rfl, cell_of_blk W2.hg rfl, cell_of_blk W2.hg rfl, cell_of_blk W2.hg rfl, cell_of_blk W2.hg rfl, cell_of_blk W2.hg rfl, cell_of_blk W2.hg rfl, cell_of_blk W2.hg rfl⟩)
      (first | (go_at_call 114; refine (publish_c W1.drew.m 0 0 0 1 0 0 (s + 1)).mono ?_; rintro e w2 ⟨rfl, M2, d2⟩; have W2 := W1.drew.mem M2 d2))
    all_goals
      go_wp2_with fail
      go_meet
      exact ⟨rfl, W2⟩
  case rest =>
    obtain ⟨rfl, W3⟩ := hcut
    rw [Ha.out]
    clear f0 f1 f2 f3 f4 f5 f6 f8 f9 W1 Ha hw
    obtain ⟨w3, rfl⟩ : ∃ w3, w3 = wc := ⟨_, rfl⟩
    have f8 : w3.cell? ⟨g, 8, none⟩ = some (.int .i64 2) := cell_of_blk W3.hg rfl
    have fz := free_of_blk (i := 8) W3.hg
    go_upto_region 16 with fail
    have W8 := W3.setPart 0
    clear W3 f8 fz
    generalize w3.setCell ⟨g, 8, none⟩ (.int .i64 0) = w8 at *
    go_wp2
    go_ret
    exact ⟨rfl, _, W8, HI.out⟩

theorem writes66 {G : GS} (W : GW w0 w g a b L G) (hI : GInv n G) (hn : n < 4611686018427387904) : Calls Try.prog 66 #[.pointer (some ⟨g, 0, none⟩)] w (GPost w0 g a b L (n + 1)) := by
  obtain ⟨mem, pt, cb, cs, part, s, sb, sc⟩ := G
  have hp : part = 0 ∨ part = 1 ∨ part = 2 := hI.part
  rcases hp with rfl | rfl | rfl
  · exact writes0 W hI
  · obtain ⟨h1, h2, h3, h4, h5⟩ := hI.sc rfl
    exact writes1 W hI ⟨h4, fun _ _ => by simp only at h1 h5 ⊢; omega⟩
  · exact writes2 W hI hn

end Go.Proofs.Ytobmgnoceacoaaa

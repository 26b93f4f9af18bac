/- CensusGuards, CensusFree: a step of a reader (67). -/
import Derived.Test.YtobmgnoceacoaaaGuardA
import Derived.Test.YtobmgnoceacoaaaCQ
import Derived.Deep.RegionWith
import Derived.Deep.QuietTactic
import Derived.BigQuiet
import Derived.Deep.DeepCutAuto
import Derived.Deep.CutBlock
import Derived.Deep.RegionHeld3
import Derived.IntWalk
namespace Go.Proofs.Ytobmgnoceacoaaa
open Go.RowKit
variable {w0 w w' : World} {g a b L n : Nat} {mem : MemS} {pt : Nat → Int} {cb : Nat → Option Nat} {cs : Nat → ComS} {part s : Int} {sb : Option Nat} {sc : ScanS}


/-- What a reader's step leaves: besides, its claim, if it has begun. -/
def RPost (w0 : World) (g a b L n t : Nat) (G : GS) (e : Ending) (w' : World) : Prop :=
  e = .returned (.bool true) ∧ ∃ G', GW w0 w' g a b L G' ∧ GInv n G' ∧ G'.part = G.part ∧ G'.s = G.s ∧ (G.pt t = 0 → (∃ k, G'.cb t = some k) ∧ (G'.cs t).cl = G.V)

set_option maxRecDepth 100000 in
set_option maxHeartbeats 40000000 in
theorem reads3 {t : Nat} (ht : t < 7) (hp : pt t = 3) (W : GW w0 w g a b L (GS.mk mem pt cb cs part s sb sc)) (hI : GInv n (GS.mk mem pt cb cs part s sb sc)) :
    Calls Try.prog 67 #[.pointer (some ⟨g, 0, none⟩), .int .i64 t] w (RPost w0 g a b L n t (GS.mk mem pt cb cs part s sb sc)) := by
  obtain ⟨hle, hlw⟩ := leave9 (s := mem) hI.len ht
  have Hle := Lib.hid hle
  have HI : Hid (GInv n (GS.mk (mem.opened.leave 1 t) (upd pt t 0) cb cs part s sb sc)) := Lib.hid (by
    refine hI.read ht ?_ ?_ ?_ (fun u hu => upd_other _ _ hu) (fun _ _ => rfl) (fun _ _ => rfl) rfl rfl rfl rfl ?_ ?_
    · unfold GS.V; simp only [hlw]; exact set_V (G := (GS.mk mem pt cb cs part s sb sc)) 0
    · simp only [hlw, List.length_set]; exact hI.len
    · intro u hu hne; unfold GS.wd; simp only [hlw]; exact (set_wd (G := (GS.mk mem pt cb cs part s sb sc)) hI.len ht 0 u hu).trans (if_neg hne)
    · have hz : GS.wd (GS.mk (mem.opened.leave 1 t) (upd pt t 0) cb cs part s sb sc) t = 0 := by unfold GS.wd; simp only [hlw]; exact (set_wd (G := (GS.mk mem pt cb cs part s sb sc)) hI.len ht 0 t ht).trans (if_pos rfl)
      rw [hz]
      show RInv _ t (upd pt t 0 t) _ _ _
      rw [upd_same]
      exact ⟨by omega, by omega, fun h => absurd h (by decide), fun h => absurd h (by decide), fun h => absurd h (by decide), fun h => absurd h (by decide), fun h => absurd h (by decide), fun h => absurd h (by decide), fun h => absurd h (by decide), fun h => absurd h (by decide), fun _ => rfl, fun h => absurd h (by decide), fun h => absurd h (by decide)⟩
    · intro h
      have h' : upd pt t 0 t = 3 := h
      rw [upd_same] at h'; exact absurd h' (by decide))
  have hz : pt t ≠ 0 := by omega
  have HZ := Lib.hid hz
  clear hle hlw hI hz
  have HP := Lib.hid hp
  clear hp
  go_enter Try.func67, Try.ntmps67
  have f0 : w.cell? ⟨g, 0, none⟩ = some (.pointer (some ⟨a, 0, none⟩)) := cell_of_blk W.hg rfl
  go_wp2_with fail
  refine (open_c W.m).mono ?_; rintro e w1 ⟨rfl, M1, d1⟩
  have W1 := W.mem M1 d1
  clear W M1 d1 f0
  have f0 : w1.cell? ⟨g, 0, none⟩ = some (.pointer (some ⟨a, 0, none⟩)) := cell_of_blk W1.hg rfl
  have f1 : w1.cell? ⟨g, 1, none⟩ = some (.int .i64 0) := cell_of_blk W1.hg rfl
  have f2 : w1.cell? ⟨g, 2, none⟩ = some (.int .i64 0) := cell_of_blk W1.hg rfl
  have f3 : w1.cell? ⟨g, 3, none⟩ = some (.int .i64 0) := cell_of_blk W1.hg rfl
  have f4 : w1.cell? ⟨g, 4, none⟩ = some (.int .i64 1) := cell_of_blk W1.hg rfl
  have f5 : w1.cell? ⟨g, 5, none⟩ = some (.int .i64 0) := cell_of_blk W1.hg rfl
  have f6 : w1.cell? ⟨g, 6, none⟩ = some (.int .i64 0) := cell_of_blk W1.hg rfl
  have f7 : w1.cell? ⟨g, 7, none⟩ = some (.slice (some ⟨L, 0, none⟩) 7 7) := cell_of_blk W1.hg rfl
  have lp : w1.cell? ⟨L, t * 2, none⟩ = some (.int .i64 (pt t)) := cell_of_blk W1.hL (persons_pt _ _ t ht)
  have lc : w1.cell? ⟨L, t * 2 + 1, none⟩ = some (ptrO (cb t)) := cell_of_blk W1.hL (persons_cb _ _ t ht)
  rw [HP.out] at lp
  go_upto_region 4 with fail
  go_cut [6] (fun A wx => A = .int .i64 (mem.opened.leaveE 1 t) ∧ GW w0 wx g a b L (GS.mk (mem.opened.leave 1 t) pt cb cs part s sb sc))
  case first =>
    go_region_held3 (fun wx => wx.cell? ⟨g, 0, none⟩ = some (.pointer (some ⟨a, 0, none⟩)) ∧ wx.cell? ⟨g, 1, none⟩ = some (.int .i64 0) ∧ wx.cell? ⟨g, 2, none⟩ = some (.int .i64 0) ∧ wx.cell? ⟨g, 3, none⟩ = some (.int .i64 0) ∧ wx.cell? ⟨g, 4, none⟩ = some (.int .i64 1) ∧ wx.cell? ⟨g, 5, none⟩ = some (.int .i64 0) ∧ wx.cell? ⟨g, 6, none⟩ = some (.int .i64 0)) (first | exact ⟨f0, f1, f2, f3, f4, f5, f6⟩ | exact ⟨cell_of_blk W2.hg rfl, cell_of_blk W2.hg rfl, cell_of_blk W2.hg rfl, cell_of_blk W2.hg rfl, cell_of_blk W2.hg rfl, cell_of_blk W2.hg rfl, cell_of_blk W2.hg rfl⟩)
      (first | (go_at_call 59; refine (leave_c W1.drew.m 0 0 0 1 0 0 t).mono ?_; rintro e w2 ⟨rfl, M2, d2⟩; have W2 := W1.drew.mem M2 d2))
    all_goals
      go_wp2_with fail
      go_meet
      exact ⟨rfl, W2⟩
  case rest =>
    obtain ⟨rfl, W3⟩ := hcut
    rw [Hle.out]
    clear f0 f1 f2 f3 f4 f5 f6 f7 lp lc W1 Hle
    obtain ⟨w3, rfl⟩ : ∃ w3, w3 = wc := ⟨_, rfl⟩
    have lp : w3.cell? ⟨L, t * 2, none⟩ = some (.int .i64 (pt t)) := cell_of_blk W3.hL (persons_pt _ _ t ht)
    have lc : w3.cell? ⟨L, t * 2 + 1, none⟩ = some (ptrO (cb t)) := cell_of_blk W3.hL (persons_cb _ _ t ht)
    have fz := free_of_blk (i := t * 2) W3.hL
    go_upto_region 6 with fail
    have W4 := W3.setPt ht 0
    clear W3 lp lc fz
    generalize w3.setCell ⟨L, t * 2, none⟩ (.int .i64 0) = w4 at *
    go_wp2
    go_ret
    exact ⟨rfl, _, W4, HI.out, rfl, rfl, fun h => absurd h HZ.out⟩

theorem fin0 {t : Nat} (ht : t < 7) (hp : pt t = 0) (hI : GInv n (GS.mk mem pt cb cs part s sb sc)) {m : MemS} (hm : m.ws = mem.ws) (k : Nat) : GInv n (GS.mk m (upd pt t 1) (upd cb t (some k)) (upd (upd cs t (ComS.mk 0 0 0 1 0 0 t 0 0 0)) t (ComS.mk 0 0 0 1 0 0 t 1 (GS.V (GS.mk mem pt cb cs part s sb sc)) 0)) part s sb sc) := by
  have r := hI.rd t ht
  have v0 := hI.v0
  refine hI.read ht ?_ ?_ ?_ (fun u hu => upd_other _ _ hu) (fun u hu => upd_other _ _ hu) (fun u hu => (upd_other _ _ hu).trans (upd_other _ _ hu)) rfl rfl rfl rfl ?_ ?_
  · unfold GS.V; simp only [hm]
  · simp only [hm]; exact hI.len
  · intro u hu hne; unfold GS.wd; simp only [hm]
  · have hz : GS.wd (GS.mk m (upd pt t 1) (upd cb t (some k)) (upd (upd cs t (ComS.mk 0 0 0 1 0 0 t 0 0 0)) t (ComS.mk 0 0 0 1 0 0 t 1 (GS.V (GS.mk mem pt cb cs part s sb sc)) 0)) part s sb sc) t = GS.wd (GS.mk mem pt cb cs part s sb sc) t := by unfold GS.wd; simp only [hm]
    rw [hz]
    show RInv _ t (upd pt t 1 t) (upd cb t (some k) t) (upd (upd cs t (ComS.mk 0 0 0 1 0 0 t 0 0 0)) t (ComS.mk 0 0 0 1 0 0 t 1 (GS.V (GS.mk mem pt cb cs part s sb sc)) 0) t) _
    rw [upd_same, upd_same, upd_same]
    exact ⟨by omega, by omega, fun _ => ⟨k, rfl⟩, fun _ => rfl, fun _ => rfl, fun _ => rfl, fun _ => rfl, fun _ => ⟨(by decide : (0 : Int) ≤ 1), (by decide : (1 : Int) ≤ 3), fun h => absurd h (by show ¬ (1 : Int) = 0; decide), fun _ => rfl⟩, fun _ => v0, fun _ => Int.le_refl _,
      fun _ => r.w0 (by show pt t < 2; omega), fun h => absurd h (by decide), fun h => absurd h (by decide)⟩
  · intro h
    have h' : upd pt t 1 t = 3 := h
    rw [upd_same] at h'; exact absurd h' (by decide)

theorem fin1 {t : Nat} (ht : t < 7) (hp : pt t = 1) (hI : GInv n (GS.mk mem pt cb cs part s sb sc)) (hn : n < 4611686018427387904) {m : MemS} (hm : m.ws = mem.ws.set (1 + t) (IntKind.u64.wrap ((cs t).cl + 1))) : GInv n (GS.mk m (upd pt t 2) cb (upd cs t { cs t with n := 2 }) part s sb sc) := by
  have r := hI.rd t ht
  have v0 := hI.v0
  have v1 := hI.v1
  have p0 : 0 < ((GS.mk mem pt cb cs part s sb sc)).pt t := by show 0 < pt t; omega
  have c0 : 0 ≤ (cs t).cl := r.c0 p0
  have c1 : (cs t).cl ≤ (GS.V (GS.mk mem pt cb cs part s sb sc)) := r.c1 p0
  rw [IntWalk.u64_in _ (by omega)] at hm
  refine hI.read ht ?_ ?_ ?_ (fun u hu => upd_other _ _ hu) (fun _ _ => rfl) (fun u hu => upd_other _ _ hu) rfl rfl rfl rfl ?_ ?_
  · unfold GS.V; simp only [hm]; exact set_V (G := (GS.mk mem pt cb cs part s sb sc)) _
  · simp only [hm, List.length_set]; exact hI.len
  · intro u hu hne; unfold GS.wd; simp only [hm]; exact (set_wd (G := (GS.mk mem pt cb cs part s sb sc)) hI.len ht _ u hu).trans (if_neg hne)
  · have hz : GS.wd (GS.mk m (upd pt t 2) cb (upd cs t { cs t with n := 2 }) part s sb sc) t = (cs t).cl + 1 := by unfold GS.wd; simp only [hm]; exact (set_wd (G := (GS.mk mem pt cb cs part s sb sc)) hI.len ht _ t ht).trans (if_pos rfl)
    rw [hz]
    show RInv _ t (upd pt t 2 t) (cb t) (upd cs t { cs t with n := 2 } t) _
    rw [upd_same, upd_same]
    have iv := r.inv p0
    exact ⟨by omega, by omega, fun _ => r.cb p0, fun _ => rfl, fun _ => r.p2 p0, fun _ => r.p3 p0, fun _ => r.th p0, fun _ => ⟨(by decide : (0 : Int) ≤ 2), (by decide : (2 : Int) ≤ 3), fun h => absurd h (by show ¬ (2 : Int) = 0; decide), fun _ => iv.st (by have := r.n p0; simp only at this; rw [this, hp]; decide)⟩, fun _ => c0, fun _ => c1,
      fun h => absurd h (by decide), fun _ => rfl, fun h => absurd h (by decide)⟩
  · intro h
    have h' : upd pt t 2 t = 3 := h
    rw [upd_same] at h'; exact absurd h' (by decide)

theorem fin2 {t : Nat} (ht : t < 7) (hp : pt t = 2) (hI : GInv n (GS.mk mem pt cb cs part s sb sc)) {m : MemS} (hm : m.ws = mem.ws) : GInv n (GS.mk m (upd pt t 3) cb (upd cs t { cs t with n := 3, st := (GS.V (GS.mk mem pt cb cs part s sb sc)) }) part s sb sc) := by
  have r := hI.rd t ht
  have v0 := hI.v0
  have p0 : 0 < ((GS.mk mem pt cb cs part s sb sc)).pt t := by show 0 < pt t; omega
  have c0 : 0 ≤ (cs t).cl := r.c0 p0
  have c1 : (cs t).cl ≤ (GS.V (GS.mk mem pt cb cs part s sb sc)) := r.c1 p0
  refine hI.read ht ?_ ?_ ?_ (fun u hu => upd_other _ _ hu) (fun _ _ => rfl) (fun u hu => upd_other _ _ hu) rfl rfl rfl rfl ?_ ?_
  · unfold GS.V; simp only [hm]
  · simp only [hm]; exact hI.len
  · intro u hu hne; unfold GS.wd; simp only [hm]
  · have hz : GS.wd (GS.mk m (upd pt t 3) cb (upd cs t { cs t with n := 3, st := (GS.V (GS.mk mem pt cb cs part s sb sc)) }) part s sb sc) t = GS.wd (GS.mk mem pt cb cs part s sb sc) t := by unfold GS.wd; simp only [hm]
    rw [hz]
    show RInv _ t (upd pt t 3 t) (cb t) (upd cs t { cs t with n := 3, st := (GS.V (GS.mk mem pt cb cs part s sb sc)) } t) _
    rw [upd_same, upd_same]
    have iv := r.inv p0
    exact ⟨by omega, by omega, fun _ => r.cb p0, fun _ => rfl, fun _ => r.p2 p0, fun _ => r.p3 p0, fun _ => r.th p0, fun _ => ⟨by show (0 : Int) ≤ 3; decide, by show (3 : Int) ≤ 3; decide, fun h => absurd h (by show ¬ (3 : Int) = 0; decide), fun h => absurd rfl h⟩, fun _ => c0, fun _ => c1,
      fun h => absurd h (by decide), fun _ => r.w1 (by show 2 ≤ pt t; omega), fun _ => ⟨c1, Int.le_refl _⟩⟩
  · intro _
    show (upd cs t { cs t with n := 3, st := (GS.V (GS.mk mem pt cb cs part s sb sc)) } t).st = _
    rw [upd_same]


set_option maxRecDepth 100000 in
set_option maxHeartbeats 40000000 in
theorem reads0 {t : Nat} (ht : t < 7) (hp : pt t = 0) (W : GW w0 w g a b L (GS.mk mem pt cb cs part s sb sc)) (hI : GInv n (GS.mk mem pt cb cs part s sb sc)) :
    Calls Try.prog 67 #[.pointer (some ⟨g, 0, none⟩), .int .i64 t] w (RPost w0 g a b L n t (GS.mk mem pt cb cs part s sb sc)) := by
  obtain ⟨he, ho, hm, hx⟩ := com0 (s := mem) (c := (ComS.mk 0 0 0 1 0 0 t 0 0 0)) hI.len ht rfl rfl rfl
  have hi : (ComS.mk 0 0 0 1 0 0 t 0 0 0).Inv := ⟨(by decide : (0 : Int) ≤ 0), (by decide : (0 : Int) ≤ 3), fun _ => rfl, fun _ => rfl⟩
  have HI := fun k => Lib.hid (fin0 ht hp hI hm k)
  have He := Lib.hid he
  have Ho := Lib.hid ho
  have Hx := Lib.hid hx
  have HZ := Lib.hid hp
  clear he ho hm hx hI hp
  go_enter Try.func67, Try.ntmps67
  have f0 : w.cell? ⟨g, 0, none⟩ = some (.pointer (some ⟨a, 0, none⟩)) := cell_of_blk W.hg rfl
  go_wp2_with fail
  refine (open_c W.m).mono ?_; rintro e w1 ⟨rfl, M1, d1⟩
  have W1 := W.mem M1 d1
  clear W M1 d1 f0
  have f0 : w1.cell? ⟨g, 0, none⟩ = some (.pointer (some ⟨a, 0, none⟩)) := cell_of_blk W1.hg rfl
  have f1 : w1.cell? ⟨g, 1, none⟩ = some (.int .i64 0) := cell_of_blk W1.hg rfl
  have f2 : w1.cell? ⟨g, 2, none⟩ = some (.int .i64 0) := cell_of_blk W1.hg rfl
  have f3 : w1.cell? ⟨g, 3, none⟩ = some (.int .i64 0) := cell_of_blk W1.hg rfl
  have f4 : w1.cell? ⟨g, 4, none⟩ = some (.int .i64 1) := cell_of_blk W1.hg rfl
  have f5 : w1.cell? ⟨g, 5, none⟩ = some (.int .i64 0) := cell_of_blk W1.hg rfl
  have f6 : w1.cell? ⟨g, 6, none⟩ = some (.int .i64 0) := cell_of_blk W1.hg rfl
  have f7 : w1.cell? ⟨g, 7, none⟩ = some (.slice (some ⟨L, 0, none⟩) 7 7) := cell_of_blk W1.hg rfl
  have lp : w1.cell? ⟨L, t * 2, none⟩ = some (.int .i64 (pt t)) := cell_of_blk W1.hL (persons_pt _ _ t ht)
  have lc : w1.cell? ⟨L, t * 2 + 1, none⟩ = some (ptrO (cb t)) := cell_of_blk W1.hL (persons_cb _ _ t ht)
  rw [HZ.out] at lp
  go_wp2_with fail
  refine (come_e 0 0 0 1 0 0 t _).mono ?_; rintro e w2 ⟨k, rfl, K2, gk, A2⟩
  have W2 := W1.mod A2
  have hnew := W1.new gk
  have gk' := Nat.le_trans W1.fr.size gk
  clear f0 f1 f2 f3 f4 f5 f6 f7 lp lc gk A2 W1
  have lp : w2.cell? ⟨L, t * 2, none⟩ = some (.int .i64 (pt t)) := cell_of_blk W2.hL (persons_pt _ _ t ht)
  have lc : w2.cell? ⟨L, t * 2 + 1, none⟩ = some (ptrO (cb t)) := cell_of_blk W2.hL (persons_cb _ _ t ht)
  have fz := free_of_blk (i := t * 2 + 1) W2.hL
  go_upto_region 9 with fail
  have W3 : GW w0 (w2.setCell ⟨L, t * 2 + 1, none⟩ (.pointer (some ⟨k, 0, none⟩))) g a b L (GS.mk mem.opened pt (upd cb t (some k)) (upd cs t (ComS.mk 0 0 0 1 0 0 t 0 0 0)) part s sb sc) := W2.setCb ht K2 gk' hnew
  have hkb : upd cb t (some k) t = some k := upd_same _ _ _
  clear W2 K2 gk' hnew lp lc fz
  generalize w2.setCell ⟨L, t * 2 + 1, none⟩ (.pointer (some ⟨k, 0, none⟩)) = w3 at *
  have f0 : w3.cell? ⟨g, 0, none⟩ = some (.pointer (some ⟨a, 0, none⟩)) := cell_of_blk W3.hg rfl
  have lc : w3.cell? ⟨L, t * 2 + 1, none⟩ = some (.pointer (some ⟨k, 0, none⟩)) := (cell_of_blk W3.hL (persons_cb _ _ t ht)).trans (congrArg (fun o => some (ptrO o)) hkb)
  have HKB := Lib.hid hkb
  have KC : w3.heap[k]? = some (.cells (ComS.mk 0 0 0 1 0 0 t 0 0 0).arr 160 (0, 0)) := (W3.hc t ht k hkb).1.trans (congrArg (fun c => some (Obj.cells (ComS.arr c) 160 (0, 0))) (upd_same _ _ _))
  have HC := Lib.hid KC
  clear hkb KC
  go_upto_region 11 with fail
  go_cut [7, 8] (fun A C wx => A = .bool ((ComS.mk 0 0 0 1 0 0 t 0 0 0).over mem.opened) ∧ C = .int .i64 ((ComS.mk 0 0 0 1 0 0 t 0 0 0).err mem.opened) ∧ GW w0 wx g a b L (GS.mk ((ComS.mk 0 0 0 1 0 0 t 0 0 0).mem mem.opened) pt (upd cb t (some k)) (upd (upd cs t (ComS.mk 0 0 0 1 0 0 t 0 0 0)) t ((ComS.mk 0 0 0 1 0 0 t 0 0 0).next mem.opened)) part s sb sc))
  case first =>
    go_region_held3 (fun wx => wx.cell? ⟨g, 0, none⟩ = some (.pointer (some ⟨a, 0, none⟩)) ∧ wx.cell? ⟨L, t * 2 + 1, none⟩ = some (.pointer (some ⟨k, 0, none⟩))) (first | exact ⟨f0, lc⟩ | exact ⟨cell_of_blk W5.hg rfl, (cell_of_blk W5.hL (persons_cb _ _ t ht)).trans (congrArg (fun o => some (ptrO o)) HKB.out)⟩)
      (first | (go_at_call 57; refine (comStep_c W3.drew.m (ComS.mk 0 0 0 1 0 0 t 0 0 0) hi HC.out).mono ?_; rintro e w5 ⟨rfl, M5, K5, d5⟩; have W5 := W3.drew.com ht HKB.out M5 K5 d5))
    all_goals
      go_wp2_with fail
      go_meet
      exact ⟨rfl, rfl, W5⟩
  case rest =>
    obtain ⟨rfl, rfl, W6⟩ := hcut
    rw [He.out, Ho.out]
    rw [Hx.out] at W6
    clear f0 lc W3 He Ho Hx hi HC
    obtain ⟨w6, rfl⟩ : ∃ w6, w6 = wc := ⟨_, rfl⟩
    have lp : w6.cell? ⟨L, t * 2, none⟩ = some (.int .i64 (pt t)) := cell_of_blk W6.hL (persons_pt _ _ t ht)
    have lc : w6.cell? ⟨L, t * 2 + 1, none⟩ = some (ptrO ((upd cb t (some k)) t)) := cell_of_blk W6.hL (persons_cb _ _ t ht)
    rw [HZ.out] at lp
    rw [HKB.out] at lc
    have fz := free_of_blk (i := t * 2) W6.hL
    go_upto_region 13 with fail
    have W7 : GW w0 (w6.setCell ⟨L, t * 2, none⟩ (.int .i64 1)) g a b L (GS.mk ((ComS.mk 0 0 0 1 0 0 t 0 0 0).mem mem.opened) (upd pt t 1) (upd cb t (some k)) (upd (upd cs t (ComS.mk 0 0 0 1 0 0 t 0 0 0)) t (ComS.mk 0 0 0 1 0 0 t 1 (mem.ws.getD 0 0) 0)) part s sb sc) := W6.setPt ht 1
    clear W6 lp lc fz
    generalize w6.setCell ⟨L, t * 2, none⟩ (.int .i64 1) = w7 at *
    have lp : w7.cell? ⟨L, t * 2, none⟩ = some (.int .i64 1) := (cell_of_blk W7.hL (persons_pt _ _ t ht)).trans (congrArg (fun v => some (Value.int .i64 v)) (upd_same _ _ _))
    have lc : w7.cell? ⟨L, t * 2 + 1, none⟩ = some (.pointer (some ⟨k, 0, none⟩)) := (cell_of_blk W7.hL (persons_cb _ _ t ht)).trans (congrArg (fun o => some (ptrO o)) HKB.out)
    go_quiet (fail)
    go_wp2
    go_ret
    exact ⟨rfl, _, W7.mod ((Mod.refl _ _).drewN _), (HI k).out, rfl, rfl, fun _ => ⟨⟨k, upd_same _ _ _⟩, congrArg ComS.cl (upd_same _ _ _)⟩⟩

set_option maxRecDepth 100000 in
set_option maxHeartbeats 40000000 in
theorem reads1 {t : Nat} (ht : t < 7) (hp : pt t = 1) (W : GW w0 w g a b L (GS.mk mem pt cb cs part s sb sc)) (hI : GInv n (GS.mk mem pt cb cs part s sb sc)) (hn : n < 4611686018427387904) :
    Calls Try.prog 67 #[.pointer (some ⟨g, 0, none⟩), .int .i64 t] w (RPost w0 g a b L n t (GS.mk mem pt cb cs part s sb sc)) := by
  have p0 : 0 < ((GS.mk mem pt cb cs part s sb sc)).pt t := by show 0 < pt t; omega
  have r := hI.rd t ht
  obtain ⟨k, hk⟩ := r.cb p0
  have hk' : cb t = some k := hk
  have hi : (cs t).Inv := r.inv p0
  have hcn : (cs t).n = 1 := (r.n p0).trans hp
  obtain ⟨he, ho, hm, hx⟩ := com1 (s := mem) (c := cs t) hI.len ht hcn (r.p3 p0) (r.th p0)
  have HKB := Lib.hid hk'
  clear r hk hk' hcn p0
  have HI := Lib.hid (fin1 ht hp hI hn hm)
  have He := Lib.hid he
  have Ho := Lib.hid ho
  have Hx := Lib.hid hx
  have HZ := Lib.hid hp
  clear he ho hm hx hI hn hp
  go_enter Try.func67, Try.ntmps67
  have f0 : w.cell? ⟨g, 0, none⟩ = some (.pointer (some ⟨a, 0, none⟩)) := cell_of_blk W.hg rfl
  go_wp2_with fail
  refine (open_c W.m).mono ?_; rintro e w1 ⟨rfl, M1, d1⟩
  have W1 := W.mem M1 d1
  clear W M1 d1 f0
  have f0 : w1.cell? ⟨g, 0, none⟩ = some (.pointer (some ⟨a, 0, none⟩)) := cell_of_blk W1.hg rfl
  have f7 : w1.cell? ⟨g, 7, none⟩ = some (.slice (some ⟨L, 0, none⟩) 7 7) := cell_of_blk W1.hg rfl
  have lp : w1.cell? ⟨L, t * 2, none⟩ = some (.int .i64 (pt t)) := cell_of_blk W1.hL (persons_pt _ _ t ht)
  have lc : w1.cell? ⟨L, t * 2 + 1, none⟩ = some (ptrO (cb t)) := cell_of_blk W1.hL (persons_cb _ _ t ht)
  rw [HZ.out] at lp
  have lc : w1.cell? ⟨L, t * 2 + 1, none⟩ = some (.pointer (some ⟨k, 0, none⟩)) := lc.trans (congrArg (fun o => some (ptrO o)) HKB.out)
  have HC := Lib.hid (W1.hc t ht k HKB.out).1
  go_upto_region 11 with fail
  have W3 := W1
  clear W1 f7 lp
  obtain ⟨w3, rfl⟩ : ∃ w3, w3 = w1 := ⟨_, rfl⟩
  go_cut [7, 8] (fun A C wx => A = .bool ((cs t).over mem.opened) ∧ C = .int .i64 ((cs t).err mem.opened) ∧ GW w0 wx g a b L (GS.mk ((cs t).mem mem.opened) pt cb (upd cs t ((cs t).next mem.opened)) part s sb sc))
  case first =>
    go_region_held3 (fun wx => wx.cell? ⟨g, 0, none⟩ = some (.pointer (some ⟨a, 0, none⟩)) ∧ wx.cell? ⟨L, t * 2 + 1, none⟩ = some (.pointer (some ⟨k, 0, none⟩))) (first | exact ⟨f0, lc⟩ | exact ⟨cell_of_blk W5.hg rfl, (cell_of_blk W5.hL (persons_cb _ _ t ht)).trans (congrArg (fun o => some (ptrO o)) HKB.out)⟩)
      (first | (go_at_call 57; refine (comStep_c W3.drew.m (cs t) hi HC.out).mono ?_; rintro e w5 ⟨rfl, M5, K5, d5⟩; have W5 := W3.drew.com ht HKB.out M5 K5 d5))
    all_goals
      go_wp2_with fail
      go_meet
      exact ⟨rfl, rfl, W5⟩
  case rest =>
    obtain ⟨rfl, rfl, W6⟩ := hcut
    rw [He.out, Ho.out]
    rw [Hx.out] at W6
    clear f0 lc W3 He Ho Hx hi HC
    obtain ⟨w6, rfl⟩ : ∃ w6, w6 = wc := ⟨_, rfl⟩
    have lp : w6.cell? ⟨L, t * 2, none⟩ = some (.int .i64 (pt t)) := cell_of_blk W6.hL (persons_pt _ _ t ht)
    have lc : w6.cell? ⟨L, t * 2 + 1, none⟩ = some (ptrO (cb t)) := cell_of_blk W6.hL (persons_cb _ _ t ht)
    rw [HZ.out] at lp
    rw [HKB.out] at lc
    have fz := free_of_blk (i := t * 2) W6.hL
    go_upto_region 13 with fail
    have W7 : GW w0 (w6.setCell ⟨L, t * 2, none⟩ (.int .i64 2)) g a b L (GS.mk ((cs t).mem mem.opened) (upd pt t 2) cb (upd cs t { cs t with n := 2 }) part s sb sc) := W6.setPt ht 2
    clear W6 lp lc fz
    generalize w6.setCell ⟨L, t * 2, none⟩ (.int .i64 2) = w7 at *
    have lp : w7.cell? ⟨L, t * 2, none⟩ = some (.int .i64 2) := (cell_of_blk W7.hL (persons_pt _ _ t ht)).trans (congrArg (fun v => some (Value.int .i64 v)) (upd_same _ _ _))
    have lc : w7.cell? ⟨L, t * 2 + 1, none⟩ = some (.pointer (some ⟨k, 0, none⟩)) := (cell_of_blk W7.hL (persons_cb _ _ t ht)).trans (congrArg (fun o => some (ptrO o)) HKB.out)
    go_quiet (fail)
    go_wp2
    go_ret
    exact ⟨rfl, _, W7.mod ((Mod.refl _ _).drewN _), HI.out, rfl, rfl, fun h => absurd (h.symm.trans HZ.out) (by decide)⟩

set_option maxRecDepth 100000 in
set_option maxHeartbeats 40000000 in
theorem reads2 {t : Nat} (ht : t < 7) (hp : pt t = 2) (W : GW w0 w g a b L (GS.mk mem pt cb cs part s sb sc)) (hI : GInv n (GS.mk mem pt cb cs part s sb sc)) :
    Calls Try.prog 67 #[.pointer (some ⟨g, 0, none⟩), .int .i64 t] w (RPost w0 g a b L n t (GS.mk mem pt cb cs part s sb sc)) := by
  have p0 : 0 < ((GS.mk mem pt cb cs part s sb sc)).pt t := by show 0 < pt t; omega
  have r := hI.rd t ht
  obtain ⟨k, hk⟩ := r.cb p0
  have hk' : cb t = some k := hk
  have hi : (cs t).Inv := r.inv p0
  have hcn : (cs t).n = 2 := (r.n p0).trans hp
  obtain ⟨he, ho, hm, hx⟩ := com2 (s := mem) (c := cs t) hI.len ht hcn (r.p2 p0) (r.th p0)
  have hle : decide ((cs t).cl ≤ mem.ws.getD 0 0) = true := decide_eq_true (r.c1 p0)
  have HLE := Lib.hid hle
  clear hle
  have HKB := Lib.hid hk'
  clear r hk hk' hcn p0
  have HI := Lib.hid (fin2 ht hp hI hm)
  have He := Lib.hid he
  have Ho := Lib.hid ho
  have Hx := Lib.hid hx
  have HZ := Lib.hid hp
  clear he ho hm hx hI hp
  go_enter Try.func67, Try.ntmps67
  have f0 : w.cell? ⟨g, 0, none⟩ = some (.pointer (some ⟨a, 0, none⟩)) := cell_of_blk W.hg rfl
  go_wp2_with fail
  refine (open_c W.m).mono ?_; rintro e w1 ⟨rfl, M1, d1⟩
  have W1 := W.mem M1 d1
  clear W M1 d1 f0
  have f0 : w1.cell? ⟨g, 0, none⟩ = some (.pointer (some ⟨a, 0, none⟩)) := cell_of_blk W1.hg rfl
  have f7 : w1.cell? ⟨g, 7, none⟩ = some (.slice (some ⟨L, 0, none⟩) 7 7) := cell_of_blk W1.hg rfl
  have lp : w1.cell? ⟨L, t * 2, none⟩ = some (.int .i64 (pt t)) := cell_of_blk W1.hL (persons_pt _ _ t ht)
  have lc : w1.cell? ⟨L, t * 2 + 1, none⟩ = some (ptrO (cb t)) := cell_of_blk W1.hL (persons_cb _ _ t ht)
  rw [HZ.out] at lp
  have lc : w1.cell? ⟨L, t * 2 + 1, none⟩ = some (.pointer (some ⟨k, 0, none⟩)) := lc.trans (congrArg (fun o => some (ptrO o)) HKB.out)
  have HC := Lib.hid (W1.hc t ht k HKB.out).1
  go_upto_region 11 with fail
  have W3 := W1
  clear W1 f7 lp
  obtain ⟨w3, rfl⟩ : ∃ w3, w3 = w1 := ⟨_, rfl⟩
  go_cut [7, 8] (fun A C wx => A = .bool ((cs t).over mem.opened) ∧ C = .int .i64 ((cs t).err mem.opened) ∧ GW w0 wx g a b L (GS.mk ((cs t).mem mem.opened) pt cb (upd cs t ((cs t).next mem.opened)) part s sb sc))
  case first =>
    go_region_held3 (fun wx => wx.cell? ⟨g, 0, none⟩ = some (.pointer (some ⟨a, 0, none⟩)) ∧ wx.cell? ⟨L, t * 2 + 1, none⟩ = some (.pointer (some ⟨k, 0, none⟩))) (first | exact ⟨f0, lc⟩ | exact ⟨cell_of_blk W5.hg rfl, (cell_of_blk W5.hL (persons_cb _ _ t ht)).trans (congrArg (fun o => some (ptrO o)) HKB.out)⟩)
      (first | (go_at_call 57; refine (comStep_c W3.drew.m (cs t) hi HC.out).mono ?_; rintro e w5 ⟨rfl, M5, K5, d5⟩; have W5 := W3.drew.com ht HKB.out M5 K5 d5))
    all_goals
      go_wp2_with fail
      go_meet
      exact ⟨rfl, rfl, W5⟩
  case rest =>
    obtain ⟨rfl, rfl, W6⟩ := hcut
    rw [He.out, Ho.out]
    rw [Hx.out] at W6
    clear f0 lc W3 He Ho Hx hi HC
    obtain ⟨w6, rfl⟩ : ∃ w6, w6 = wc := ⟨_, rfl⟩
    have lp : w6.cell? ⟨L, t * 2, none⟩ = some (.int .i64 (pt t)) := cell_of_blk W6.hL (persons_pt _ _ t ht)
    have lc : w6.cell? ⟨L, t * 2 + 1, none⟩ = some (ptrO (cb t)) := cell_of_blk W6.hL (persons_cb _ _ t ht)
    rw [HZ.out] at lp
    rw [HKB.out] at lc
    have fz := free_of_blk (i := t * 2) W6.hL
    go_upto_region 13 with fail
    have W7 : GW w0 (w6.setCell ⟨L, t * 2, none⟩ (.int .i64 3)) g a b L (GS.mk ((cs t).mem mem.opened) (upd pt t 3) cb (upd cs t { cs t with n := 3, st := mem.ws.getD 0 0 }) part s sb sc) := W6.setPt ht 3
    clear W6 lp lc fz
    generalize w6.setCell ⟨L, t * 2, none⟩ (.int .i64 3) = w7 at *
    have lp : w7.cell? ⟨L, t * 2, none⟩ = some (.int .i64 3) := (cell_of_blk W7.hL (persons_pt _ _ t ht)).trans (congrArg (fun v => some (Value.int .i64 v)) (upd_same _ _ _))
    have lc : w7.cell? ⟨L, t * 2 + 1, none⟩ = some (.pointer (some ⟨k, 0, none⟩)) := (cell_of_blk W7.hL (persons_cb _ _ t ht)).trans (congrArg (fun o => some (ptrO o)) HKB.out)
    have KC : w7.heap[k]? = some (.cells ({ cs t with n := 3, st := mem.ws.getD 0 0 } : ComS).arr 160 (0, 0)) := (W7.hc t ht k HKB.out).1.trans (congrArg (fun c => some (Obj.cells (ComS.arr c) 160 (0, 0))) (upd_same _ _ _))
    have hle := HLE.out
    go_quiet (first | (go_at_call 64; exact Calls.quiet_of_same (claim_c _ KC)) | (go_at_call 68; exact Calls.quiet_of_same (cstamp_c _ KC)))
    go_wp2
    go_ret
    exact ⟨congrArg (fun b => Ending.returned (Value.bool b)) (show decide ((cs t).cl ≤ mem.ws[0]?.getD 0) = true by simpa using HLE.out), _, W7.mod ((Mod.refl _ _).drewN _), HI.out, rfl, rfl, fun h => absurd (h.symm.trans HZ.out) (by decide)⟩

theorem reads67 {G : GS} {t : Nat} (ht : t < 7) (W : GW w0 w g a b L G) (hI : GInv n G) (hn : n < 4611686018427387904) : Calls Try.prog 67 #[.pointer (some ⟨g, 0, none⟩), .int .i64 t] w (RPost w0 g a b L n t G) := by
  obtain ⟨mem, pt, cb, cs, part, s, sb, sc⟩ := G
  have h0 : 0 ≤ pt t := (hI.rd t ht).lo
  have h3 : pt t ≤ 3 := (hI.rd t ht).hi
  have hp : pt t = 0 ∨ pt t = 1 ∨ pt t = 2 ∨ pt t = 3 := by omega
  rcases hp with hp | hp | hp | hp
  · exact reads0 ht hp W hI
  · exact reads1 ht hp W hI hn
  · exact reads2 ht hp W hI
  · exact reads3 ht hp W hI

end Go.Proofs.Ytobmgnoceacoaaa

/- TicketTurns: the walk. -/
import Derived.Test.YtobmgnoceacoaaaTurnO
import Derived.Test.YtobmgnoceacoaaaLive12
import Derived.Test.YtobmgnoceacoaaaList
import Derived.Test.YtobmgnoceacoaaaNums
import Derived.Deep.RegionWith
import Derived.Deep.QuietTactic
import Derived.BigQuiet
import Derived.Deep.DeepCutAuto
import Derived.Deep.CutBlock
import Derived.Deep.RegionHeld3
import Derived.Laws.OwnMore
import Derived.IntWalk
namespace Go.Proofs.Ytobmgnoceacoaaa
open Go.RowKit
variable {w0 w w' : World} {a b L n t : Nat} {s : MemS} {ws : List Int} {pt : Nat → Int} {tk : Nat → Nat} {drew : List Nat} {sg sv : Nat}

theorem cell_new1 (w : World) (x : Value) (t : TypeId) : ∀ j u, [x][j]? = some u → (w.alloc (.cells #[x] t)).cell? ((⟨w.heap.size, 0, none⟩ : Addr).add j) = some u := by
  intro j u hj
  match j, hj with
  | 0, hj => simp at hj; subst hj; simp [Addr.add]
theorem owns_mod {S : List Nat} {base e : Nat} {v : Value} {m : Nat} {xs : List Value} (h : w.ownsRow base e 1 v m xs) (d : Mod S w w') (hs : ∀ x ∈ S, x < base) : w'.ownsRow base e 1 v m xs := by
  refine ⟨h.1, ?_⟩
  rcases h.2 with h0 | ⟨g, cap, cur, hv, hb, hg, h1, h2, h3, h4⟩
  · exact .inl h0
  · exact .inr ⟨g, cap, cur, hv, hb, d.at hg (fun hm => by have := hs g hm; omega), h1, h2, h3, h4⟩

/-- The law's world at the head of a round. -/
structure LW (w0 w : World) (a b L pb base : Nat) (v : Value) (n : Nat) (s : MemS) (pt : Nat → Int) (tk : Nat → Nat) (drew : List Nat) (sg sv : Nat) : Prop where
  m : MemAt 142 w a b s
  hL : w.heap[L]? = some (.cells (turners pt tk) 69 (0, 0))
  hP : w.heap[pb]? = some (.cells #[.int .i64 0, .int .i64 1, .int .i64 0, .int .i64 0, .int .i64 0, .int .i64 0] 35 (0, 0))
  own : w.ownsRow base 3 1 v drew.length (drew.map (fun x : Nat => Value.int .i64 (x : Int)))
  inv : TInv n s.ws pt tk drew sg sv
  lt : a < base ∧ b < base ∧ L < base ∧ pb < base ∧ base ≤ w.heap.size
  ge : w0.heap.size ≤ a ∧ w0.heap.size ≤ b ∧ w0.heap.size ≤ L ∧ w0.heap.size ≤ base
  fr : Mod [] w0 w
theorem LW.one {pb base : Nat} {v : Value} {s' : MemS} {pt' : Nat → Int} {tk' : Nat → Nat} {n' sg' sv' : Nat} {dr : List Nat} (m : MemAt 142 w a b s) (hP : w.heap[pb]? = some (.cells #[.int .i64 0, .int .i64 1, .int .i64 0, .int .i64 0, .int .i64 0, .int .i64 0] 35 (0, 0))) (own : w.ownsRow base 3 1 v dr.length (dr.map (fun x : Nat => Value.int .i64 (x : Int))))
    (lt : a < base ∧ b < base ∧ L < base ∧ pb < base ∧ base ≤ w.heap.size) (ge : w0.heap.size ≤ a ∧ w0.heap.size ≤ b ∧ w0.heap.size ≤ L ∧ w0.heap.size ≤ base) (fr : Mod [] w0 w) (hL0 : w.heap[L]? = some (.cells (turners pt tk) 69 (0, 0)))
    (m' : MemAt 142 w' a b s') (hL : w'.heap[L]? = some (.cells (turners pt' tk') 69 (0, 0))) (d : Mod [a, b, L] w w') (inv : TInv n' s'.ws pt' tk' dr sg' sv') : LW w0 w' a b L pb base v n' s' pt' tk' dr sg' sv' := by
  have h1 : pb ≠ a := blk_ne hP m.hd (by decide)
  have h2 : pb ≠ b := blk_ne hP m.ws (by decide)
  have h3 : pb ≠ L := blk_ne hP hL0 (by decide)
  have hs := d.size
  exact ⟨m', hL, d.at hP (by simp [h1, h2, h3]), owns_mod own d (by simp; omega), inv, by omega, ge, fr.then d (by simp; omega)⟩

set_option maxRecDepth 100000 in
set_option maxHeartbeats 40000000 in
theorem ticketTurns_walk (a0 : Option Addr) (len cap : Nat) (zs : List Int) (w : World) (hS : Nums w .u8 a0 len zs) (hlen : len ≤ 1048576) :
    Calls Try.prog 11 #[.slice a0 len cap] w fun e w' => e = .returned (.bool true) ∧ Mod [] w w' := by
  have hmk : ∀ w : World, (Instr.makeSlice 67 (.int .i64 8) (.int .i64 8)).run Try.prog w = .ok (.slice (some ⟨w.heap.size, 0, none⟩) 8 8) (w.alloc (.cells #[.int .i64 0, .int .u64 0, .int .i64 0, .int .u64 0, .int .i64 0, .int .u64 0, .int .i64 0, .int .u64 0, .int .i64 0, .int .u64 0, .int .i64 0, .int .u64 0, .int .i64 0, .int .u64 0, .int .i64 0, .int .u64 0] 69)) := fun _ => by kernel_rfl
  go_enter Try.func11, Try.ntmps11
  go_wp2_with fail
  refine (live12 _).mono ?_; rintro e w1 ⟨rfl, d1⟩
  go_wp2_with fail
  refine (two12 _).mono ?_; rintro e w2 ⟨a, b, rfl, M2, ha, hb, d2⟩
  have hwz : (MemS.fresh 2).ws = [0, 0] := by decide +kernel
  have Hwz := Lib.hid hwz
  clear hwz
  generalize MemS.fresh 2 = s0 at *
  have hsz := d1.size
  have hal := M2.lta
  have hbl := M2.ltb
  have hs2 := d2.size
  go_upto_region 7 with fail
  have W0 : LW w ((w2.alloc (.cells #[.int .i64 0, .int .i64 1, .int .i64 0, .int .i64 0, .int .i64 0, .int .i64 0] 35)).alloc (.cells #[.int .i64 0, .int .u64 0, .int .i64 0, .int .u64 0, .int .i64 0, .int .u64 0, .int .i64 0, .int .u64 0, .int .i64 0, .int .u64 0, .int .i64 0, .int .u64 0, .int .i64 0, .int .u64 0, .int .i64 0, .int .u64 0] 69)) a b (w2.heap.size + 1) w2.heap.size (w2.heap.size + 2) (.slice none 0 0) 0 s0 (fun _ => 0) (fun _ => 0) [] 0 0 :=
    ⟨(M2.alloc _).alloc _, by have h := heap_alloc_new (w2.alloc (.cells #[.int .i64 0, .int .i64 1, .int .i64 0, .int .i64 0, .int .i64 0, .int .i64 0] 35)) (.cells #[.int .i64 0, .int .u64 0, .int .i64 0, .int .u64 0, .int .i64 0, .int .u64 0, .int .i64 0, .int .u64 0, .int .i64 0, .int .u64 0, .int .i64 0, .int .u64 0, .int .i64 0, .int .u64 0, .int .i64 0, .int .u64 0] 69); rw [World.size_alloc] at h; exact h, blk_alloc_old _ (heap_alloc_new _ _), ⟨rfl, .inl ⟨rfl, rfl⟩⟩, by rw [Hwz.out]; exact TInv.zero, by simp; omega, by omega, ((d1.trans d2).alloc _).alloc _⟩
  clear d1 d2 M2 hmk Hwz ha hb hsz hal hbl hs2
  generalize (w2.alloc (.cells #[.int .i64 0, .int .i64 1, .int .i64 0, .int .i64 0, .int .i64 0, .int .i64 0] 35)).alloc (.cells #[.int .i64 0, .int .u64 0, .int .i64 0, .int .u64 0, .int .i64 0, .int .u64 0, .int .i64 0, .int .u64 0, .int .i64 0, .int .u64 0, .int .i64 0, .int .u64 0, .int .i64 0, .int .u64 0, .int .i64 0, .int .u64 0] 69) = w3 at *
  generalize w2.heap.size + 2 = base at *
  generalize w2.heap.size + 1 = L at *
  generalize w2.heap.size = pb at *
  go_wp2_with fail
  go_loopw [7, 8, 24] (fun v sv i wr => ∃ (j sv' sg : Nat) (s : MemS) (pt : Nat → Int) (tk : Nat → Nat) (drew : List Nat), j ≤ len ∧ i = .int .i64 j ∧ sv = .int .i64 sv' ∧ LW w wr a b L pb base v j s pt tk drew sg sv') (fun _ _ i _ => len - (intOf i).toNat)
  case atStart => exact ⟨0, 0, 0, s0, _, _, [], Nat.zero_le _, rfl, rfl, W0⟩
  case round =>
    clear W0
    obtain ⟨j, sv, sg, s, pt, tk, drew, hj, rfl, rfl, W⟩ := hrel
    by_cases hlt : j < len
    · obtain ⟨bz, off, z, rfl, -, z0, z1, hcell⟩ := hS.get hlt
      have cz := hcell wr W.fr
      have z0' : 0 ≤ z := z0
      have z1' : z ≤ 255 := z1
      clear hcell z0 z1
      obtain ⟨t, ht, ht8⟩ : ∃ t : Nat, z % 8 = t ∧ t < 8 := ⟨(z % 8).toNat, by omega, by omega⟩
      have lp : wr.cell? ⟨L, t * 2, none⟩ = some (.int .i64 (pt t)) := cell_of_blk W.hL (turners_pt _ _ t ht8)
      have hdl : drew.length ≤ 1048576 := by have := W.inv.hn; omega
      have hWl := W.lt
      obtain ⟨i0, hi0, hz0, hz1, hz2⟩ := info_parts info3
      rcases W.inv.hpt t ht8 with hp | hp | hp
      all_goals
        first
          | (have _hq : pt t = 0 := hp; clear _hq
             rw [hp] at lp
             have HP := Lib.hid hp
             have own := W.own
             have inv := Lib.hid W.inv
             have W' := Lib.hid W
             clear hp W
             go_wp2_with (at_builtin; refine wp_append rfl _ _ 44 rfl base 3 i0 (.int .i64 0) Try.underlying44 hi0 hz0 hz1 hz2 rfl _ _ _ rfl (own.alloc _) ⟨wr.heap.size, 0, none⟩ 1 1 [.int .i64 (t : Int)] rfl rfl ?c1 ?c2 ?c3 ?c4 ?_)
             case c1 => exact cell_new1 _ _ _
             case c2 => intro u hu; simp at hu; subst hu; rfl
             case c3 => omega
             case c4 => simp; omega
             intro v' w3' hap
             have own' := hap.owns
             rw [show (drew.map (fun x : Nat => Value.int .i64 (x : Int))) ++ [.int .i64 (t : Int)] = (drew ++ [t]).map (fun x : Nat => Value.int .i64 (x : Int)) by simp, show drew.length + 1 = (drew ++ [t]).length by simp] at own'
             have kp : ∀ k, k < base → w3'.heap[k]? = wr.heap[k]? := fun k hk => hap.keep own hk (by omega)
             have sz3 := hap.grown.size
             simp only [World.size_alloc] at sz3
             have W := W'.out
             have M3 : MemAt 142 w3' a b s := ⟨(kp a hWl.1).trans W.m.hd, (kp b hWl.2.1).trans W.m.ws, W.m.ne, W.m.len⟩
             have L3 := (kp L hWl.2.2.1).trans W.hL
             have P3 := (kp pb hWl.2.2.2.1).trans W.hP
             have D3 : Mod [] w w3' := W.fr.appended _ own W.ge.2.2.2 hap
             have hge := W.ge
             clear hap kp own W W' lp cz
             have H' := Lib.hid own'
             clear own'
             have q0 : w3'.cell? ⟨pb, 0, none⟩ = some (.int .i64 0) := cell_of_blk P3 rfl
             have q1 : w3'.cell? ⟨pb, 1, none⟩ = some (.int .i64 1) := cell_of_blk P3 rfl
             have q2 : w3'.cell? ⟨pb, 2, none⟩ = some (.int .i64 0) := cell_of_blk P3 rfl
             have q3 : w3'.cell? ⟨pb, 3, none⟩ = some (.int .i64 0) := cell_of_blk P3 rfl
             have q4 : w3'.cell? ⟨pb, 4, none⟩ = some (.int .i64 0) := cell_of_blk P3 rfl
             have q5 : w3'.cell? ⟨pb, 5, none⟩ = some (.int .i64 0) := cell_of_blk P3 rfl
             go_wp2_with fail
             refine (one_draw ht8 M3 L3 inv.out.hws HP.out (by omega)).mono ?_; rintro e w4 ⟨rfl, s', M4, hw4, L4, d4⟩
             have W4 := LW.one M3 P3 H'.out (by omega) hge D3 L3 M4 L4 d4 (inv.out.draw ht8 HP.out hw4)
             obtain ⟨s4, pt4, tk4, drew4, sg4, W5⟩ : ∃ s4 pt4 tk4 drew4 sg4, LW w w4 a b L pb base v' (j + 1) s4 pt4 tk4 drew4 sg4 sv := ⟨_, _, _, _, _, W4⟩
             clear q0 q1 q2 q3 q4 q5 M3 L3 P3 D3 M4 hw4 L4 d4 W4 H' inv HP hge
             go_upto_region 22 with fail)
          | (have _hq : pt t = 1 := hp; clear _hq
             rw [hp] at lp
             have hp0 : pt t ≠ 0 := by rw [hp]; decide
             have hA := W.inv.aheadOf ht8 hp0
             have hsl := (W.inv.held t ht8 hp0).1
             have htl := W.inv.lt ht8 hp0
             have q0 : wr.cell? ⟨pb, 0, none⟩ = some (.int .i64 0) := cell_of_blk W.hP rfl
             have q1 : wr.cell? ⟨pb, 1, none⟩ = some (.int .i64 1) := cell_of_blk W.hP rfl
             have q2 : wr.cell? ⟨pb, 2, none⟩ = some (.int .i64 0) := cell_of_blk W.hP rfl
             have q3 : wr.cell? ⟨pb, 3, none⟩ = some (.int .i64 0) := cell_of_blk W.hP rfl
             have q4 : wr.cell? ⟨pb, 4, none⟩ = some (.int .i64 0) := cell_of_blk W.hP rfl
             have q5 : wr.cell? ⟨pb, 5, none⟩ = some (.int .i64 0) := cell_of_blk W.hP rfl
             by_cases hT : tk t = sg
             all_goals
               first
                 | (have _hq : tk t = sg := hT; clear _hq
                    have HT := Lib.hid hT
                    have HA := Lib.hid hA
                    have HP := Lib.hid hp
                    clear hT hA hp hp0
                    go_wp2_with fail
                    refine (one_told ht8 W.m W.hL W.inv.hws HP.out W.inv.hpt HA.out HT.out).mono ?_; rintro e w4 ⟨rfl, s', M4, hw4, L4, d4⟩
                    obtain ⟨hd, hsl2, inv4⟩ := W.inv.told ht8 HP.out HT.out
                    rw [← hw4] at inv4
                    have W4 := LW.one W.m W.hP W.own W.lt W.ge W.fr W.hL M4 L4 d4 (inv4.mono (Nat.le_succ j))
                    obtain ⟨g, vcap, rfl, hg⟩ := owns_form W.own (by omega)
                    have cg : w4.cell? ⟨g, sv, none⟩ = some (.int .i64 (t : Int)) := (W4.own.cellAt sv (by omega)).trans (by rw [List.getElem?_map, hd]; rfl)
                    clear q0 q1 q2 q3 q4 q5 M4 hw4 L4 d4 hd inv4 W HT HA HP lp cz
                    obtain ⟨s4, pt4, tk4, sg4, W5⟩ : ∃ s4 pt4 tk4 sg4, LW w w4 a b L pb base (.slice (some ⟨g, 0, none⟩) drew.length vcap) (j + 1) s4 pt4 tk4 drew sg4 (sv + 1) := ⟨_, _, _, _, W4⟩
                    clear W4
                    go_upto_region 22 with fail)
                 | (have _hq : ¬ tk t = sg := hT; clear _hq
                    have hT' : sg < tk t := by omega
                    have HT := Lib.hid hT'
                    have HA := Lib.hid hA
                    have HP := Lib.hid hp
                    clear hT hT' hA hp hp0
                    go_wp2_with fail
                    refine (one_wait ht8 W.m W.hL W.inv.hws HP.out W.inv.hpt HA.out HT.out (by omega)).mono ?_; rintro e w4 ⟨rfl, s', M4, hw4, L4, d4⟩
                    have inv4 := W.inv
                    rw [← hw4] at inv4
                    have W4 := LW.one W.m W.hP W.own W.lt W.ge W.fr W.hL M4 L4 d4 (inv4.mono (Nat.le_succ j))
                    clear q0 q1 q2 q3 q4 q5 M4 hw4 L4 d4 inv4 W HT HA HP lp cz
                    obtain ⟨s4, pt4, tk4, drew4, sg4, W5⟩ : ∃ s4 pt4 tk4 drew4 sg4, LW w w4 a b L pb base u7 (j + 1) s4 pt4 tk4 drew4 sg4 sv := ⟨_, _, _, _, _, W4⟩
                    clear W4
                    go_upto_region 22 with fail))
          | (have _hq : pt t = 2 := hp; clear _hq
             rw [hp] at lp
             have hT := W.inv.inn t ht8 hp
             have hsg := W.inv.le
             have q0 : wr.cell? ⟨pb, 0, none⟩ = some (.int .i64 0) := cell_of_blk W.hP rfl
             have q1 : wr.cell? ⟨pb, 1, none⟩ = some (.int .i64 1) := cell_of_blk W.hP rfl
             have q2 : wr.cell? ⟨pb, 2, none⟩ = some (.int .i64 0) := cell_of_blk W.hP rfl
             have q3 : wr.cell? ⟨pb, 3, none⟩ = some (.int .i64 0) := cell_of_blk W.hP rfl
             have q4 : wr.cell? ⟨pb, 4, none⟩ = some (.int .i64 0) := cell_of_blk W.hP rfl
             have q5 : wr.cell? ⟨pb, 5, none⟩ = some (.int .i64 0) := cell_of_blk W.hP rfl
             have HT := Lib.hid hT
             have HP := Lib.hid hp
             clear hT hp
             go_wp2_with fail
             refine (one_pass ht8 W.m W.hL W.inv.hws HP.out HT.out (by omega)).mono ?_; rintro e w4 ⟨rfl, s', M4, hw4, L4, d4⟩
             have W4 := LW.one W.m W.hP W.own W.lt W.ge W.fr W.hL M4 L4 d4 ((W.inv.pass ht8 HP.out hw4).2.mono (Nat.le_succ j))
             clear q0 q1 q2 q3 q4 q5 M4 hw4 L4 d4 W HT HP lp cz
             obtain ⟨s4, pt4, tk4, drew4, sg4, W5⟩ : ∃ s4 pt4 tk4 drew4 sg4, LW w w4 a b L pb base u7 (j + 1) s4 pt4 tk4 drew4 sg4 sv := ⟨_, _, _, _, _, W4⟩
             clear W4
             go_upto_region 22 with fail)
      all_goals
        have hin := W5.inv.inside8
        have HPT := Lib.hid W5.inv.hpt
        go_wp2_with fail
        go_loop [14, 15] (fun k v => ∃ i : Nat, i ≤ 8 ∧ k = .int .i64 (inside pt4 i) ∧ v = .int .i64 i) (fun _ v => 8 - (intOf v).toNat)
        case atStart => exact ⟨0, by omega, rfl, rfl⟩
        case round =>
          obtain ⟨i, hi, rfl, rfl⟩ := hrel
          by_cases hi8 : i < 8
          · have li : w4.cell? ⟨L, i * 2, none⟩ = some (.int .i64 (pt4 i)) := cell_of_blk W5.hL (turners_pt _ _ i hi8)
            have hle := inside_le (pt := pt4) i
            by_cases h2 : pt4 i = 2
            · have hx : Hid (inside pt4 (i + 1) = inside pt4 i + 1) := Lib.hid (by rw [inside, if_pos h2])
              rw [h2] at li
              clear h2
              go_wp2
              go_round
              case rel => exact ⟨i + 1, by omega, by rw [hx.out]; go_num, by go_num⟩
              case measure => simp [intOf]; omega
            · have hx : Hid (inside pt4 (i + 1) = inside pt4 i) := Lib.hid (by rw [inside, if_neg h2]; rfl)
              have hn2 : (pt4 i == 2) = false := by simpa using h2
              have hn2' : decide (pt4 i = 2) = false := by simpa using h2
              clear h2
              go_wp2
              go_round
              case rel => exact ⟨i + 1, by omega, by rw [hx.out], by go_num⟩
              case measure => simp [intOf]; omega
          · obtain rfl : i = 8 := by omega
            go_wp2
            go_roundw
            case rel => exact ⟨j + 1, _, _, _, _, _, _, by omega, by go_num, by first | rfl | go_num, W5⟩
            case measure => simp [intOf]; omega
    · have D := W.fr
      clear W
      go_wp2
      go_ret
      exact ⟨rfl, D⟩

end Go.Proofs.Ytobmgnoceacoaaa

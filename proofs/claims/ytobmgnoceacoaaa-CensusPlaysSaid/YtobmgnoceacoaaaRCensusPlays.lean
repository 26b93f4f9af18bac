/- CensusPlays: the law answers true for every input, and leaves its arguments as they were. No condition. -/
import Derived.Test.YtobmgnoceacoaaaCensusPlaysW
import Derived.Test.YtobmgnoceacoaaaOpen
import Derived.Test.YtobmgnoceacoaaaFA
import Derived.Test.YtobmgnoceacoaaaFB
import Derived.Test.YtobmgnoceacoaaaFC
import Derived.Test.YtobmgnoceacoaaaFD
import Derived.ProofKit
import Derived.OpenShut
import Derived.ShutString
import Derived.ChangeOld
import Derived.Lib.SmallJoins
namespace Go.Proofs.Ytobmgnoceacoaaa.censusPlays
open Go.ChangeShapes Go.WideShapes Go.ChangeAt Go.RowKit Go.Joins

theorem cells3 : Try.prog.cellsOf 3 = 1 := by kernel_rfl
theorem cells28 : Try.prog.cellsOf 28 = 1 := by kernel_rfl
theorem bytes103 : 0 < Try.prog.bytesOf 103 := of_decide_eq_true (by kernel_rfl)
theorem cells103 : Try.prog.cellsOf 103 = 5 := by kernel_rfl
theorem fields103 : IntFields Try.prog 103 [.i64, .i64, .i64, .i64, .u64] := by
  refine ⟨_, Try.underlying103, cells103, rfl, fun i k h => ?_⟩
  match i, h with
  | 0, h => cases h; exact ⟨_, rfl, rfl, Try.underlying3, cells3⟩
  | 1, h => cases h; exact ⟨_, rfl, rfl, Try.underlying3, cells3⟩
  | 2, h => cases h; exact ⟨_, rfl, rfl, Try.underlying3, cells3⟩
  | 3, h => cases h; exact ⟨_, rfl, rfl, Try.underlying3, cells3⟩
  | 4, h => cases h; exact ⟨_, rfl, rfl, Try.underlying28, cells28⟩

set_option maxRecDepth 100000 in
theorem lifted (os : Os) (started : os.Started) (H : Type) (enc : TypeId × Value → H) :
    ReturnsInHanded {} Try.checked os 17 .any (Rows.censusPlaysSpec.pre6 enc Try.prog Try.f17 Rows.censusPlaysRow.domain false) (Rows.censusPlaysSpec.post enc Try.prog Try.f17 false true false false) := by
  refine returnsInHanded_of_change_sized (C := Try.checked) fact_own started (by kernel_rfl) Try.func17
    (ChangeSpec.witness6 (enc := enc) (C := Try.checked) false ⟨#[], #[.int .i64 0, .slice none 0 0], []⟩ 8 (by kernel_rfl) (by kernel_rfl) (by kernel_rfl) (by kernel_rfl)) ?_
  intro W base args ds gs before hval0 hW hcnd hsz0 _
  have hval : ∀ (j : Nat) t v, Try.f17.params[j]? = some t → args[j]? = some v → Value.okWide Try.prog W .any base t v := hval0
  have hW' := hW
  obtain ⟨p, q, hA0, hV, rfl, hfz, hnd⟩ := hW
  have hA : DataW.TrodAll enc Try.prog W 0 (fun _ => true) true Try.f17.params.toList args.toList ds p := hA0
  have hsz : (DataW.weightsEach Try.prog (Try.f17.params.toList ++ Rows.censusPlaysSpec.plain.varTypes Try.prog) (ds ++ gs)).all (· ≤ reachBytes) = true := hsz0
  clear hsz0
  rw [Try.params17] at hA hval hsz
  obtain ⟨v0, vs0, d0, ds0, p0, q0, hargs, rfl, rfl, h0, r0⟩ := trodAll_cons hA
  obtain ⟨v1, vs1, d1, ds1, p1, q1, rfl, rfl, rfl, h1, r1⟩ := trodAll_cons r0
  obtain ⟨rfl, rfl, rfl⟩ := trodAll_nil r1
  obtain rfl : args = #[v0, v1] := by cases args; simp_all
  obtain ⟨rfl, rfl⟩ := trodVars_none hV
  have k0 := h0
  have lt0 : ∀ x ∈ p0, x.block < W.heap.size := by obtain ⟨m, hm⟩ := k0; exact DataW.trod_lt m _ _ _ hm
  have k1 := h1
  have lt1 : ∀ x ∈ p1, x.block < W.heap.size := by obtain ⟨m, hm⟩ := k1; exact DataW.trod_lt m _ _ _ hm
  obtain ⟨n, rfl, rfl, rfl, wn⟩ := open_int Try.underlying3 (hval 0 3 v0 rfl rfl) h0
  obtain ⟨a1, len1, cap1, ops1, rfl, hS1, hb1⟩ := open_script (j := 1) Try.underlying94 fields103 (by decide) bytes103 (hval 1 94 v1 rfl rfl) h1 hsz rfl rfl
  clear hA0 hval0
  refine (censusPlays_walk n a1 len1 cap1 ops1 W hS1).mono fun e W' ⟨he, hg⟩ => ?_
  subst he
  have bel := hg.below
  exact ⟨_, rfl, _, _, _, [], _, [], hW', trodAll_mk1 (shut_bool Try.underlying4 _), (trodAll_cons_mk (Below.trod fact_laidOut (by kernel_rfl) (of_decide_eq_true (by kernel_rfl)) k0 bel lt0) (trodAll_cons_mk (Below.trod fact_laidOut (by kernel_rfl) (of_decide_eq_true (by kernel_rfl)) k1 bel lt1) trodAll_mk0)), rfl, bel.frame _, fun h => by cases h⟩

theorem c1 : (Rows.censusPlaysRow.inPlace == Try.prog.inPlace 17) = true := by kernel_rfl
theorem c2 : (Rows.censusPlaysRow.unfollowed == Try.prog.unfollowed 17) = true := by kernel_rfl
theorem c3 : (Rows.censusPlaysRow.recurses == Try.prog.recurses 17) = true := by kernel_rfl
theorem c4 : (Rows.censusPlaysRow.named == Try.prog.varsNamed 17) = true := by kernel_rfl
theorem closed : joinedFacts Try.prog 17 Try.f17 Rows.censusPlaysSpec Rows.censusPlaysRow = true := by
  unfold joinedFacts
  exact andI (andI (andI (andI (andI (andI (andI (andI (andI (andI (andI (andI (andI (andI (andI (andI (andI (andI (andI (andI (andI (andI (andI (andI (andI (andI (andI (andI (andI (andI (andI ((by kernel_rfl)) fact_laidOut) fact_mapsRowed) (by kernel_rfl)) (by kernel_rfl)) (by kernel_rfl)) fact_stops) (by kernel_rfl)) fact_stopKnobs) c1) c2) c3) c4) (by kernel_rfl)) (by kernel_rfl)) (by kernel_rfl)) (by kernel_rfl)) (by kernel_rfl)) (by kernel_rfl)) (by kernel_rfl)) (by kernel_rfl)) (by kernel_rfl)) fact_plainKeys) (by kernel_rfl)) fact_stopsHeard) fact_mayEnter) fact_liftsFinal) fact_make) (by kernel_rfl)) (by kernel_rfl)) (by kernel_rfl)) (by kernel_rfl)
theorem over : Rows.censusPlaysRow.holds Try.pinned (OpenSpec.ofChange Rows.censusPlaysSpec) :=
  OpenClaim.holds_of_wide 17 Try.f17 rfl rfl rfl rfl rfl rfl rfl ⟨rfl, rfl, rfl, rfl, rfl⟩ rfl rfl rfl rfl rfl (by kernel_rfl) Try.func17 closed
    (of_decide_eq_true (by kernel_rfl)) (by unfold Func.isWrapper; first | (rw [if_pos (by decide +kernel)]; kernel_rfl) | (rw [if_neg (by decide +kernel)]; exact ⟨rfl, rfl⟩))
    (fun os started H enc _ => lifted os started H enc)

end Go.Proofs.Ytobmgnoceacoaaa.censusPlays
namespace Go.Proofs.Ytobmgnoceacoaaa
theorem censusPlays_holds : Rows.CensusPlaysSaid := censusPlays.over
#print axioms censusPlays_holds
end Go.Proofs.Ytobmgnoceacoaaa

/- TopRepeat: the law answers true for every input, and leaves its arguments as they were. No condition. -/
import Derived.Test.YtkhonmhnchdpkaaGreatP42
import Derived.Test.YtkhonmhnchdpkaaGreatFA
import Derived.Test.YtkhonmhnchdpkaaGreatFB
import Derived.Test.YtkhonmhnchdpkaaGreatFC
import Derived.Test.YtkhonmhnchdpkaaGreatFD
import Derived.ProofKit
import Derived.OpenShut
import Derived.ShutString
import Derived.ChangeOld
import Derived.Lib.SmallJoins
namespace Go.Proofs.YtkhonmhnchdpkaaGreat.topRepeat
open Go.ChangeShapes Go.WideShapes Go.ChangeAt Go.RowKit Go.Joins


set_option maxRecDepth 100000 in
theorem lifted (os : Os) (started : os.Started) (H : Type) (enc : TypeId × Value → H) :
    ReturnsInHanded {} Tryz.checked os 4 .any (Rows.topRepeatSpec.pre6 enc Tryz.prog Tryz.f4 Rows.topRepeatRow.domain false) (Rows.topRepeatSpec.post enc Tryz.prog Tryz.f4 false true false false) := by
  refine returnsInHanded_of_change_sized (C := Tryz.checked) fact_own started (by kernel_rfl) Tryz.func4
    (ChangeSpec.witness6 (enc := enc) (C := Tryz.checked) false ⟨#[], #[.agg #[.int .i64 0, .int .i64 0, .int .i64 0, .int .i64 0, .slice none 0 0, .slice none 0 0, .slice none 0 0], .slice none 0 0], []⟩ 8 (by kernel_rfl) (by kernel_rfl) (by kernel_rfl) (by kernel_rfl)) ?_
  intro W base args ds gs before hval0 hW hcnd hsz0 _
  have hval : ∀ (j : Nat) t v, Tryz.f4.params[j]? = some t → args[j]? = some v → Value.okWide Tryz.prog W .any base t v := hval0
  have hW' := hW
  obtain ⟨p, q, hA0, hV, rfl, hfz, hnd⟩ := hW
  have hA : DataW.TrodAll enc Tryz.prog W 0 (fun _ => true) true Tryz.f4.params.toList args.toList ds p := hA0
  have hsz : (DataW.weightsEach Tryz.prog (Tryz.f4.params.toList ++ Rows.topRepeatSpec.plain.varTypes Tryz.prog) (ds ++ gs)).all (· ≤ reachBytes) = true := hsz0
  clear hsz0
  rw [Tryz.params4] at hA hval hsz
  obtain ⟨v0, vs0, d0, ds0, p0, q0, hargs, rfl, rfl, h0, r0⟩ := trodAll_cons hA
  obtain ⟨v1, vs1, d1, ds1, p1, q1, rfl, rfl, rfl, h1, r1⟩ := trodAll_cons r0
  obtain ⟨rfl, rfl, rfl⟩ := trodAll_nil r1
  obtain rfl : args = #[v0, v1] := by cases args; simp_all
  obtain ⟨rfl, rfl⟩ := trodVars_none hV
  have k0 := h0
  have lt0 : ∀ x ∈ p0, x.block < W.heap.size := by obtain ⟨m, hm⟩ := k0; exact DataW.trod_lt m _ _ _ hm
  have k1 := h1
  have lt1 : ∀ x ∈ p1, x.block < W.heap.size := by obtain ⟨m, hm⟩ := k1; exact DataW.trod_lt m _ _ _ hm
  have s0 : Sz 28 d0 := sz_of (j := 0) hsz rfl rfl
  have s1 : Sz 34 d1 := sz_of (j := 1) hsz rfl rfl
  obtain ⟨c0, c1, c2, c3, start, progs, cs, hset, hpl⟩ := open_setup (hval 0 28 v0 rfl rfl) h0 s0
  obtain ⟨l, hint⟩ := open_script34 (hval 1 34 v1 rfl rfl) h1 s1
  clear hA0 hval0
  refine (repeat_c hset hint hpl).mono fun e W' ⟨he, hg⟩ => ?_
  subst he
  have bel := hg.below
  exact ⟨_, rfl, _, _, _, [], _, [], hW', trodAll_mk1 (shut_bool Tryz.underlying4 _), (trodAll_cons_mk (Below.trod fact_laidOut (by kernel_rfl) (of_decide_eq_true (by kernel_rfl)) k0 bel lt0) (trodAll_cons_mk (Below.trod fact_laidOut (by kernel_rfl) (of_decide_eq_true (by kernel_rfl)) k1 bel lt1) trodAll_mk0)), rfl, bel.frame _, fun h => by cases h⟩

theorem c1 : (Rows.topRepeatRow.inPlace == Tryz.prog.inPlace 4) = true := by kernel_rfl
theorem c2 : (Rows.topRepeatRow.unfollowed == Tryz.prog.unfollowed 4) = true := by kernel_rfl
theorem c3 : (Rows.topRepeatRow.recurses == Tryz.prog.recurses 4) = true := by kernel_rfl
theorem c4 : (Rows.topRepeatRow.named == Tryz.prog.varsNamed 4) = true := by kernel_rfl
theorem closed : joinedFacts Tryz.prog 4 Tryz.f4 Rows.topRepeatSpec Rows.topRepeatRow = true := by
  unfold joinedFacts
  exact andI (andI (andI (andI (andI (andI (andI (andI (andI (andI (andI (andI (andI (andI (andI (andI (andI (andI (andI (andI (andI (andI (andI (andI (andI (andI (andI (andI (andI (andI (andI ((by kernel_rfl)) fact_laidOut) fact_mapsRowed) (by kernel_rfl)) (by kernel_rfl)) (by kernel_rfl)) fact_stops) (by kernel_rfl)) fact_stopKnobs) c1) c2) c3) c4) (by kernel_rfl)) (by kernel_rfl)) (by kernel_rfl)) (by kernel_rfl)) (by kernel_rfl)) (by kernel_rfl)) (by kernel_rfl)) (by kernel_rfl)) (by kernel_rfl)) fact_plainKeys) (by kernel_rfl)) fact_stopsHeard) fact_mayEnter) fact_liftsFinal) fact_make) (by kernel_rfl)) (by kernel_rfl)) (by kernel_rfl)) (by kernel_rfl)
theorem over : Rows.topRepeatRow.holds Tryz.pinned (OpenSpec.ofChange Rows.topRepeatSpec) :=
  OpenClaim.holds_of_wide 4 Tryz.f4 rfl rfl rfl rfl rfl rfl rfl ⟨rfl, rfl, rfl, rfl, rfl⟩ rfl rfl rfl rfl rfl (by kernel_rfl) Tryz.func4 closed
    (of_decide_eq_true (by kernel_rfl)) (by unfold Func.isWrapper; first | (rw [if_pos (by decide +kernel)]; kernel_rfl) | (rw [if_neg (by decide +kernel)]; exact ⟨rfl, rfl⟩))
    (fun os started H enc _ => lifted os started H enc)

end Go.Proofs.YtkhonmhnchdpkaaGreat.topRepeat
namespace Go.Proofs.YtkhonmhnchdpkaaGreat
theorem topRepeat_holds : Rows.TopRepeatSaid := topRepeat.over
#print axioms topRepeat_holds
end Go.Proofs.YtkhonmhnchdpkaaGreat

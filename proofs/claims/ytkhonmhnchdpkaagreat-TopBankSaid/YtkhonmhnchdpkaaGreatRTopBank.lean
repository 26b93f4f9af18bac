/- TopBank: the law answers true for every input, and leaves its arguments as they were. No condition. -/
import Derived.Test.YtkhonmhnchdpkaaGreatB32
import Derived.Test.YtkhonmhnchdpkaaGreatFA
import Derived.Test.YtkhonmhnchdpkaaGreatFB
import Derived.Test.YtkhonmhnchdpkaaGreatFC
import Derived.Test.YtkhonmhnchdpkaaGreatFD
import Derived.ProofKit
import Derived.OpenShut
import Derived.ShutString
import Derived.ChangeOld
import Derived.Lib.SmallJoins
namespace Go.Proofs.YtkhonmhnchdpkaaGreat.topBank
open Go.ChangeShapes Go.WideShapes Go.ChangeAt Go.RowKit Go.Joins


set_option maxRecDepth 100000 in
theorem lifted (os : _root_.Go.Os) (started : os.Started) (H : Type) (enc : TypeId × Value → H) :
    ReturnsInHanded {} Tryz.checked os 6 .any (Rows.topBankSpec.pre6 enc Tryz.prog Tryz.f6 Rows.topBankRow.domain false) (Rows.topBankSpec.post enc Tryz.prog Tryz.f6 false true false false) := by
  refine returnsInHanded_of_change_sized (C := Tryz.checked) fact_own started (by kernel_rfl) Tryz.func6
    (ChangeSpec.witness6 (enc := enc) (C := Tryz.checked) false ⟨#[], #[.int .i64 0, .slice none 0 0, .slice none 0 0], []⟩ 8 (by kernel_rfl) (by kernel_rfl) (by kernel_rfl) (by kernel_rfl)) ?_
  intro W base args ds gs before hval0 hW hcnd hsz0 _
  have hval : ∀ (j : Nat) t v, Tryz.f6.params[j]? = some t → args[j]? = some v → Value.okWide Tryz.prog W .any base t v := hval0
  have hW' := hW
  obtain ⟨p, q, hA0, hV, rfl, hfz, hnd⟩ := hW
  have hA : DataW.TrodAll enc Tryz.prog W 0 (fun _ => true) true Tryz.f6.params.toList args.toList ds p := hA0
  have hsz : (DataW.weightsEach Tryz.prog (Tryz.f6.params.toList ++ Rows.topBankSpec.plain.varTypes Tryz.prog) (ds ++ gs)).all (· ≤ reachBytes) = true := hsz0
  clear hsz0
  rw [Tryz.params6] at hA hval hsz
  obtain ⟨v0, vs0, d0, ds0, p0, q0, hargs, rfl, rfl, h0, r0⟩ := trodAll_cons hA
  obtain ⟨v1, vs1, d1, ds1, p1, q1, rfl, rfl, rfl, h1, r1⟩ := trodAll_cons r0
  obtain ⟨v2, vs2, d2, ds2, p2, q2, rfl, rfl, rfl, h2, r2⟩ := trodAll_cons r1
  obtain ⟨rfl, rfl, rfl⟩ := trodAll_nil r2
  obtain rfl : args = #[v0, v1, v2] := by cases args; simp_all
  obtain ⟨rfl, rfl⟩ := trodVars_none hV
  have k0 := h0
  have lt0 : ∀ x ∈ p0, x.block < W.heap.size := by obtain ⟨m, hm⟩ := k0; exact DataW.trod_lt m _ _ _ hm
  have k1 := h1
  have lt1 : ∀ x ∈ p1, x.block < W.heap.size := by obtain ⟨m, hm⟩ := k1; exact DataW.trod_lt m _ _ _ hm
  have k2 := h2
  have lt2 : ∀ x ∈ p2, x.block < W.heap.size := by obtain ⟨m, hm⟩ := k2; exact DataW.trod_lt m _ _ _ hm
  obtain ⟨a, rfl, rfl, rfl, wa⟩ := open_int Tryz.underlying3 (hval 0 3 v0 rfl rfl) h0
  have s1 : Sz 57 d1 := sz_ofb (j := 1) hsz rfl rfl
  have s2 : Sz 34 d2 := sz_ofb (j := 2) hsz rfl rfl
  obtain ⟨l, hmv⟩ := open_moves (hval 1 57 v1 rfl rfl) h1 s1
  obtain ⟨sc, hint⟩ := open_script34 (hval 2 34 v2 rfl rfl) h2 s2
  clear hA0 hval0
  refine (bank6_c hmv hint).mono fun e W' ⟨he, hg⟩ => ?_
  subst he
  have bel := hg.below
  exact ⟨_, rfl, _, _, _, [], _, [], hW', trodAll_mk1 (shut_bool Tryz.underlying4 _), (trodAll_cons_mk (Below.trod fact_laidOut (by kernel_rfl) (of_decide_eq_true (by kernel_rfl)) k0 bel lt0) (trodAll_cons_mk (Below.trod fact_laidOut (by kernel_rfl) (of_decide_eq_true (by kernel_rfl)) k1 bel lt1) (trodAll_cons_mk (Below.trod fact_laidOut (by kernel_rfl) (of_decide_eq_true (by kernel_rfl)) k2 bel lt2) trodAll_mk0))), rfl, bel.frame _, fun h => by cases h⟩

theorem c1 : (Rows.topBankRow.inPlace == Tryz.prog.inPlace 6) = true := by kernel_rfl
theorem c2 : (Rows.topBankRow.unfollowed == Tryz.prog.unfollowed 6) = true := by kernel_rfl
theorem c3 : (Rows.topBankRow.recurses == Tryz.prog.recurses 6) = true := by kernel_rfl
theorem c4 : (Rows.topBankRow.named == Tryz.prog.varsNamed 6) = true := by kernel_rfl
theorem closed : joinedFacts Tryz.prog 6 Tryz.f6 Rows.topBankSpec Rows.topBankRow = true := by
  unfold joinedFacts
  exact andI (andI (andI (andI (andI (andI (andI (andI (andI (andI (andI (andI (andI (andI (andI (andI (andI (andI (andI (andI (andI (andI (andI (andI (andI (andI (andI (andI (andI (andI (andI ((by kernel_rfl)) fact_laidOut) fact_mapsRowed) (by kernel_rfl)) (by kernel_rfl)) (by kernel_rfl)) fact_stops) (by kernel_rfl)) fact_stopKnobs) c1) c2) c3) c4) (by kernel_rfl)) (by kernel_rfl)) (by kernel_rfl)) (by kernel_rfl)) (by kernel_rfl)) (by kernel_rfl)) (by kernel_rfl)) (by kernel_rfl)) (by kernel_rfl)) fact_plainKeys) (by kernel_rfl)) fact_stopsHeard) fact_mayEnter) fact_liftsFinal) fact_make) (by kernel_rfl)) (by kernel_rfl)) (by kernel_rfl)) (by kernel_rfl)
theorem over : Rows.topBankRow.holds Tryz.pinned (OpenSpec.ofChange Rows.topBankSpec) :=
  OpenClaim.holds_of_wide 6 Tryz.f6 rfl rfl rfl rfl rfl rfl rfl ⟨rfl, rfl, rfl, rfl, rfl⟩ rfl rfl rfl rfl rfl (by kernel_rfl) Tryz.func6 closed
    (of_decide_eq_true (by kernel_rfl)) (by unfold Func.isWrapper; first | (rw [if_pos (by decide +kernel)]; kernel_rfl) | (rw [if_neg (by decide +kernel)]; exact ⟨rfl, rfl⟩))
    (fun os started H enc _ => lifted os started H enc)

end Go.Proofs.YtkhonmhnchdpkaaGreat.topBank
namespace Go.Proofs.YtkhonmhnchdpkaaGreat
theorem topBank_holds : Rows.TopBankSaid := topBank.over
#print axioms topBank_holds
end Go.Proofs.YtkhonmhnchdpkaaGreat

/- CellsCost: the law answers true for every input, and leaves its arguments as they were. No condition. -/
import Derived.Test.YtobmgnoceacoaaaXCW
import Derived.Test.YtobmgnoceacoaaaFA
import Derived.Test.YtobmgnoceacoaaaFB
import Derived.Test.YtobmgnoceacoaaaFC
import Derived.Test.YtobmgnoceacoaaaFD
import Derived.ProofKit
import Derived.OpenShut
import Derived.ShutString
import Derived.ChangeOld
import Derived.Lib.SmallJoins
namespace Go.Proofs.Ytobmgnoceacoaaa.cellsCost
open Go.ChangeShapes Go.WideShapes Go.ChangeAt Go.RowKit Go.Joins


set_option maxRecDepth 100000 in
theorem lifted (os : Os) (started : os.Started) (H : Type) (enc : TypeId × Value → H) :
    ReturnsInHanded {} Try.checked os 19 .any (Rows.cellsCostSpec.pre6 enc Try.prog Try.f19 Rows.cellsCostRow.domain false) (Rows.cellsCostSpec.post enc Try.prog Try.f19 false true false false) := by
  refine returnsInHanded_of_change (C := Try.checked) fact_own started (by kernel_rfl) Try.func19
    (ChangeSpec.witness6 (enc := enc) (C := Try.checked) false ⟨#[], #[.agg #[.int .i64 0, .int .u64 0, .int .u64 0, .int .u64 0, .slice none 0 0]], []⟩ 8 (by kernel_rfl) (by kernel_rfl) (by kernel_rfl) (by kernel_rfl)) ?_
  intro W base args ds gs before hval0 hW hcnd _
  have hval : ∀ (j : Nat) t v, Try.f19.params[j]? = some t → args[j]? = some v → Value.okWide Try.prog W .any base t v := hval0
  have hW' := hW
  obtain ⟨p, q, hA0, hV, rfl, hfz, hnd⟩ := hW
  have hA : DataW.TrodAll enc Try.prog W 0 (fun _ => true) true Try.f19.params.toList args.toList ds p := hA0

  rw [Try.params19] at hA hval
  obtain ⟨v0, vs0, d0, ds0, p0, q0, hargs, rfl, rfl, h0, r0⟩ := trodAll_cons hA
  obtain ⟨rfl, rfl, rfl⟩ := trodAll_nil r0
  obtain rfl : args = #[v0] := by cases args; simp_all
  obtain ⟨rfl, rfl⟩ := trodVars_none hV
  have k0 := h0
  have lt0 : ∀ x ∈ p0, x.block < W.heap.size := by obtain ⟨m, hm⟩ := k0; exact DataW.trod_lt m _ _ _ hm
  obtain ⟨cs0, m0, rfl, hz0, hf0⟩ := open_fields Try.underlying122 (by kernel_rfl) (hval 0 122 v0 rfl rfl) h0
  rw [show Try.prog.cellsOf 122 = 5 by kernel_rfl] at hz0
  obtain ⟨c00, y00, hc00, hy00⟩ := hf0 0 _ rfl (by omega)
  obtain ⟨c01, y01, hc01, hy01⟩ := hf0 1 _ rfl (by omega)
  obtain ⟨c02, y02, hc02, hy02⟩ := hf0 2 _ rfl (by omega)
  obtain ⟨c03, y03, hc03, hy03⟩ := hf0 3 _ rfl (by omega)
  obtain ⟨c04, y04, hc04, hy04⟩ := hf0 4 _ rfl (by omega)
  obtain rfl := arr5 hz0 hc00 hc01 hc02 hc03 hc04
  obtain ⟨c, e00, rfl, wc⟩ := DataW.trod_int Try.underlying3 hy00
  simp at e00; subst e00
  obtain ⟨st, e01, rfl, wst⟩ := DataW.trod_int Try.underlying28 hy01
  simp at e01; subst e01
  obtain ⟨ve, e02, rfl, wve⟩ := DataW.trod_int Try.underlying28 hy02
  simp at e02; subst e02
  obtain ⟨x, e03, rfl, wx⟩ := DataW.trod_int Try.underlying28 hy03
  simp at e03; subst e03
  obtain ⟨aN, lenN, capN, zsN, rfl, hNN⟩ := open_numsN Try.underlying36 Try.underlying28 (by kernel_rfl) hy04
  clear hA0 hval0
  refine (cellsCost_walk c st ve x aN lenN capN zsN W hNN).mono fun e W' ⟨he, hg⟩ => ?_
  subst he
  have bel := hg.below
  exact ⟨_, rfl, _, _, _, [], _, [], hW', trodAll_mk1 (shut_bool Try.underlying4 _), (trodAll_cons_mk (Below.trod fact_laidOut (by kernel_rfl) (of_decide_eq_true (by kernel_rfl)) k0 bel lt0) trodAll_mk0), rfl, bel.frame _, fun h => by cases h⟩

theorem c1 : (Rows.cellsCostRow.inPlace == Try.prog.inPlace 19) = true := by kernel_rfl
theorem c2 : (Rows.cellsCostRow.unfollowed == Try.prog.unfollowed 19) = true := by kernel_rfl
theorem c3 : (Rows.cellsCostRow.recurses == Try.prog.recurses 19) = true := by kernel_rfl
theorem c4 : (Rows.cellsCostRow.named == Try.prog.varsNamed 19) = true := by kernel_rfl
theorem closed : joinedFacts Try.prog 19 Try.f19 Rows.cellsCostSpec Rows.cellsCostRow = true := by
  unfold joinedFacts
  exact andI (andI (andI (andI (andI (andI (andI (andI (andI (andI (andI (andI (andI (andI (andI (andI (andI (andI (andI (andI (andI (andI (andI (andI (andI (andI (andI (andI (andI (andI (andI ((by kernel_rfl)) fact_laidOut) fact_mapsRowed) (by kernel_rfl)) (by kernel_rfl)) (by kernel_rfl)) fact_stops) (by kernel_rfl)) fact_stopKnobs) c1) c2) c3) c4) (by kernel_rfl)) (by kernel_rfl)) (by kernel_rfl)) (by kernel_rfl)) (by kernel_rfl)) (by kernel_rfl)) (by kernel_rfl)) (by kernel_rfl)) (by kernel_rfl)) fact_plainKeys) (by kernel_rfl)) fact_stopsHeard) fact_mayEnter) fact_liftsFinal) fact_make) (by kernel_rfl)) (by kernel_rfl)) (by kernel_rfl)) (by kernel_rfl)
theorem over : Rows.cellsCostRow.holds Try.pinned (OpenSpec.ofChange Rows.cellsCostSpec) :=
  OpenClaim.holds_of_wide 19 Try.f19 rfl rfl rfl rfl rfl rfl rfl ⟨rfl, rfl, rfl, rfl, rfl⟩ rfl rfl rfl rfl rfl (by kernel_rfl) Try.func19 closed
    (of_decide_eq_true (by kernel_rfl)) (by unfold Func.isWrapper; first | (rw [if_pos (by decide +kernel)]; kernel_rfl) | (rw [if_neg (by decide +kernel)]; exact ⟨rfl, rfl⟩))
    (fun os started H enc _ => lifted os started H enc)

end Go.Proofs.Ytobmgnoceacoaaa.cellsCost
namespace Go.Proofs.Ytobmgnoceacoaaa
theorem cellsCost_holds : Rows.CellsCostSaid := cellsCost.over
#print axioms cellsCost_holds
end Go.Proofs.Ytobmgnoceacoaaa

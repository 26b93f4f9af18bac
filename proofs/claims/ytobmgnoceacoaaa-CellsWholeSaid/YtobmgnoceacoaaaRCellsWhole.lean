/- CellsWhole: the law answers true for every input, and leaves its arguments as they were. No condition. -/
import Derived.Test.YtobmgnoceacoaaaXHW
import Derived.Test.YtobmgnoceacoaaaFA
import Derived.Test.YtobmgnoceacoaaaFB
import Derived.Test.YtobmgnoceacoaaaFC
import Derived.Test.YtobmgnoceacoaaaFD
import Derived.ProofKit
import Derived.OpenShut
import Derived.ShutString
import Derived.ChangeOld
import Derived.Lib.SmallJoins
namespace Go.Proofs.Ytobmgnoceacoaaa.cellsWhole
open Go.ChangeShapes Go.WideShapes Go.ChangeAt Go.RowKit Go.Joins


set_option maxRecDepth 100000 in
theorem lifted (os : Os) (started : os.Started) (H : Type) (enc : TypeId × Value → H) :
    ReturnsInHanded {} Try.checked os 18 .any (Rows.cellsWholeSpec.pre6 enc Try.prog Try.f18 Rows.cellsWholeRow.domain false) (Rows.cellsWholeSpec.post enc Try.prog Try.f18 false true false false) := by
  refine returnsInHanded_of_change_sized (C := Try.checked) fact_own started (by kernel_rfl) Try.func18
    (ChangeSpec.witness6 (enc := enc) (C := Try.checked) false ⟨#[], #[.agg #[.int .u64 0, .int .u64 0, .int .u64 0, .int .u64 0, .int .u64 0, .slice none 0 0]], []⟩ 8 (by kernel_rfl) (by kernel_rfl) (by kernel_rfl) (by kernel_rfl)) ?_
  intro W base args ds gs before hval0 hW hcnd hsz0 _
  have hval : ∀ (j : Nat) t v, Try.f18.params[j]? = some t → args[j]? = some v → Value.okWide Try.prog W .any base t v := hval0
  have hW' := hW
  obtain ⟨p, q, hA0, hV, rfl, hfz, hnd⟩ := hW
  have hA : DataW.TrodAll enc Try.prog W 0 (fun _ => true) true Try.f18.params.toList args.toList ds p := hA0
  have hsz : (DataW.weightsEach Try.prog (Try.f18.params.toList ++ Rows.cellsWholeSpec.plain.varTypes Try.prog) (ds ++ gs)).all (· ≤ reachBytes) = true := hsz0
  clear hsz0
  rw [Try.params18] at hA hval hsz
  obtain ⟨v0, vs0, d0, ds0, p0, q0, hargs, rfl, rfl, h0, r0⟩ := trodAll_cons hA
  obtain ⟨rfl, rfl, rfl⟩ := trodAll_nil r0
  obtain rfl : args = #[v0] := by cases args; simp_all
  obtain ⟨rfl, rfl⟩ := trodVars_none hV
  have k0 := h0
  have lt0 : ∀ x ∈ p0, x.block < W.heap.size := by obtain ⟨m, hm⟩ := k0; exact DataW.trod_lt m _ _ _ hm
  obtain ⟨cs0, m0, pts0, rfl, rfl, hz0, hf0⟩ := open_fieldsS Try.underlying108 (by kernel_rfl) (hval 0 108 v0 rfl rfl) h0
  rw [show Try.prog.cellsOf 108 = 6 by kernel_rfl] at hz0
  obtain ⟨c00, y00, hc00, hp00, hy00⟩ := hf0 0 _ rfl (by omega)
  obtain ⟨c01, y01, hc01, hp01, hy01⟩ := hf0 1 _ rfl (by omega)
  obtain ⟨c02, y02, hc02, hp02, hy02⟩ := hf0 2 _ rfl (by omega)
  obtain ⟨c03, y03, hc03, hp03, hy03⟩ := hf0 3 _ rfl (by omega)
  obtain ⟨c04, y04, hc04, hp04, hy04⟩ := hf0 4 _ rfl (by omega)
  obtain ⟨c05, y05, hc05, hp05, hy05⟩ := hf0 5 _ rfl (by omega)
  obtain rfl := arr6 hz0 hc00 hc01 hc02 hc03 hc04 hc05
  obtain ⟨x, e00, rfl, wx⟩ := DataW.trod_int Try.underlying28 hy00
  simp at e00; subst e00
  obtain ⟨y, e01, rfl, wy⟩ := DataW.trod_int Try.underlying28 hy01
  simp at e01; subst e01
  obtain ⟨v0, e02, rfl, wv0⟩ := DataW.trod_int Try.underlying28 hy02
  simp at e02; subst e02
  obtain ⟨t0, e03, rfl, wt0⟩ := DataW.trod_int Try.underlying28 hy03
  simp at e03; subst e03
  obtain ⟨mo, e04, rfl, wmo⟩ := DataW.trod_int Try.underlying28 hy04
  simp at e04; subst e04
  obtain ⟨aN, lenN, capN, rfl, hNN⟩ := open_boolsN Try.underlying106 Try.underlying4 (by kernel_rfl) (of_decide_eq_true (by kernel_rfl)) hy05 (fun elems sp he => sized_field hsz (j := 0) rfl rfl Try.underlying108 (i := 5) rfl (by rw [hp05, he]) Try.underlying106)
  clear hA0 hval0
  refine (cellsWhole_walk x y v0 t0 mo aN lenN capN W (by have h := wt0; simp [Lit.wf] at h; exact ⟨h.1, h.2⟩) (by have h := wmo; simp [Lit.wf] at h; exact h.1) hNN).mono fun e W' ⟨he, hg⟩ => ?_
  subst he
  have bel := hg.below
  exact ⟨_, rfl, _, _, _, [], _, [], hW', trodAll_mk1 (shut_bool Try.underlying4 _), (trodAll_cons_mk (Below.trod fact_laidOut (by kernel_rfl) (of_decide_eq_true (by kernel_rfl)) k0 bel lt0) trodAll_mk0), rfl, bel.frame _, fun h => by cases h⟩

theorem c1 : (Rows.cellsWholeRow.inPlace == Try.prog.inPlace 18) = true := by kernel_rfl
theorem c2 : (Rows.cellsWholeRow.unfollowed == Try.prog.unfollowed 18) = true := by kernel_rfl
theorem c3 : (Rows.cellsWholeRow.recurses == Try.prog.recurses 18) = true := by kernel_rfl
theorem c4 : (Rows.cellsWholeRow.named == Try.prog.varsNamed 18) = true := by kernel_rfl
theorem closed : joinedFacts Try.prog 18 Try.f18 Rows.cellsWholeSpec Rows.cellsWholeRow = true := by
  unfold joinedFacts
  exact andI (andI (andI (andI (andI (andI (andI (andI (andI (andI (andI (andI (andI (andI (andI (andI (andI (andI (andI (andI (andI (andI (andI (andI (andI (andI (andI (andI (andI (andI (andI ((by kernel_rfl)) fact_laidOut) fact_mapsRowed) (by kernel_rfl)) (by kernel_rfl)) (by kernel_rfl)) fact_stops) (by kernel_rfl)) fact_stopKnobs) c1) c2) c3) c4) (by kernel_rfl)) (by kernel_rfl)) (by kernel_rfl)) (by kernel_rfl)) (by kernel_rfl)) (by kernel_rfl)) (by kernel_rfl)) (by kernel_rfl)) (by kernel_rfl)) fact_plainKeys) (by kernel_rfl)) fact_stopsHeard) fact_mayEnter) fact_liftsFinal) fact_make) (by kernel_rfl)) (by kernel_rfl)) (by kernel_rfl)) (by kernel_rfl)
theorem over : Rows.cellsWholeRow.holds Try.pinned (OpenSpec.ofChange Rows.cellsWholeSpec) :=
  OpenClaim.holds_of_wide 18 Try.f18 rfl rfl rfl rfl rfl rfl rfl ⟨rfl, rfl, rfl, rfl, rfl⟩ rfl rfl rfl rfl rfl (by kernel_rfl) Try.func18 closed
    (of_decide_eq_true (by kernel_rfl)) (by unfold Func.isWrapper; first | (rw [if_pos (by decide +kernel)]; kernel_rfl) | (rw [if_neg (by decide +kernel)]; exact ⟨rfl, rfl⟩))
    (fun os started H enc _ => lifted os started H enc)

end Go.Proofs.Ytobmgnoceacoaaa.cellsWhole
namespace Go.Proofs.Ytobmgnoceacoaaa
theorem cellsWhole_holds : Rows.CellsWholeSaid := cellsWhole.over
#print axioms cellsWhole_holds
end Go.Proofs.Ytobmgnoceacoaaa

/- CellsQuiet: the law answers true for every input, and leaves its arguments as they were. No condition. -/
import Derived.Test.YtobmgnoceacoaaaXQW
import Derived.Test.YtobmgnoceacoaaaFA
import Derived.Test.YtobmgnoceacoaaaFB
import Derived.Test.YtobmgnoceacoaaaFC
import Derived.Test.YtobmgnoceacoaaaFD
import Derived.ProofKit
import Derived.OpenShut
import Derived.ShutString
import Derived.ChangeOld
import Derived.Lib.SmallJoins
namespace Go.Proofs.Ytobmgnoceacoaaa.cellsQuiet
open Go.ChangeShapes Go.WideShapes Go.ChangeAt Go.RowKit Go.Joins


set_option maxRecDepth 100000 in
theorem lifted (os : Os) (started : os.Started) (H : Type) (enc : TypeId × Value → H) :
    ReturnsInHanded {} Try.checked os 21 .any (Rows.cellsQuietSpec.pre6 enc Try.prog Try.f21 Rows.cellsQuietRow.domain false) (Rows.cellsQuietSpec.post enc Try.prog Try.f21 false true false false) := by
  refine returnsInHanded_of_change (C := Try.checked) fact_own started (by kernel_rfl) Try.func21
    (ChangeSpec.witness6 (enc := enc) (C := Try.checked) false ⟨#[], #[.agg #[.int .u64 0, .int .u64 0, .int .u64 0], .int .u64 0], []⟩ 8 (by kernel_rfl) (by kernel_rfl) (by kernel_rfl) (by kernel_rfl)) ?_
  intro W base args ds gs before hval0 hW hcnd _
  have hval : ∀ (j : Nat) t v, Try.f21.params[j]? = some t → args[j]? = some v → Value.okWide Try.prog W .any base t v := hval0
  have hW' := hW
  obtain ⟨p, q, hA0, hV, rfl, hfz, hnd⟩ := hW
  have hA : DataW.TrodAll enc Try.prog W 0 (fun _ => true) true Try.f21.params.toList args.toList ds p := hA0

  rw [Try.params21] at hA hval
  obtain ⟨v0, vs0, d0, ds0, p0, q0, hargs, rfl, rfl, h0, r0⟩ := trodAll_cons hA
  obtain ⟨v1, vs1, d1, ds1, p1, q1, rfl, rfl, rfl, h1, r1⟩ := trodAll_cons r0
  obtain ⟨rfl, rfl, rfl⟩ := trodAll_nil r1
  obtain rfl : args = #[v0, v1] := by cases args; simp_all
  obtain ⟨rfl, rfl⟩ := trodVars_none hV
  have k0 := h0
  have lt0 : ∀ x ∈ p0, x.block < W.heap.size := by obtain ⟨m, hm⟩ := k0; exact DataW.trod_lt m _ _ _ hm
  have k1 := h1
  have lt1 : ∀ x ∈ p1, x.block < W.heap.size := by obtain ⟨m, hm⟩ := k1; exact DataW.trod_lt m _ _ _ hm
  obtain ⟨c00, c01, c02, y00, y01, y02, m0, rfl, rfl, rfl, hy00, hy01, hy02⟩ := open_agg3 Try.underlying30 (by kernel_rfl) (show Try.prog.cellsOf 30 = 3 by kernel_rfl) (hval 0 30 v0 rfl rfl) h0
  obtain ⟨v, e00, rfl, wv⟩ := DataW.trod_int Try.underlying28 hy00
  simp at e00; subst e00
  obtain ⟨n, e01, rfl, wn⟩ := DataW.trod_int Try.underlying28 hy01
  simp at e01; subst e01
  obtain ⟨u, e02, rfl, wu⟩ := DataW.trod_int Try.underlying28 hy02
  simp at e02; subst e02
  obtain ⟨st, rfl, rfl, rfl, wst⟩ := open_int Try.underlying28 (hval 1 28 v1 rfl rfl) h1
  clear hA0 hval0
  refine (cellsQuiet_walk v n u st W).mono fun e W' ⟨he, hg⟩ => ?_
  subst he
  have bel := hg.below
  exact ⟨_, rfl, _, _, _, [], _, [], hW', trodAll_mk1 (shut_bool Try.underlying4 _), (trodAll_cons_mk (Below.trod fact_laidOut (by kernel_rfl) (of_decide_eq_true (by kernel_rfl)) k0 bel lt0) (trodAll_cons_mk (Below.trod fact_laidOut (by kernel_rfl) (of_decide_eq_true (by kernel_rfl)) k1 bel lt1) trodAll_mk0)), rfl, bel.frame _, fun h => by cases h⟩

theorem c1 : (Rows.cellsQuietRow.inPlace == Try.prog.inPlace 21) = true := by kernel_rfl
theorem c2 : (Rows.cellsQuietRow.unfollowed == Try.prog.unfollowed 21) = true := by kernel_rfl
theorem c3 : (Rows.cellsQuietRow.recurses == Try.prog.recurses 21) = true := by kernel_rfl
theorem c4 : (Rows.cellsQuietRow.named == Try.prog.varsNamed 21) = true := by kernel_rfl
theorem closed : joinedFacts Try.prog 21 Try.f21 Rows.cellsQuietSpec Rows.cellsQuietRow = true := by
  unfold joinedFacts
  exact andI (andI (andI (andI (andI (andI (andI (andI (andI (andI (andI (andI (andI (andI (andI (andI (andI (andI (andI (andI (andI (andI (andI (andI (andI (andI (andI (andI (andI (andI (andI ((by kernel_rfl)) fact_laidOut) fact_mapsRowed) (by kernel_rfl)) (by kernel_rfl)) (by kernel_rfl)) fact_stops) (by kernel_rfl)) fact_stopKnobs) c1) c2) c3) c4) (by kernel_rfl)) (by kernel_rfl)) (by kernel_rfl)) (by kernel_rfl)) (by kernel_rfl)) (by kernel_rfl)) (by kernel_rfl)) (by kernel_rfl)) (by kernel_rfl)) fact_plainKeys) (by kernel_rfl)) fact_stopsHeard) fact_mayEnter) fact_liftsFinal) fact_make) (by kernel_rfl)) (by kernel_rfl)) (by kernel_rfl)) (by kernel_rfl)
theorem over : Rows.cellsQuietRow.holds Try.pinned (OpenSpec.ofChange Rows.cellsQuietSpec) :=
  OpenClaim.holds_of_wide 21 Try.f21 rfl rfl rfl rfl rfl rfl rfl ⟨rfl, rfl, rfl, rfl, rfl⟩ rfl rfl rfl rfl rfl (by kernel_rfl) Try.func21 closed
    (of_decide_eq_true (by kernel_rfl)) (by unfold Func.isWrapper; first | (rw [if_pos (by decide +kernel)]; kernel_rfl) | (rw [if_neg (by decide +kernel)]; exact ⟨rfl, rfl⟩))
    (fun os started H enc _ => lifted os started H enc)

end Go.Proofs.Ytobmgnoceacoaaa.cellsQuiet
namespace Go.Proofs.Ytobmgnoceacoaaa
theorem cellsQuiet_holds : Rows.CellsQuietSaid := cellsQuiet.over
#print axioms cellsQuiet_holds
end Go.Proofs.Ytobmgnoceacoaaa

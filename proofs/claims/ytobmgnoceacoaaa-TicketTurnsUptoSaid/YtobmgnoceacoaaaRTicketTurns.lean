/- TicketTurns: the law answers true for every input of bulk at most 1048576 (the given bound), and leaves its arguments as they were. -/
import Derived.Test.YtobmgnoceacoaaaTurnW
import Derived.Test.YtobmgnoceacoaaaNumsU
import Derived.Test.YtobmgnoceacoaaaFA
import Derived.Test.YtobmgnoceacoaaaFB
import Derived.Test.YtobmgnoceacoaaaFC
import Derived.Test.YtobmgnoceacoaaaFD
import Derived.ProofKit
import Derived.OpenShut
import Derived.ShutString
import Derived.ChangeOld
import Derived.Lib.SmallJoins
import Derived.JoinedCond
namespace Go.Proofs.Ytobmgnoceacoaaa.ticketTurns
open Go.ChangeShapes Go.WideShapes Go.ChangeAt Go.RowKit Go.Joins
theorem cells5 : Try.prog.cellsOf 5 = 1 := by kernel_rfl

set_option maxRecDepth 100000 in
theorem lifted (os : Os) (started : os.Started) (H : Type) (enc : TypeId × Value → H) (F : Stop.Interp) :
    ReturnsInHanded {} Try.checked os 11 .any ((Rows.OpenSpec.upto Rows.ticketTurnsSpec).pre6 enc Try.prog Try.f11 Rows.ticketTurnsUptoRow.domain false) (((Rows.OpenSpec.upto Rows.ticketTurnsSpec).at F).post enc Try.prog Try.f11 false true false false) := by
  refine returnsInHanded_of_cond (C := Try.checked) (s := (Rows.OpenSpec.upto Rows.ticketTurnsSpec)) (k := Rows.uptoSmall) rfl fact_own started (by kernel_rfl) Try.func11
    (OpenSpec.witness (enc := enc) (C := Try.checked) (s := (Rows.OpenSpec.upto Rows.ticketTurnsSpec)) (k := Rows.uptoSmall) rfl false ⟨#[], #[.slice none 0 0], []⟩ 8 (by kernel_rfl) (by kernel_rfl) (by kernel_rfl)
      (x := ([.nil], [], [])) (by kernel_rfl) rfl (by kernel_rfl)) ?_
  intro W base args ds gs before hval0 hW hcnd hk _
  have hval : ∀ (j : Nat) t v, Try.f11.params[j]? = some t → args[j]? = some v → Value.okWide Try.prog W .any base t v := hval0
  have hW' := hW
  obtain ⟨p, q, hA0, hV, rfl, hfz, hnd⟩ := hW
  have hA : DataW.TrodAll enc Try.prog W 0 (fun _ => true) true Try.f11.params.toList args.toList ds p := hA0
  rw [Try.params11] at hA hval
  obtain ⟨v0, vs0, d0, ds0, p0, q0, hargs, rfl, rfl, h0, r0⟩ := trodAll_cons hA
  obtain ⟨rfl, rfl, rfl⟩ := trodAll_nil r0
  obtain rfl : args = #[v0] := by cases args; simp_all
  obtain ⟨rfl, rfl⟩ := trodVars_none hV
  have k0 := h0
  have lt0 : ∀ x ∈ p0, x.block < W.heap.size := by obtain ⟨m, hm⟩ := k0; exact DataW.trod_lt m _ _ _ hm
  obtain ⟨a0, len0, cap0, zs0, rfl, hN0, hlen0⟩ := open_numsU Try.underlying66 Try.underlying5 cells5 (hval 0 66 v0 rfl rfl) h0 (ds := _) (by simp) hk
  clear hA0 hval0
  refine (ticketTurns_walk a0 len0 cap0 zs0 W hN0 hlen0).mono fun e W' ⟨he, hg⟩ => ?_
  subst he
  have bel := hg.below
  exact ⟨_, rfl, _, _, _, [], _, [], hW', trodAll_mk1 (shut_bool Try.underlying4 _), (trodAll_cons_mk (Below.trod fact_laidOut (by kernel_rfl) (of_decide_eq_true (by kernel_rfl)) k0 bel lt0) trodAll_mk0), rfl, bel.frame _, fun h => by cases h⟩

theorem c1 : (Rows.ticketTurnsUptoRow.inPlace == Try.prog.inPlace 11) = true := by kernel_rfl
theorem c2 : (Rows.ticketTurnsUptoRow.unfollowed == Try.prog.unfollowed 11) = true := by kernel_rfl
theorem c3 : (Rows.ticketTurnsUptoRow.recurses == Try.prog.recurses 11) = true := by kernel_rfl
theorem c4 : (Rows.ticketTurnsUptoRow.named == Try.prog.varsNamed 11) = true := by kernel_rfl
theorem closed : joinedFacts Try.prog 11 Try.f11 (Rows.OpenSpec.upto Rows.ticketTurnsSpec).bare Rows.ticketTurnsUptoRow = true := by
  unfold joinedFacts
  exact andI (andI (andI (andI (andI (andI (andI (andI (andI (andI (andI (andI (andI (andI (andI (andI (andI (andI (andI (andI (andI (andI (andI (andI (andI (andI (andI (andI (andI (andI (andI ((by kernel_rfl)) fact_laidOut) fact_mapsRowed) (by kernel_rfl)) (by kernel_rfl)) (by kernel_rfl)) fact_stops) (by kernel_rfl)) fact_stopKnobs) c1) c2) c3) c4) (by kernel_rfl)) (by kernel_rfl)) (by kernel_rfl)) (by kernel_rfl)) (by kernel_rfl)) (by kernel_rfl)) (by kernel_rfl)) (by kernel_rfl)) (by kernel_rfl)) fact_plainKeys) (by kernel_rfl)) fact_stopsHeard) fact_mayEnter) fact_liftsFinal) fact_make) (by kernel_rfl)) (by kernel_rfl)) (by kernel_rfl)) (by kernel_rfl)
set_option maxRecDepth 100000 in
theorem over : Rows.ticketTurnsUptoRow.holds Try.pinned (Rows.OpenSpec.upto Rows.ticketTurnsSpec) :=
  OpenClaim.holds_of_cond 11 Try.f11 rfl rfl rfl rfl rfl rfl rfl ⟨rfl, rfl, rfl, rfl, rfl⟩ rfl rfl rfl rfl rfl (by kernel_rfl) Try.func11 closed
    (of_decide_eq_true (by kernel_rfl)) (by unfold Func.isWrapper; first | (rw [if_pos (by decide +kernel)]; kernel_rfl) | (rw [if_neg (by decide +kernel)]; exact ⟨rfl, rfl⟩))
    (fun os started H enc _ F => lifted os started H enc F)

end Go.Proofs.Ytobmgnoceacoaaa.ticketTurns
namespace Go.Proofs.Ytobmgnoceacoaaa
theorem ticketTurns_holds : Rows.TicketTurnsUptoSaid := ticketTurns.over
#print axioms ticketTurns_holds
end Go.Proofs.Ytobmgnoceacoaaa

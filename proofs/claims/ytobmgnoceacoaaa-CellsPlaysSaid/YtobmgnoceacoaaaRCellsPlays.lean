/- CellsPlays: the law answers true for every input, and leaves its arguments as they were. No condition. -/
import Derived.Test.YtobmgnoceacoaaaYQ
import Derived.Test.YtobmgnoceacoaaaFA
import Derived.Test.YtobmgnoceacoaaaFB
import Derived.Test.YtobmgnoceacoaaaFC
import Derived.Test.YtobmgnoceacoaaaFD
import Derived.ProofKit
import Derived.OpenShut
import Derived.ShutString
import Derived.ChangeOld
import Derived.Lib.SmallJoins
namespace Go.Proofs.Ytobmgnoceacoaaa.cellsPlays
open Go.ChangeShapes Go.WideShapes Go.ChangeAt Go.RowKit Go.Joins

theorem und138 : ∃ fs : Array Field, Try.prog.underlying 138 = some (.struct fs) ∧ fs.size = 8 ∧ (∀ (i : Nat) (f : Field), fs[i]? = some f → f.offset = i ∧ Try.prog.cellsOf f.type = 1) ∧ (∀ (i : Nat) (f : Field), fs[i]? = some f → (i < 4 → Try.prog.underlying f.type = some (.int .i64)) ∧ (4 ≤ i → i < 7 → Try.prog.underlying f.type = some (.int .u64)) ∧ (i = 7 → ∃ e2, Try.prog.underlying f.type = some (.slice e2) ∧ Try.prog.underlying e2 = some (.int .u64) ∧ Try.prog.cellsOf e2 = 1 ∧ Try.prog.bytesOf e2 = 8)) := by
  refine ⟨_, Try.underlying138, rfl, fun i f h => ?_, fun i f h => ?_⟩
  · match i, h with
    | 0, h => cases h; exact ⟨rfl, by kernel_rfl⟩
    | 1, h => cases h; exact ⟨rfl, by kernel_rfl⟩
    | 2, h => cases h; exact ⟨rfl, by kernel_rfl⟩
    | 3, h => cases h; exact ⟨rfl, by kernel_rfl⟩
    | 4, h => cases h; exact ⟨rfl, by kernel_rfl⟩
    | 5, h => cases h; exact ⟨rfl, by kernel_rfl⟩
    | 6, h => cases h; exact ⟨rfl, by kernel_rfl⟩
    | 7, h => cases h; exact ⟨rfl, by kernel_rfl⟩
    | i + 8, h => simp at h
  · match i, h with
    | 0, h => cases h; exact ⟨fun _ => Try.underlying3, fun h => absurd h (by decide), fun h => absurd h (by decide)⟩
    | 1, h => cases h; exact ⟨fun _ => Try.underlying3, fun h => absurd h (by decide), fun h => absurd h (by decide)⟩
    | 2, h => cases h; exact ⟨fun _ => Try.underlying3, fun h => absurd h (by decide), fun h => absurd h (by decide)⟩
    | 3, h => cases h; exact ⟨fun _ => Try.underlying3, fun h => absurd h (by decide), fun h => absurd h (by decide)⟩
    | 4, h => cases h; exact ⟨fun h => absurd h (by decide), fun _ _ => Try.underlying28, fun h => absurd h (by decide)⟩
    | 5, h => cases h; exact ⟨fun h => absurd h (by decide), fun _ _ => Try.underlying28, fun h => absurd h (by decide)⟩
    | 6, h => cases h; exact ⟨fun h => absurd h (by decide), fun _ _ => Try.underlying28, fun h => absurd h (by decide)⟩
    | 7, h => cases h; exact ⟨fun h => absurd h (by decide), fun _ h => absurd h (by decide), fun _ => ⟨28, Try.underlying36, Try.underlying28, by kernel_rfl, by kernel_rfl⟩⟩
    | i + 8, h => simp at h

set_option maxRecDepth 100000 in
theorem lifted (os : Os) (started : os.Started) (H : Type) (enc : TypeId × Value → H) :
    ReturnsInHanded {} Try.checked os 22 .any (Rows.cellsPlaysSpec.pre6 enc Try.prog Try.f22 Rows.cellsPlaysRow.domain false) (Rows.cellsPlaysSpec.post enc Try.prog Try.f22 false true false false) := by
  refine returnsInHanded_of_change_sized (C := Try.checked) fact_own started (by kernel_rfl) Try.func22
    (ChangeSpec.witness6 (enc := enc) (C := Try.checked) false ⟨#[], #[.int .i64 0, .slice none 0 0], []⟩ 8 (by kernel_rfl) (by kernel_rfl) (by kernel_rfl) (by kernel_rfl)) ?_
  intro W base args ds gs before hval0 hW hcnd hsz0 _
  have hval : ∀ (j : Nat) t v, Try.f22.params[j]? = some t → args[j]? = some v → Value.okWide Try.prog W .any base t v := hval0
  have hW' := hW
  obtain ⟨p, q, hA0, hV, rfl, hfz, hnd⟩ := hW
  have hA : DataW.TrodAll enc Try.prog W 0 (fun _ => true) true Try.f22.params.toList args.toList ds p := hA0
  have hsz : (DataW.weightsEach Try.prog (Try.f22.params.toList ++ Rows.cellsPlaysSpec.plain.varTypes Try.prog) (ds ++ gs)).all (· ≤ reachBytes) = true := hsz0
  clear hsz0
  rw [Try.params22] at hA hval hsz
  obtain ⟨v0, vs0, d0, ds0, p0, q0, hargs, rfl, rfl, h0, r0⟩ := trodAll_cons hA
  obtain ⟨v1, vs1, d1, ds1, p1, q1, rfl, rfl, rfl, h1, r1⟩ := trodAll_cons r0
  obtain ⟨rfl, rfl, rfl⟩ := trodAll_nil r1
  obtain rfl : args = #[v0, v1] := by cases args; simp_all
  obtain ⟨rfl, rfl⟩ := trodVars_none hV
  have k0 := h0
  have lt0 : ∀ x ∈ p0, x.block < W.heap.size := by obtain ⟨m, hm⟩ := k0; exact DataW.trod_lt m _ _ _ hm
  have k1 := h1
  have lt1 : ∀ x ∈ p1, x.block < W.heap.size := by obtain ⟨m, hm⟩ := k1; exact DataW.trod_lt m _ _ _ hm
  obtain ⟨n, rfl, rfl, rfl, wn⟩ := open_int Try.underlying3 (hval 0 3 v0 rfl rfl) h0
  obtain ⟨fs, u1, u2, u3, u4⟩ := und138
  obtain ⟨a1, len1, cap1, rfl, hS1⟩ := open_script11 (j := 1) Try.underlying127 u1 (by kernel_rfl) u2 (of_decide_eq_true (by kernel_rfl)) u3 u4 (hval 1 127 v1 rfl rfl) h1 hsz rfl rfl
  clear hA0 hval0
  refine (cellsPlays_walk n a1 len1 cap1 W hS1).mono fun e W' ⟨he, hg⟩ => ?_
  subst he
  have bel := hg.below
  exact ⟨_, rfl, _, _, _, [], _, [], hW', trodAll_mk1 (shut_bool Try.underlying4 _), (trodAll_cons_mk (Below.trod fact_laidOut (by kernel_rfl) (of_decide_eq_true (by kernel_rfl)) k0 bel lt0) (trodAll_cons_mk (Below.trod fact_laidOut (by kernel_rfl) (of_decide_eq_true (by kernel_rfl)) k1 bel lt1) trodAll_mk0)), rfl, bel.frame _, fun h => by cases h⟩

theorem c1 : (Rows.cellsPlaysRow.inPlace == Try.prog.inPlace 22) = true := by kernel_rfl
theorem c2 : (Rows.cellsPlaysRow.unfollowed == Try.prog.unfollowed 22) = true := by kernel_rfl
theorem c3 : (Rows.cellsPlaysRow.recurses == Try.prog.recurses 22) = true := by kernel_rfl
theorem c4 : (Rows.cellsPlaysRow.named == Try.prog.varsNamed 22) = true := by kernel_rfl
theorem closed : joinedFacts Try.prog 22 Try.f22 Rows.cellsPlaysSpec Rows.cellsPlaysRow = true := by
  unfold joinedFacts
  exact andI (andI (andI (andI (andI (andI (andI (andI (andI (andI (andI (andI (andI (andI (andI (andI (andI (andI (andI (andI (andI (andI (andI (andI (andI (andI (andI (andI (andI (andI (andI ((by kernel_rfl)) fact_laidOut) fact_mapsRowed) (by kernel_rfl)) (by kernel_rfl)) (by kernel_rfl)) fact_stops) (by kernel_rfl)) fact_stopKnobs) c1) c2) c3) c4) (by kernel_rfl)) (by kernel_rfl)) (by kernel_rfl)) (by kernel_rfl)) (by kernel_rfl)) (by kernel_rfl)) (by kernel_rfl)) (by kernel_rfl)) (by kernel_rfl)) fact_plainKeys) (by kernel_rfl)) fact_stopsHeard) fact_mayEnter) fact_liftsFinal) fact_make) (by kernel_rfl)) (by kernel_rfl)) (by kernel_rfl)) (by kernel_rfl)
theorem over : Rows.cellsPlaysRow.holds Try.pinned (OpenSpec.ofChange Rows.cellsPlaysSpec) :=
  OpenClaim.holds_of_wide 22 Try.f22 rfl rfl rfl rfl rfl rfl rfl ⟨rfl, rfl, rfl, rfl, rfl⟩ rfl rfl rfl rfl rfl (by kernel_rfl) Try.func22 closed
    (of_decide_eq_true (by kernel_rfl)) (by unfold Func.isWrapper; first | (rw [if_pos (by decide +kernel)]; kernel_rfl) | (rw [if_neg (by decide +kernel)]; exact ⟨rfl, rfl⟩))
    (fun os started H enc _ => lifted os started H enc)

end Go.Proofs.Ytobmgnoceacoaaa.cellsPlays
namespace Go.Proofs.Ytobmgnoceacoaaa
theorem cellsPlays_holds : Rows.CellsPlaysSaid := cellsPlays.over
#print axioms cellsPlays_holds
end Go.Proofs.Ytobmgnoceacoaaa

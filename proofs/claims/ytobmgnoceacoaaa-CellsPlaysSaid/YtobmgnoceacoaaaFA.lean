/- Closed facts of the translation that every row of this seat asks (the light ones): each its own theorem, so that the kernel gives its memory back. -/
import Derived.Test.YtobmgnoceacoaaaRows
import Derived.JoinedOf
import Derived.KernelRfl
namespace Go.Proofs.Ytobmgnoceacoaaa
open Go
theorem fact_own : ownKnob Try.prog.godebug = none := by kernel_rfl
theorem fact_laidOut : laidOutB Try.prog = true := by kernel_rfl
theorem fact_mapsRowed : mapsRowed Try.prog = true := by kernel_rfl
theorem fact_stops : (Try.prog.stops == []) = true := by kernel_rfl
theorem fact_stopKnobs : (Try.prog.stopKnobs == []) = true := by kernel_rfl
theorem fact_stopsHeard : Try.prog.stopsHeard = true := by kernel_rfl
theorem fact_plainKeys : (true == Try.prog.plainKeys) = true := by kernel_rfl
theorem andI {a b : Bool} (h : a = true) (k : b = true) : (a && b) = true := by rw [h, k]; rfl
end Go.Proofs.Ytobmgnoceacoaaa

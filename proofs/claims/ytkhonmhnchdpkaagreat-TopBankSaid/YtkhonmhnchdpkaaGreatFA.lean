/- Closed facts of the translation that every row of this seat asks (the light ones): each its own theorem, so that the kernel gives its memory back. -/
import Derived.Test.YtkhonmhnchdpkaaGreatRows
import Derived.JoinedOf
import Derived.KernelRfl
namespace Go.Proofs.YtkhonmhnchdpkaaGreat
open Go
theorem fact_own : ownKnob Tryz.prog.godebug = none := by kernel_rfl
theorem fact_laidOut : laidOutB Tryz.prog = true := by kernel_rfl
theorem fact_mapsRowed : mapsRowed Tryz.prog = true := by kernel_rfl
theorem fact_stops : (Tryz.prog.stops == []) = true := by kernel_rfl
theorem fact_stopKnobs : (Tryz.prog.stopKnobs == []) = true := by kernel_rfl
theorem fact_stopsHeard : Tryz.prog.stopsHeard = true := by kernel_rfl
theorem fact_plainKeys : (true == Tryz.prog.plainKeys) = true := by kernel_rfl
theorem andI {a b : Bool} (h : a = true) (k : b = true) : (a && b) = true := by rw [h, k]; rfl
end Go.Proofs.YtkhonmhnchdpkaaGreat

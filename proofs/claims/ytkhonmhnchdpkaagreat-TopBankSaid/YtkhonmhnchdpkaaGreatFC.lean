/- Closed facts of the translation that every row of this seat asks (liftsFinal): each its own theorem, so that the kernel gives its memory back. -/
import Derived.Test.YtkhonmhnchdpkaaGreatRows
import Derived.JoinedOf
import Derived.KernelRfl
namespace Go.Proofs.YtkhonmhnchdpkaaGreat
open Go
theorem fact_liftsFinal : (false == Tryz.prog.liftsFinal) = true := by kernel_rfl
end Go.Proofs.YtkhonmhnchdpkaaGreat

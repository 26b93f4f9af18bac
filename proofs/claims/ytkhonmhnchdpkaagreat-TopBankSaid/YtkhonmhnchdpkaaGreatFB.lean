/- Closed facts of the translation that every row of this seat asks (mayEnter): each its own theorem, so that the kernel gives its memory back. -/
import Derived.Test.YtkhonmhnchdpkaaGreatRows
import Derived.JoinedOf
import Derived.KernelRfl
namespace Go.Proofs.YtkhonmhnchdpkaaGreat
open Go
theorem fact_mayEnter : Tryz.prog.mayEnter = true := by kernel_rfl
end Go.Proofs.YtkhonmhnchdpkaaGreat

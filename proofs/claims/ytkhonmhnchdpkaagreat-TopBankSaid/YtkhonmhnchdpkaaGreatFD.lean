/- Closed facts of the translation that every row of this seat asks (make): each its own theorem, so that the kernel gives its memory back. -/
import Derived.Test.YtkhonmhnchdpkaaGreatRows
import Derived.JoinedOf
import Derived.KernelRfl
namespace Go.Proofs.YtkhonmhnchdpkaaGreat
open Go
theorem fact_make : (Tryz.prog.make == some .cut) = true := by kernel_rfl
end Go.Proofs.YtkhonmhnchdpkaaGreat

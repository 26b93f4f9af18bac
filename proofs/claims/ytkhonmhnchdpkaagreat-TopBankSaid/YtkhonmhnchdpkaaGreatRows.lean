/-
  No cell of these rows narrows 'for every input' (looked for: loops, veiled, ifaces, maps, wideKeys, modest, calm, conditions, laid).
  DERIVED. THE GIVEN ROWS OF THIS SEAT. 4 by the template 'for every input the law returns true; each argument reads behind the call as it read before'; 0 by the template 'total and deterministic' (their statements: YtkhonmhnchdpkaaGreatTotals.lean).
  GIVEN WITH THE SEED: the statements are not yours to turn. If you find one false, say at which input.
  Laid BY PROGRAM, IN A SANDBOX (cutbox-rows.mjs): the forced cells as the released guide's own fill.sh prints them over the translation f0399553c2c3e95b… (all of the seat's roots in one cut). By AI agents, Wed Nov 11 2026. No macro, syntax, notation, axiom, sorry.
-/
import Derived.Test.YtkhonmhnchdpkaaGreatChecked
import GoSem.Claim
import GoSem.ClaimJoined
import GoSem.ClaimMapViews
import Derived.JoinedTies
import Derived.KernelRfl
namespace Go.Proofs.YtkhonmhnchdpkaaGreat
/- THE CELL 'sum', in the pinned program and in every row, IS THE sha256 OF THE DUMP (.gsa) THAT YtkhonmhnchdpkaaGreatProg.lean LOADS. Nothing in Lean hashes anything: it is a label: what it is worth is what the hold of that sum in a sandbox is worth. -/
noncomputable def Tryz.pinned : Pinned := { name := "ytkhonmhnchdpkaagreat", sum := "f0399553c2c3e95bda8e4603b7fbfc223c1aed6eb89aaeedc045fb6e87f1315a", checked := Tryz.checked }
namespace Rows
def none {H : Type} : Left H := { results := [], args := [] }

/-- 'beadletop.TopOpaque': WHATEVER THE INPUT: true; the input reads as it did. -/
def topOpaqueSpec : ChangeSpec := { name := "topOpaque", fn := fun _ => fun
  | [d1, d2] => { results := [.lit (.bool true)], args := [d1, d2] }
  | _ => none }
def topOpaqueRow : OpenClaim := { program := "ytkhonmhnchdpkaagreat", sum := "f0399553c2c3e95bda8e4603b7fbfc223c1aed6eb89aaeedc045fb6e87f1315a", func := "beadle/beadletop.TopOpaque", spec := "topOpaque", inPlace := ["math.Float64frombits", "math.Float64bits", "math.archTrunc", "math.archFloor", "math.sqrt"], unfollowed := true, recurses := true, apart := false }
def TopOpaqueSaid : Prop := topOpaqueRow.holds Tryz.pinned (OpenSpec.ofChange topOpaqueSpec)

/-- ITS FALSE NEIGHBOUR: 'it returns false'. Refute it at one input. -/
def topOpaqueWrong : ChangeSpec := { name := "topOpaque", fn := fun _ => fun
  | [d1, d2] => { results := [.lit (.bool false)], args := [d1, d2] }
  | _ => none }
def TopOpaqueWrongFalsely : Prop := topOpaqueRow.holds Tryz.pinned (OpenSpec.ofChange topOpaqueWrong)

/-- 'beadletop.TopRepeat': WHATEVER THE INPUT: true; the input reads as it did. -/
def topRepeatSpec : ChangeSpec := { name := "topRepeat", fn := fun _ => fun
  | [d1, d2] => { results := [.lit (.bool true)], args := [d1, d2] }
  | _ => none }
def topRepeatRow : OpenClaim := { program := "ytkhonmhnchdpkaagreat", sum := "f0399553c2c3e95bda8e4603b7fbfc223c1aed6eb89aaeedc045fb6e87f1315a", func := "beadle/beadletop.TopRepeat", spec := "topRepeat", inPlace := ["math.Float64frombits", "math.Float64bits", "math.archTrunc", "math.archFloor", "math.sqrt"], unfollowed := true, recurses := true, apart := false }
def TopRepeatSaid : Prop := topRepeatRow.holds Tryz.pinned (OpenSpec.ofChange topRepeatSpec)

/-- ITS FALSE NEIGHBOUR: 'it returns false'. Refute it at one input. -/
def topRepeatWrong : ChangeSpec := { name := "topRepeat", fn := fun _ => fun
  | [d1, d2] => { results := [.lit (.bool false)], args := [d1, d2] }
  | _ => none }
def TopRepeatWrongFalsely : Prop := topRepeatRow.holds Tryz.pinned (OpenSpec.ofChange topRepeatWrong)

/-- 'beadletop.TopStamps': WHATEVER THE INPUT: true; the input reads as it did. -/
def topStampsSpec : ChangeSpec := { name := "topStamps", fn := fun _ => fun
  | [d1, d2] => { results := [.lit (.bool true)], args := [d1, d2] }
  | _ => none }
def topStampsRow : OpenClaim := { program := "ytkhonmhnchdpkaagreat", sum := "f0399553c2c3e95bda8e4603b7fbfc223c1aed6eb89aaeedc045fb6e87f1315a", func := "beadle/beadletop.TopStamps", spec := "topStamps", inPlace := ["math.Float64frombits", "math.Float64bits", "math.archTrunc", "math.archFloor", "math.sqrt"], unfollowed := true, recurses := true, apart := false }
def TopStampsSaid : Prop := topStampsRow.holds Tryz.pinned (OpenSpec.ofChange topStampsSpec)

/-- ITS FALSE NEIGHBOUR: 'it returns false'. Refute it at one input. -/
def topStampsWrong : ChangeSpec := { name := "topStamps", fn := fun _ => fun
  | [d1, d2] => { results := [.lit (.bool false)], args := [d1, d2] }
  | _ => none }
def TopStampsWrongFalsely : Prop := topStampsRow.holds Tryz.pinned (OpenSpec.ofChange topStampsWrong)

/-- 'beadletop.TopBank': WHATEVER THE INPUT: true; the input reads as it did. -/
def topBankSpec : ChangeSpec := { name := "topBank", fn := fun _ => fun
  | [d1, d2, d3] => { results := [.lit (.bool true)], args := [d1, d2, d3] }
  | _ => none }
def topBankRow : OpenClaim := { program := "ytkhonmhnchdpkaagreat", sum := "f0399553c2c3e95bda8e4603b7fbfc223c1aed6eb89aaeedc045fb6e87f1315a", func := "beadle/beadletop.TopBank", spec := "topBank", inPlace := ["math.Float64frombits", "math.Float64bits", "math.archTrunc", "math.archFloor", "math.sqrt"], unfollowed := true, recurses := true, apart := false }
def TopBankSaid : Prop := topBankRow.holds Tryz.pinned (OpenSpec.ofChange topBankSpec)

/-- ITS FALSE NEIGHBOUR: 'it returns false'. Refute it at one input. -/
def topBankWrong : ChangeSpec := { name := "topBank", fn := fun _ => fun
  | [d1, d2, d3] => { results := [.lit (.bool false)], args := [d1, d2, d3] }
  | _ => none }
def TopBankWrongFalsely : Prop := topBankRow.holds Tryz.pinned (OpenSpec.ofChange topBankWrong)

/- THE SECOND FORM. 'bulk': how many values and letters a reading holds, each counted each time it is reached (what is shared counts as often as it is met; a slice's spare places count too). A statement '..UptoSaid' is the law's where the arguments, and the package variables that the reading takes, are together of bulk at most 1048576: NARROWER than '..Said'. Prove '..Said' where nothing that the law and all that it calls make is longer than what came in: it says more and counts as full. Else prove '..UptoSaid'. A law counts once. -/
mutual
def uptoBulk {H : Type} : DataW H → Nat
  | .lit (.string bytes) => bytes.length + 1
  | .lit _ => 1
  | .nil => 1
  | .ptr d => uptoBulk d + 1
  | .slice elems spare => uptoBulkAll elems + uptoBulkAll spare + 1
  | .agg parts => uptoBulkAll parts + 1
  | .iface _ d => uptoBulk d + 1
  | .map entries => uptoBulkEntries entries + 1
  | .held _ => 1
def uptoBulkAll {H : Type} : List (DataW H) → Nat
  | [] => 0
  | d :: r => uptoBulk d + uptoBulkAll r
def uptoBulkEntries {H : Type} : List (Lit × DataW H) → Nat
  | [] => 0
  | x :: r => uptoBulkEntry x + uptoBulkEntries r
def uptoBulkEntry {H : Type} : Lit × DataW H → Nat
  | (.string bytes, d) => bytes.length + uptoBulk d + 1
  | (_, d) => uptoBulk d + 1
 end
def uptoSmall : (H : Type) → List (DataW H) → Bool := fun _ ds => decide (uptoBulkAll ds ≤ 1048576)
def OpenSpec.upto (s : _root_.Go.ChangeSpec) : _root_.Go.OpenSpec := { _root_.Go.OpenSpec.ofChange s with cond := some uptoSmall }

/-- 'beadletop.TopOpaque', WHERE WHAT IT READS IS OF BULK AT MOST 1048576: true; the input reads as it did. -/
def topOpaqueUptoRow : OpenClaim := { program := "ytkhonmhnchdpkaagreat", sum := "f0399553c2c3e95bda8e4603b7fbfc223c1aed6eb89aaeedc045fb6e87f1315a", func := "beadle/beadletop.TopOpaque", spec := "topOpaque", inPlace := ["math.Float64frombits", "math.Float64bits", "math.archTrunc", "math.archFloor", "math.sqrt"], unfollowed := true, recurses := true, apart := false, narrowed := true }
def TopOpaqueUptoSaid : Prop := topOpaqueUptoRow.holds Tryz.pinned (OpenSpec.upto topOpaqueSpec)

/-- 'beadletop.TopRepeat', WHERE WHAT IT READS IS OF BULK AT MOST 1048576: true; the input reads as it did. -/
def topRepeatUptoRow : OpenClaim := { program := "ytkhonmhnchdpkaagreat", sum := "f0399553c2c3e95bda8e4603b7fbfc223c1aed6eb89aaeedc045fb6e87f1315a", func := "beadle/beadletop.TopRepeat", spec := "topRepeat", inPlace := ["math.Float64frombits", "math.Float64bits", "math.archTrunc", "math.archFloor", "math.sqrt"], unfollowed := true, recurses := true, apart := false, narrowed := true }
def TopRepeatUptoSaid : Prop := topRepeatUptoRow.holds Tryz.pinned (OpenSpec.upto topRepeatSpec)

/-- 'beadletop.TopStamps', WHERE WHAT IT READS IS OF BULK AT MOST 1048576: true; the input reads as it did. -/
def topStampsUptoRow : OpenClaim := { program := "ytkhonmhnchdpkaagreat", sum := "f0399553c2c3e95bda8e4603b7fbfc223c1aed6eb89aaeedc045fb6e87f1315a", func := "beadle/beadletop.TopStamps", spec := "topStamps", inPlace := ["math.Float64frombits", "math.Float64bits", "math.archTrunc", "math.archFloor", "math.sqrt"], unfollowed := true, recurses := true, apart := false, narrowed := true }
def TopStampsUptoSaid : Prop := topStampsUptoRow.holds Tryz.pinned (OpenSpec.upto topStampsSpec)

/-- 'beadletop.TopBank', WHERE WHAT IT READS IS OF BULK AT MOST 1048576: true; the input reads as it did. -/
def topBankUptoRow : OpenClaim := { program := "ytkhonmhnchdpkaagreat", sum := "f0399553c2c3e95bda8e4603b7fbfc223c1aed6eb89aaeedc045fb6e87f1315a", func := "beadle/beadletop.TopBank", spec := "topBank", inPlace := ["math.Float64frombits", "math.Float64bits", "math.archTrunc", "math.archFloor", "math.sqrt"], unfollowed := true, recurses := true, apart := false, narrowed := true }
def TopBankUptoSaid : Prop := topBankUptoRow.holds Tryz.pinned (OpenSpec.upto topBankSpec)

end Rows
end Go.Proofs.YtkhonmhnchdpkaaGreat

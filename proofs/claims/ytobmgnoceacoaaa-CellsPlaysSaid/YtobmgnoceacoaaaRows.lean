/-
  No cell of these rows narrows 'for every input' (looked for: loops, veiled, ifaces, maps, wideKeys, modest, calm, conditions, laid).
  DERIVED. THE GIVEN ROWS OF THIS SEAT. 20 by the template 'for every input the law returns true; each argument reads behind the call as it read before'; 0 by the template 'total and deterministic' (their statements: YtobmgnoceacoaaaTotals.lean).
  GIVEN WITH THE SEED: the statements are not yours to turn. If you find one false, say at which input.
  Laid BY PROGRAM, IN A SANDBOX (cutbox-rows.mjs): the forced cells as the released guide's own fill.sh prints them over the translation a2f672446411ae1f… (all of the seat's roots in one cut). By AI agents, Wed Nov 11 2026. No macro, syntax, notation, axiom, sorry.
-/
import Derived.Test.YtobmgnoceacoaaaChecked
import GoSem.Claim
import GoSem.ClaimJoined
import GoSem.ClaimMapViews
import Derived.JoinedTies
import Derived.KernelRfl
namespace Go.Proofs.Ytobmgnoceacoaaa
/- THE CELL 'sum', in the pinned program and in every row, IS THE sha256 OF THE DUMP (.gsa) THAT YtobmgnoceacoaaaProg.lean LOADS. Nothing in Lean hashes anything: it is a label: what it is worth is what the hold of that sum in a sandbox is worth. -/
noncomputable def Try.pinned : Pinned := { name := "ytobmgnoceacoaaa", sum := "a2f672446411ae1f28098050d528bd5999779ab29a738c616d061f46fcd8321e", checked := Try.checked }
namespace Rows
def none {H : Type} : Left H := { results := [], args := [] }

/-- 'beadlelaw03.MemNumbers': WHATEVER THE INPUT: true; the input reads as it did. -/
def memNumbersSpec : ChangeSpec := { name := "memNumbers", fn := fun _ => fun
  | [] => { results := [.lit (.bool true)], args := [] }
  | _ => none }
def memNumbersRow : OpenClaim := { program := "ytobmgnoceacoaaa", sum := "a2f672446411ae1f28098050d528bd5999779ab29a738c616d061f46fcd8321e", func := "beadle/beadlelaw03.MemNumbers", spec := "memNumbers", apart := false }
def MemNumbersSaid : Prop := memNumbersRow.holds Try.pinned (OpenSpec.ofChange memNumbersSpec)

/-- ITS FALSE NEIGHBOUR: 'it returns false'. Refute it at one input. -/
def memNumbersWrong : ChangeSpec := { name := "memNumbers", fn := fun _ => fun
  | [] => { results := [.lit (.bool false)], args := [] }
  | _ => none }
def MemNumbersWrongFalsely : Prop := memNumbersRow.holds Try.pinned (OpenSpec.ofChange memNumbersWrong)

/-- 'beadlelaw11.CellsNumbers': WHATEVER THE INPUT: true; the input reads as it did. -/
def cellsNumbersSpec : ChangeSpec := { name := "cellsNumbers", fn := fun _ => fun
  | [] => { results := [.lit (.bool true)], args := [] }
  | _ => none }
def cellsNumbersRow : OpenClaim := { program := "ytobmgnoceacoaaa", sum := "a2f672446411ae1f28098050d528bd5999779ab29a738c616d061f46fcd8321e", func := "beadle/beadlelaw11.CellsNumbers", spec := "cellsNumbers", apart := false }
def CellsNumbersSaid : Prop := cellsNumbersRow.holds Try.pinned (OpenSpec.ofChange cellsNumbersSpec)

/-- ITS FALSE NEIGHBOUR: 'it returns false'. Refute it at one input. -/
def cellsNumbersWrong : ChangeSpec := { name := "cellsNumbers", fn := fun _ => fun
  | [] => { results := [.lit (.bool false)], args := [] }
  | _ => none }
def CellsNumbersWrongFalsely : Prop := cellsNumbersRow.holds Try.pinned (OpenSpec.ofChange cellsNumbersWrong)

/-- 'beadlelaw03.MemFresh': WHATEVER THE INPUT: true; the input reads as it did. -/
def memFreshSpec : ChangeSpec := { name := "memFresh", fn := fun _ => fun
  | [d1, d2] => { results := [.lit (.bool true)], args := [d1, d2] }
  | _ => none }
def memFreshRow : OpenClaim := { program := "ytobmgnoceacoaaa", sum := "a2f672446411ae1f28098050d528bd5999779ab29a738c616d061f46fcd8321e", func := "beadle/beadlelaw03.MemFresh", spec := "memFresh", unfollowed := true, recurses := true, apart := false }
def MemFreshSaid : Prop := memFreshRow.holds Try.pinned (OpenSpec.ofChange memFreshSpec)

/-- ITS FALSE NEIGHBOUR: 'it returns false'. Refute it at one input. -/
def memFreshWrong : ChangeSpec := { name := "memFresh", fn := fun _ => fun
  | [d1, d2] => { results := [.lit (.bool false)], args := [d1, d2] }
  | _ => none }
def MemFreshWrongFalsely : Prop := memFreshRow.holds Try.pinned (OpenSpec.ofChange memFreshWrong)

/-- 'beadlelaw03.MemPlaces': WHATEVER THE INPUT: true; the input reads as it did. -/
def memPlacesSpec : ChangeSpec := { name := "memPlaces", fn := fun _ => fun
  | [d] => { results := [.lit (.bool true)], args := [d] }
  | _ => none }
def memPlacesRow : OpenClaim := { program := "ytobmgnoceacoaaa", sum := "a2f672446411ae1f28098050d528bd5999779ab29a738c616d061f46fcd8321e", func := "beadle/beadlelaw03.MemPlaces", spec := "memPlaces", unfollowed := true, recurses := true, apart := false }
def MemPlacesSaid : Prop := memPlacesRow.holds Try.pinned (OpenSpec.ofChange memPlacesSpec)

/-- ITS FALSE NEIGHBOUR: 'it returns false'. Refute it at one input. -/
def memPlacesWrong : ChangeSpec := { name := "memPlaces", fn := fun _ => fun
  | [d] => { results := [.lit (.bool false)], args := [d] }
  | _ => none }
def MemPlacesWrongFalsely : Prop := memPlacesRow.holds Try.pinned (OpenSpec.ofChange memPlacesWrong)

/-- 'beadlelaw03.MemDeals': WHATEVER THE INPUT: true; the input reads as it did. -/
def memDealsSpec : ChangeSpec := { name := "memDeals", fn := fun _ => fun
  | [d] => { results := [.lit (.bool true)], args := [d] }
  | _ => none }
def memDealsRow : OpenClaim := { program := "ytobmgnoceacoaaa", sum := "a2f672446411ae1f28098050d528bd5999779ab29a738c616d061f46fcd8321e", func := "beadle/beadlelaw03.MemDeals", spec := "memDeals", unfollowed := true, recurses := true, apart := false }
def MemDealsSaid : Prop := memDealsRow.holds Try.pinned (OpenSpec.ofChange memDealsSpec)

/-- ITS FALSE NEIGHBOUR: 'it returns false'. Refute it at one input. -/
def memDealsWrong : ChangeSpec := { name := "memDeals", fn := fun _ => fun
  | [d] => { results := [.lit (.bool false)], args := [d] }
  | _ => none }
def MemDealsWrongFalsely : Prop := memDealsRow.holds Try.pinned (OpenSpec.ofChange memDealsWrong)

/-- 'beadlelaw03.MemOne': WHATEVER THE INPUT: true; the input reads as it did. -/
def memOneSpec : ChangeSpec := { name := "memOne", fn := fun _ => fun
  | [d1, d2] => { results := [.lit (.bool true)], args := [d1, d2] }
  | _ => none }
def memOneRow : OpenClaim := { program := "ytobmgnoceacoaaa", sum := "a2f672446411ae1f28098050d528bd5999779ab29a738c616d061f46fcd8321e", func := "beadle/beadlelaw03.MemOne", spec := "memOne", unfollowed := true, recurses := true, apart := false }
def MemOneSaid : Prop := memOneRow.holds Try.pinned (OpenSpec.ofChange memOneSpec)

/-- ITS FALSE NEIGHBOUR: 'it returns false'. Refute it at one input. -/
def memOneWrong : ChangeSpec := { name := "memOne", fn := fun _ => fun
  | [d1, d2] => { results := [.lit (.bool false)], args := [d1, d2] }
  | _ => none }
def MemOneWrongFalsely : Prop := memOneRow.holds Try.pinned (OpenSpec.ofChange memOneWrong)

/-- 'beadlelaw03.MemPlays': WHATEVER THE INPUT: true; the input reads as it did. -/
def memPlaysSpec : ChangeSpec := { name := "memPlays", fn := fun _ => fun
  | [d1, d2] => { results := [.lit (.bool true)], args := [d1, d2] }
  | _ => none }
def memPlaysRow : OpenClaim := { program := "ytobmgnoceacoaaa", sum := "a2f672446411ae1f28098050d528bd5999779ab29a738c616d061f46fcd8321e", func := "beadle/beadlelaw03.MemPlays", spec := "memPlays", unfollowed := true, recurses := true, apart := false }
def MemPlaysSaid : Prop := memPlaysRow.holds Try.pinned (OpenSpec.ofChange memPlaysSpec)

/-- ITS FALSE NEIGHBOUR: 'it returns false'. Refute it at one input. -/
def memPlaysWrong : ChangeSpec := { name := "memPlays", fn := fun _ => fun
  | [d1, d2] => { results := [.lit (.bool false)], args := [d1, d2] }
  | _ => none }
def MemPlaysWrongFalsely : Prop := memPlaysRow.holds Try.pinned (OpenSpec.ofChange memPlaysWrong)

/-- 'beadlelaw12.TicketNumbers': WHATEVER THE INPUT: true; the input reads as it did. -/
def ticketNumbersSpec : ChangeSpec := { name := "ticketNumbers", fn := fun _ => fun
  | [] => { results := [.lit (.bool true)], args := [] }
  | _ => none }
def ticketNumbersRow : OpenClaim := { program := "ytobmgnoceacoaaa", sum := "a2f672446411ae1f28098050d528bd5999779ab29a738c616d061f46fcd8321e", func := "beadle/beadlelaw12.TicketNumbers", spec := "ticketNumbers", unfollowed := true, recurses := true, apart := false }
def TicketNumbersSaid : Prop := ticketNumbersRow.holds Try.pinned (OpenSpec.ofChange ticketNumbersSpec)

/-- ITS FALSE NEIGHBOUR: 'it returns false'. Refute it at one input. -/
def ticketNumbersWrong : ChangeSpec := { name := "ticketNumbers", fn := fun _ => fun
  | [] => { results := [.lit (.bool false)], args := [] }
  | _ => none }
def TicketNumbersWrongFalsely : Prop := ticketNumbersRow.holds Try.pinned (OpenSpec.ofChange ticketNumbersWrong)

/-- 'beadlelaw12.TicketTurns': WHATEVER THE INPUT: true; the input reads as it did. -/
def ticketTurnsSpec : ChangeSpec := { name := "ticketTurns", fn := fun _ => fun
  | [d] => { results := [.lit (.bool true)], args := [d] }
  | _ => none }
def ticketTurnsRow : OpenClaim := { program := "ytobmgnoceacoaaa", sum := "a2f672446411ae1f28098050d528bd5999779ab29a738c616d061f46fcd8321e", func := "beadle/beadlelaw12.TicketTurns", spec := "ticketTurns", unfollowed := true, recurses := true, apart := false }
def TicketTurnsSaid : Prop := ticketTurnsRow.holds Try.pinned (OpenSpec.ofChange ticketTurnsSpec)

/-- ITS FALSE NEIGHBOUR: 'it returns false'. Refute it at one input. -/
def ticketTurnsWrong : ChangeSpec := { name := "ticketTurns", fn := fun _ => fun
  | [d] => { results := [.lit (.bool false)], args := [d] }
  | _ => none }
def TicketTurnsWrongFalsely : Prop := ticketTurnsRow.holds Try.pinned (OpenSpec.ofChange ticketTurnsWrong)

/-- 'beadlelaw12.TicketPlays': WHATEVER THE INPUT: true; the input reads as it did. -/
def ticketPlaysSpec : ChangeSpec := { name := "ticketPlays", fn := fun _ => fun
  | [d1, d2] => { results := [.lit (.bool true)], args := [d1, d2] }
  | _ => none }
def ticketPlaysRow : OpenClaim := { program := "ytobmgnoceacoaaa", sum := "a2f672446411ae1f28098050d528bd5999779ab29a738c616d061f46fcd8321e", func := "beadle/beadlelaw12.TicketPlays", spec := "ticketPlays", unfollowed := true, recurses := true, apart := false }
def TicketPlaysSaid : Prop := ticketPlaysRow.holds Try.pinned (OpenSpec.ofChange ticketPlaysSpec)

/-- ITS FALSE NEIGHBOUR: 'it returns false'. Refute it at one input. -/
def ticketPlaysWrong : ChangeSpec := { name := "ticketPlays", fn := fun _ => fun
  | [d1, d2] => { results := [.lit (.bool false)], args := [d1, d2] }
  | _ => none }
def TicketPlaysWrongFalsely : Prop := ticketPlaysRow.holds Try.pinned (OpenSpec.ofChange ticketPlaysWrong)

/-- 'beadlelaw13.CensusNumbers': WHATEVER THE INPUT: true; the input reads as it did. -/
def censusNumbersSpec : ChangeSpec := { name := "censusNumbers", fn := fun _ => fun
  | [] => { results := [.lit (.bool true)], args := [] }
  | _ => none }
def censusNumbersRow : OpenClaim := { program := "ytobmgnoceacoaaa", sum := "a2f672446411ae1f28098050d528bd5999779ab29a738c616d061f46fcd8321e", func := "beadle/beadlelaw13.CensusNumbers", spec := "censusNumbers", unfollowed := true, recurses := true, apart := false }
def CensusNumbersSaid : Prop := censusNumbersRow.holds Try.pinned (OpenSpec.ofChange censusNumbersSpec)

/-- ITS FALSE NEIGHBOUR: 'it returns false'. Refute it at one input. -/
def censusNumbersWrong : ChangeSpec := { name := "censusNumbers", fn := fun _ => fun
  | [] => { results := [.lit (.bool false)], args := [] }
  | _ => none }
def CensusNumbersWrongFalsely : Prop := censusNumbersRow.holds Try.pinned (OpenSpec.ofChange censusNumbersWrong)

/-- 'beadlelaw13.CensusCost': WHATEVER THE INPUT: true; the input reads as it did. -/
def censusCostSpec : ChangeSpec := { name := "censusCost", fn := fun _ => fun
  | [d1, d2, d3] => { results := [.lit (.bool true)], args := [d1, d2, d3] }
  | _ => none }
def censusCostRow : OpenClaim := { program := "ytobmgnoceacoaaa", sum := "a2f672446411ae1f28098050d528bd5999779ab29a738c616d061f46fcd8321e", func := "beadle/beadlelaw13.CensusCost", spec := "censusCost", unfollowed := true, recurses := true, apart := false }
def CensusCostSaid : Prop := censusCostRow.holds Try.pinned (OpenSpec.ofChange censusCostSpec)

/-- ITS FALSE NEIGHBOUR: 'it returns false'. Refute it at one input. -/
def censusCostWrong : ChangeSpec := { name := "censusCost", fn := fun _ => fun
  | [d1, d2, d3] => { results := [.lit (.bool false)], args := [d1, d2, d3] }
  | _ => none }
def CensusCostWrongFalsely : Prop := censusCostRow.holds Try.pinned (OpenSpec.ofChange censusCostWrong)

/-- 'beadlelaw13.CensusGuards': WHATEVER THE INPUT: true; the input reads as it did. -/
def censusGuardsSpec : ChangeSpec := { name := "censusGuards", fn := fun _ => fun
  | [d] => { results := [.lit (.bool true)], args := [d] }
  | _ => none }
def censusGuardsRow : OpenClaim := { program := "ytobmgnoceacoaaa", sum := "a2f672446411ae1f28098050d528bd5999779ab29a738c616d061f46fcd8321e", func := "beadle/beadlelaw13.CensusGuards", spec := "censusGuards", unfollowed := true, recurses := true, apart := false }
def CensusGuardsSaid : Prop := censusGuardsRow.holds Try.pinned (OpenSpec.ofChange censusGuardsSpec)

/-- ITS FALSE NEIGHBOUR: 'it returns false'. Refute it at one input. -/
def censusGuardsWrong : ChangeSpec := { name := "censusGuards", fn := fun _ => fun
  | [d] => { results := [.lit (.bool false)], args := [d] }
  | _ => none }
def CensusGuardsWrongFalsely : Prop := censusGuardsRow.holds Try.pinned (OpenSpec.ofChange censusGuardsWrong)

/-- 'beadlelaw13.CensusFree': WHATEVER THE INPUT: true; the input reads as it did. -/
def censusFreeSpec : ChangeSpec := { name := "censusFree", fn := fun _ => fun
  | [d] => { results := [.lit (.bool true)], args := [d] }
  | _ => none }
def censusFreeRow : OpenClaim := { program := "ytobmgnoceacoaaa", sum := "a2f672446411ae1f28098050d528bd5999779ab29a738c616d061f46fcd8321e", func := "beadle/beadlelaw13.CensusFree", spec := "censusFree", unfollowed := true, recurses := true, apart := false }
def CensusFreeSaid : Prop := censusFreeRow.holds Try.pinned (OpenSpec.ofChange censusFreeSpec)

/-- ITS FALSE NEIGHBOUR: 'it returns false'. Refute it at one input. -/
def censusFreeWrong : ChangeSpec := { name := "censusFree", fn := fun _ => fun
  | [d] => { results := [.lit (.bool false)], args := [d] }
  | _ => none }
def CensusFreeWrongFalsely : Prop := censusFreeRow.holds Try.pinned (OpenSpec.ofChange censusFreeWrong)

/-- 'beadlelaw13.CensusPlays': WHATEVER THE INPUT: true; the input reads as it did. -/
def censusPlaysSpec : ChangeSpec := { name := "censusPlays", fn := fun _ => fun
  | [d1, d2] => { results := [.lit (.bool true)], args := [d1, d2] }
  | _ => none }
def censusPlaysRow : OpenClaim := { program := "ytobmgnoceacoaaa", sum := "a2f672446411ae1f28098050d528bd5999779ab29a738c616d061f46fcd8321e", func := "beadle/beadlelaw13.CensusPlays", spec := "censusPlays", unfollowed := true, recurses := true, apart := false }
def CensusPlaysSaid : Prop := censusPlaysRow.holds Try.pinned (OpenSpec.ofChange censusPlaysSpec)

/-- ITS FALSE NEIGHBOUR: 'it returns false'. Refute it at one input. -/
def censusPlaysWrong : ChangeSpec := { name := "censusPlays", fn := fun _ => fun
  | [d1, d2] => { results := [.lit (.bool false)], args := [d1, d2] }
  | _ => none }
def CensusPlaysWrongFalsely : Prop := censusPlaysRow.holds Try.pinned (OpenSpec.ofChange censusPlaysWrong)

/-- 'beadlelaw11.CellsWhole': WHATEVER THE INPUT: true; the input reads as it did. -/
def cellsWholeSpec : ChangeSpec := { name := "cellsWhole", fn := fun _ => fun
  | [d] => { results := [.lit (.bool true)], args := [d] }
  | _ => none }
def cellsWholeRow : OpenClaim := { program := "ytobmgnoceacoaaa", sum := "a2f672446411ae1f28098050d528bd5999779ab29a738c616d061f46fcd8321e", func := "beadle/beadlelaw11.CellsWhole", spec := "cellsWhole", inPlace := ["math.Float64frombits", "math.Float64bits"], unfollowed := true, recurses := true, apart := false }
def CellsWholeSaid : Prop := cellsWholeRow.holds Try.pinned (OpenSpec.ofChange cellsWholeSpec)

/-- ITS FALSE NEIGHBOUR: 'it returns false'. Refute it at one input. -/
def cellsWholeWrong : ChangeSpec := { name := "cellsWhole", fn := fun _ => fun
  | [d] => { results := [.lit (.bool false)], args := [d] }
  | _ => none }
def CellsWholeWrongFalsely : Prop := cellsWholeRow.holds Try.pinned (OpenSpec.ofChange cellsWholeWrong)

/-- 'beadlelaw11.CellsCost': WHATEVER THE INPUT: true; the input reads as it did. -/
def cellsCostSpec : ChangeSpec := { name := "cellsCost", fn := fun _ => fun
  | [d] => { results := [.lit (.bool true)], args := [d] }
  | _ => none }
def cellsCostRow : OpenClaim := { program := "ytobmgnoceacoaaa", sum := "a2f672446411ae1f28098050d528bd5999779ab29a738c616d061f46fcd8321e", func := "beadle/beadlelaw11.CellsCost", spec := "cellsCost", inPlace := ["math.Float64frombits", "math.Float64bits"], unfollowed := true, recurses := true, apart := false }
def CellsCostSaid : Prop := cellsCostRow.holds Try.pinned (OpenSpec.ofChange cellsCostSpec)

/-- ITS FALSE NEIGHBOUR: 'it returns false'. Refute it at one input. -/
def cellsCostWrong : ChangeSpec := { name := "cellsCost", fn := fun _ => fun
  | [d] => { results := [.lit (.bool false)], args := [d] }
  | _ => none }
def CellsCostWrongFalsely : Prop := cellsCostRow.holds Try.pinned (OpenSpec.ofChange cellsCostWrong)

/-- 'beadlelaw11.CellsAts': WHATEVER THE INPUT: true; the input reads as it did. -/
def cellsAtsSpec : ChangeSpec := { name := "cellsAts", fn := fun _ => fun
  | [d1, d2] => { results := [.lit (.bool true)], args := [d1, d2] }
  | _ => none }
def cellsAtsRow : OpenClaim := { program := "ytobmgnoceacoaaa", sum := "a2f672446411ae1f28098050d528bd5999779ab29a738c616d061f46fcd8321e", func := "beadle/beadlelaw11.CellsAts", spec := "cellsAts", inPlace := ["math.Float64frombits", "math.Float64bits"], unfollowed := true, recurses := true, apart := false }
def CellsAtsSaid : Prop := cellsAtsRow.holds Try.pinned (OpenSpec.ofChange cellsAtsSpec)

/-- ITS FALSE NEIGHBOUR: 'it returns false'. Refute it at one input. -/
def cellsAtsWrong : ChangeSpec := { name := "cellsAts", fn := fun _ => fun
  | [d1, d2] => { results := [.lit (.bool false)], args := [d1, d2] }
  | _ => none }
def CellsAtsWrongFalsely : Prop := cellsAtsRow.holds Try.pinned (OpenSpec.ofChange cellsAtsWrong)

/-- 'beadlelaw11.CellsQuiet': WHATEVER THE INPUT: true; the input reads as it did. -/
def cellsQuietSpec : ChangeSpec := { name := "cellsQuiet", fn := fun _ => fun
  | [d1, d2] => { results := [.lit (.bool true)], args := [d1, d2] }
  | _ => none }
def cellsQuietRow : OpenClaim := { program := "ytobmgnoceacoaaa", sum := "a2f672446411ae1f28098050d528bd5999779ab29a738c616d061f46fcd8321e", func := "beadle/beadlelaw11.CellsQuiet", spec := "cellsQuiet", inPlace := ["math.Float64frombits", "math.Float64bits"], unfollowed := true, recurses := true, apart := false }
def CellsQuietSaid : Prop := cellsQuietRow.holds Try.pinned (OpenSpec.ofChange cellsQuietSpec)

/-- ITS FALSE NEIGHBOUR: 'it returns false'. Refute it at one input. -/
def cellsQuietWrong : ChangeSpec := { name := "cellsQuiet", fn := fun _ => fun
  | [d1, d2] => { results := [.lit (.bool false)], args := [d1, d2] }
  | _ => none }
def CellsQuietWrongFalsely : Prop := cellsQuietRow.holds Try.pinned (OpenSpec.ofChange cellsQuietWrong)

/-- 'beadlelaw11.CellsPlays': WHATEVER THE INPUT: true; the input reads as it did. -/
def cellsPlaysSpec : ChangeSpec := { name := "cellsPlays", fn := fun _ => fun
  | [d1, d2] => { results := [.lit (.bool true)], args := [d1, d2] }
  | _ => none }
def cellsPlaysRow : OpenClaim := { program := "ytobmgnoceacoaaa", sum := "a2f672446411ae1f28098050d528bd5999779ab29a738c616d061f46fcd8321e", func := "beadle/beadlelaw11.CellsPlays", spec := "cellsPlays", inPlace := ["math.Float64frombits", "math.Float64bits"], unfollowed := true, recurses := true, apart := false }
def CellsPlaysSaid : Prop := cellsPlaysRow.holds Try.pinned (OpenSpec.ofChange cellsPlaysSpec)

/-- ITS FALSE NEIGHBOUR: 'it returns false'. Refute it at one input. -/
def cellsPlaysWrong : ChangeSpec := { name := "cellsPlays", fn := fun _ => fun
  | [d1, d2] => { results := [.lit (.bool false)], args := [d1, d2] }
  | _ => none }
def CellsPlaysWrongFalsely : Prop := cellsPlaysRow.holds Try.pinned (OpenSpec.ofChange cellsPlaysWrong)

/- THE SECOND FORM. 'bulk': how many values and letters a reading holds, each counted each time it is reached (what is shared counts as often as it is met; a slice's spare places count too). A statement '..UptoSaid' is the law's where the arguments, and the package variables that the reading takes, are together of bulk at most 1048576: NARROWER than '..Said'. Prove '..Said' where nothing that the law and all that it calls make is longer than what came in: it says more and counts as full. Else prove '..UptoSaid'. A law counts once. -/
mutual
def uptoBulk {H : Type} : DataW H → Nat
  | .lit (.string bytes) => bytes.length + 1
  | .lit _ => 1
  | .nil => 1
  | .ptr d => uptoBulk d + 1
  | .slice elems spare => uptoBulkAll elems + uptoBulkAll spare + 1
  | .agg parts => uptoBulkAll parts + 1
  | .iface _ d => uptoBulk d + 1
  | .map entries => uptoBulkEntries entries + 1
  | .held _ => 1
def uptoBulkAll {H : Type} : List (DataW H) → Nat
  | [] => 0
  | d :: r => uptoBulk d + uptoBulkAll r
def uptoBulkEntries {H : Type} : List (Lit × DataW H) → Nat
  | [] => 0
  | x :: r => uptoBulkEntry x + uptoBulkEntries r
def uptoBulkEntry {H : Type} : Lit × DataW H → Nat
  | (.string bytes, d) => bytes.length + uptoBulk d + 1
  | (_, d) => uptoBulk d + 1
 end
def uptoSmall : (H : Type) → List (DataW H) → Bool := fun _ ds => decide (uptoBulkAll ds ≤ 1048576)
def OpenSpec.upto (s : _root_.Go.ChangeSpec) : _root_.Go.OpenSpec := { _root_.Go.OpenSpec.ofChange s with cond := some uptoSmall }

/-- 'beadlelaw03.MemNumbers', WHERE WHAT IT READS IS OF BULK AT MOST 1048576: true; the input reads as it did. -/
def memNumbersUptoRow : OpenClaim := { program := "ytobmgnoceacoaaa", sum := "a2f672446411ae1f28098050d528bd5999779ab29a738c616d061f46fcd8321e", func := "beadle/beadlelaw03.MemNumbers", spec := "memNumbers", apart := false, narrowed := true }
def MemNumbersUptoSaid : Prop := memNumbersUptoRow.holds Try.pinned (OpenSpec.upto memNumbersSpec)

/-- 'beadlelaw11.CellsNumbers', WHERE WHAT IT READS IS OF BULK AT MOST 1048576: true; the input reads as it did. -/
def cellsNumbersUptoRow : OpenClaim := { program := "ytobmgnoceacoaaa", sum := "a2f672446411ae1f28098050d528bd5999779ab29a738c616d061f46fcd8321e", func := "beadle/beadlelaw11.CellsNumbers", spec := "cellsNumbers", apart := false, narrowed := true }
def CellsNumbersUptoSaid : Prop := cellsNumbersUptoRow.holds Try.pinned (OpenSpec.upto cellsNumbersSpec)

/-- 'beadlelaw03.MemFresh', WHERE WHAT IT READS IS OF BULK AT MOST 1048576: true; the input reads as it did. -/
def memFreshUptoRow : OpenClaim := { program := "ytobmgnoceacoaaa", sum := "a2f672446411ae1f28098050d528bd5999779ab29a738c616d061f46fcd8321e", func := "beadle/beadlelaw03.MemFresh", spec := "memFresh", unfollowed := true, recurses := true, apart := false, narrowed := true }
def MemFreshUptoSaid : Prop := memFreshUptoRow.holds Try.pinned (OpenSpec.upto memFreshSpec)

/-- 'beadlelaw03.MemPlaces', WHERE WHAT IT READS IS OF BULK AT MOST 1048576: true; the input reads as it did. -/
def memPlacesUptoRow : OpenClaim := { program := "ytobmgnoceacoaaa", sum := "a2f672446411ae1f28098050d528bd5999779ab29a738c616d061f46fcd8321e", func := "beadle/beadlelaw03.MemPlaces", spec := "memPlaces", unfollowed := true, recurses := true, apart := false, narrowed := true }
def MemPlacesUptoSaid : Prop := memPlacesUptoRow.holds Try.pinned (OpenSpec.upto memPlacesSpec)

/-- 'beadlelaw03.MemDeals', WHERE WHAT IT READS IS OF BULK AT MOST 1048576: true; the input reads as it did. -/
def memDealsUptoRow : OpenClaim := { program := "ytobmgnoceacoaaa", sum := "a2f672446411ae1f28098050d528bd5999779ab29a738c616d061f46fcd8321e", func := "beadle/beadlelaw03.MemDeals", spec := "memDeals", unfollowed := true, recurses := true, apart := false, narrowed := true }
def MemDealsUptoSaid : Prop := memDealsUptoRow.holds Try.pinned (OpenSpec.upto memDealsSpec)

/-- 'beadlelaw03.MemOne', WHERE WHAT IT READS IS OF BULK AT MOST 1048576: true; the input reads as it did. -/
def memOneUptoRow : OpenClaim := { program := "ytobmgnoceacoaaa", sum := "a2f672446411ae1f28098050d528bd5999779ab29a738c616d061f46fcd8321e", func := "beadle/beadlelaw03.MemOne", spec := "memOne", unfollowed := true, recurses := true, apart := false, narrowed := true }
def MemOneUptoSaid : Prop := memOneUptoRow.holds Try.pinned (OpenSpec.upto memOneSpec)

/-- 'beadlelaw03.MemPlays', WHERE WHAT IT READS IS OF BULK AT MOST 1048576: true; the input reads as it did. -/
def memPlaysUptoRow : OpenClaim := { program := "ytobmgnoceacoaaa", sum := "a2f672446411ae1f28098050d528bd5999779ab29a738c616d061f46fcd8321e", func := "beadle/beadlelaw03.MemPlays", spec := "memPlays", unfollowed := true, recurses := true, apart := false, narrowed := true }
def MemPlaysUptoSaid : Prop := memPlaysUptoRow.holds Try.pinned (OpenSpec.upto memPlaysSpec)

/-- 'beadlelaw12.TicketNumbers', WHERE WHAT IT READS IS OF BULK AT MOST 1048576: true; the input reads as it did. -/
def ticketNumbersUptoRow : OpenClaim := { program := "ytobmgnoceacoaaa", sum := "a2f672446411ae1f28098050d528bd5999779ab29a738c616d061f46fcd8321e", func := "beadle/beadlelaw12.TicketNumbers", spec := "ticketNumbers", unfollowed := true, recurses := true, apart := false, narrowed := true }
def TicketNumbersUptoSaid : Prop := ticketNumbersUptoRow.holds Try.pinned (OpenSpec.upto ticketNumbersSpec)

/-- 'beadlelaw12.TicketTurns', WHERE WHAT IT READS IS OF BULK AT MOST 1048576: true; the input reads as it did. -/
def ticketTurnsUptoRow : OpenClaim := { program := "ytobmgnoceacoaaa", sum := "a2f672446411ae1f28098050d528bd5999779ab29a738c616d061f46fcd8321e", func := "beadle/beadlelaw12.TicketTurns", spec := "ticketTurns", unfollowed := true, recurses := true, apart := false, narrowed := true }
def TicketTurnsUptoSaid : Prop := ticketTurnsUptoRow.holds Try.pinned (OpenSpec.upto ticketTurnsSpec)

/-- 'beadlelaw12.TicketPlays', WHERE WHAT IT READS IS OF BULK AT MOST 1048576: true; the input reads as it did. -/
def ticketPlaysUptoRow : OpenClaim := { program := "ytobmgnoceacoaaa", sum := "a2f672446411ae1f28098050d528bd5999779ab29a738c616d061f46fcd8321e", func := "beadle/beadlelaw12.TicketPlays", spec := "ticketPlays", unfollowed := true, recurses := true, apart := false, narrowed := true }
def TicketPlaysUptoSaid : Prop := ticketPlaysUptoRow.holds Try.pinned (OpenSpec.upto ticketPlaysSpec)

/-- 'beadlelaw13.CensusNumbers', WHERE WHAT IT READS IS OF BULK AT MOST 1048576: true; the input reads as it did. -/
def censusNumbersUptoRow : OpenClaim := { program := "ytobmgnoceacoaaa", sum := "a2f672446411ae1f28098050d528bd5999779ab29a738c616d061f46fcd8321e", func := "beadle/beadlelaw13.CensusNumbers", spec := "censusNumbers", unfollowed := true, recurses := true, apart := false, narrowed := true }
def CensusNumbersUptoSaid : Prop := censusNumbersUptoRow.holds Try.pinned (OpenSpec.upto censusNumbersSpec)

/-- 'beadlelaw13.CensusCost', WHERE WHAT IT READS IS OF BULK AT MOST 1048576: true; the input reads as it did. -/
def censusCostUptoRow : OpenClaim := { program := "ytobmgnoceacoaaa", sum := "a2f672446411ae1f28098050d528bd5999779ab29a738c616d061f46fcd8321e", func := "beadle/beadlelaw13.CensusCost", spec := "censusCost", unfollowed := true, recurses := true, apart := false, narrowed := true }
def CensusCostUptoSaid : Prop := censusCostUptoRow.holds Try.pinned (OpenSpec.upto censusCostSpec)

/-- 'beadlelaw13.CensusGuards', WHERE WHAT IT READS IS OF BULK AT MOST 1048576: true; the input reads as it did. -/
def censusGuardsUptoRow : OpenClaim := { program := "ytobmgnoceacoaaa", sum := "a2f672446411ae1f28098050d528bd5999779ab29a738c616d061f46fcd8321e", func := "beadle/beadlelaw13.CensusGuards", spec := "censusGuards", unfollowed := true, recurses := true, apart := false, narrowed := true }
def CensusGuardsUptoSaid : Prop := censusGuardsUptoRow.holds Try.pinned (OpenSpec.upto censusGuardsSpec)

/-- 'beadlelaw13.CensusFree', WHERE WHAT IT READS IS OF BULK AT MOST 1048576: true; the input reads as it did. -/
def censusFreeUptoRow : OpenClaim := { program := "ytobmgnoceacoaaa", sum := "a2f672446411ae1f28098050d528bd5999779ab29a738c616d061f46fcd8321e", func := "beadle/beadlelaw13.CensusFree", spec := "censusFree", unfollowed := true, recurses := true, apart := false, narrowed := true }
def CensusFreeUptoSaid : Prop := censusFreeUptoRow.holds Try.pinned (OpenSpec.upto censusFreeSpec)

/-- 'beadlelaw13.CensusPlays', WHERE WHAT IT READS IS OF BULK AT MOST 1048576: true; the input reads as it did. -/
def censusPlaysUptoRow : OpenClaim := { program := "ytobmgnoceacoaaa", sum := "a2f672446411ae1f28098050d528bd5999779ab29a738c616d061f46fcd8321e", func := "beadle/beadlelaw13.CensusPlays", spec := "censusPlays", unfollowed := true, recurses := true, apart := false, narrowed := true }
def CensusPlaysUptoSaid : Prop := censusPlaysUptoRow.holds Try.pinned (OpenSpec.upto censusPlaysSpec)

/-- 'beadlelaw11.CellsWhole', WHERE WHAT IT READS IS OF BULK AT MOST 1048576: true; the input reads as it did. -/
def cellsWholeUptoRow : OpenClaim := { program := "ytobmgnoceacoaaa", sum := "a2f672446411ae1f28098050d528bd5999779ab29a738c616d061f46fcd8321e", func := "beadle/beadlelaw11.CellsWhole", spec := "cellsWhole", inPlace := ["math.Float64frombits", "math.Float64bits"], unfollowed := true, recurses := true, apart := false, narrowed := true }
def CellsWholeUptoSaid : Prop := cellsWholeUptoRow.holds Try.pinned (OpenSpec.upto cellsWholeSpec)

/-- 'beadlelaw11.CellsCost', WHERE WHAT IT READS IS OF BULK AT MOST 1048576: true; the input reads as it did. -/
def cellsCostUptoRow : OpenClaim := { program := "ytobmgnoceacoaaa", sum := "a2f672446411ae1f28098050d528bd5999779ab29a738c616d061f46fcd8321e", func := "beadle/beadlelaw11.CellsCost", spec := "cellsCost", inPlace := ["math.Float64frombits", "math.Float64bits"], unfollowed := true, recurses := true, apart := false, narrowed := true }
def CellsCostUptoSaid : Prop := cellsCostUptoRow.holds Try.pinned (OpenSpec.upto cellsCostSpec)

/-- 'beadlelaw11.CellsAts', WHERE WHAT IT READS IS OF BULK AT MOST 1048576: true; the input reads as it did. -/
def cellsAtsUptoRow : OpenClaim := { program := "ytobmgnoceacoaaa", sum := "a2f672446411ae1f28098050d528bd5999779ab29a738c616d061f46fcd8321e", func := "beadle/beadlelaw11.CellsAts", spec := "cellsAts", inPlace := ["math.Float64frombits", "math.Float64bits"], unfollowed := true, recurses := true, apart := false, narrowed := true }
def CellsAtsUptoSaid : Prop := cellsAtsUptoRow.holds Try.pinned (OpenSpec.upto cellsAtsSpec)

/-- 'beadlelaw11.CellsQuiet', WHERE WHAT IT READS IS OF BULK AT MOST 1048576: true; the input reads as it did. -/
def cellsQuietUptoRow : OpenClaim := { program := "ytobmgnoceacoaaa", sum := "a2f672446411ae1f28098050d528bd5999779ab29a738c616d061f46fcd8321e", func := "beadle/beadlelaw11.CellsQuiet", spec := "cellsQuiet", inPlace := ["math.Float64frombits", "math.Float64bits"], unfollowed := true, recurses := true, apart := false, narrowed := true }
def CellsQuietUptoSaid : Prop := cellsQuietUptoRow.holds Try.pinned (OpenSpec.upto cellsQuietSpec)

/-- 'beadlelaw11.CellsPlays', WHERE WHAT IT READS IS OF BULK AT MOST 1048576: true; the input reads as it did. -/
def cellsPlaysUptoRow : OpenClaim := { program := "ytobmgnoceacoaaa", sum := "a2f672446411ae1f28098050d528bd5999779ab29a738c616d061f46fcd8321e", func := "beadle/beadlelaw11.CellsPlays", spec := "cellsPlays", inPlace := ["math.Float64frombits", "math.Float64bits"], unfollowed := true, recurses := true, apart := false, narrowed := true }
def CellsPlaysUptoSaid : Prop := cellsPlaysUptoRow.holds Try.pinned (OpenSpec.upto cellsPlaysSpec)

end Rows
end Go.Proofs.Ytobmgnoceacoaaa

/- CellsPlays: a step of a script. -/
import Derived.Test.YtobmgnoceacoaaaYM
import Derived.Test.YtobmgnoceacoaaaYN
import Derived.Deep.QuietTactic
import Derived.BigQuiet
import Derived.Deep.DeepCutAuto
import Derived.Deep.CutBlock
import Derived.Deep.RegionHeld3
import Derived.StillTailTactics
import Derived.IntWalk
namespace Go.Proofs.Ytobmgnoceacoaaa
open Go.RowKit
attribute [local go_sem] run_store_float

variable {w0 w w1 w' : World} {lab lab' : Nat → Nat} {x a b c d k g n : Nat} {r0 r1 d0 d1 u0 u1 e0 e1 v : Value} {s t s' : MemS} {R0 R1 : Option RdS} {D0 D1 : Option (RdS × List Int)} {U0 U1 E0 E1 : Option WrS} {r r' : RdS} {q q' : WrS} {u : Value} {L L' : List Int} {kr : Nat}
theorem step11 (h : W11 w0 w lab x a b c d r0 r1 d0 d1 u0 u1 e0 e1 s s R0 R1 D0 D1 U0 U1 E0 E1) (c0 : CplR R0 D0) (c1 : CplR R1 D1) (c2 : CplW U0 E0) (c3 : CplW U1 E1) (y : Int) (ii ce cl vv xx yy : Int) (la : Option Addr) (ln lc : Nat) (zs : List Int) (hN : NumsN w0 .u64 la ln zs) (hln : ln ≤ 17592186044415) :
    Calls Try.prog 88 #[.pointer (some ⟨x, 0, none⟩), .agg #[.int .i64 y, .int .i64 ii, .int .i64 ce, .int .i64 cl, .int .u64 vv, .int .u64 xx, .int .u64 yy, .slice la ln lc]] w (Kept11 w0 x a b c d) := by
  by_cases h1 : y = 1
  · subst h1; exact step11_1 h c0 c1 c2 c3 ii ce cl vv xx yy la ln lc
  by_cases h2 : y = 2
  · subst h2; exact step11_2 h c0 c1 c2 c3 ii ce cl vv xx yy la ln lc zs hN hln
  by_cases h3 : y = 3
  · subst h3; exact step11_3 h c0 c1 c2 c3 ii ce cl vv xx yy la ln lc
  by_cases h4 : y = 4
  · subst h4; exact step11_4 h c0 c1 c2 c3 ii ce cl vv xx yy la ln lc
  by_cases h5 : y = 5
  · subst h5; exact step11_5 h c0 c1 c2 c3 ii ce cl vv xx yy la ln lc
  by_cases h6 : y = 6
  · subst h6; exact step11_6 h c0 c1 c2 c3 ii ce cl vv xx yy la ln lc
  by_cases h7 : y = 7
  · subst h7; exact step11_7 h c0 c1 c2 c3 ii ce cl vv xx yy la ln lc
  by_cases h8 : y = 8
  · subst h8; exact step11_8 h c0 c1 c2 c3 ii ce cl vv xx yy la ln lc
  by_cases h9 : y = 9
  · subst h9; exact step11_9 h c0 c1 c2 c3 ii ce cl vv xx yy la ln lc
  by_cases h10 : y = 10
  · subst h10; exact step11_10 h c0 c1 c2 c3 ii ce cl vv xx yy la ln lc
  exact step11_0 h c0 c1 c2 c3 y ii ce cl vv xx yy la ln lc (by simp [h1]) (by simp [h2]) (by simp [h3]) (by simp [h4]) (by simp [h5]) (by simp [h6]) (by simp [h7]) (by simp [h8]) (by simp [h9]) (by simp [h10])

end Go.Proofs.Ytobmgnoceacoaaa

/- Comings and scans as pure things; a step of each in the program and in the reference. -/
import Derived.Test.YtobmgnoceacoaaaCS
import Derived.Test.YtobmgnoceacoaaaCN
namespace Go.Proofs.Ytobmgnoceacoaaa
open Go.RowKit

/-- A coming. -/
structure ComS where
  (p0 p1 p2 p3 p4 p5 th n cl st : Int)
deriving DecidableEq
def ComS.arr (c : ComS) : Array Value := #[.int .i64 c.p0, .int .i64 c.p1, .int .i64 c.p2, .int .i64 c.p3, .int .i64 c.p4, .int .i64 c.p5, .int .i64 c.th, .int .i64 c.n, .int .u64 c.cl, .int .u64 c.st]
structure ComS.Inv (c : ComS) : Prop where
  lo : 0 ≤ c.n
  hi : c.n ≤ 3
  cl : c.n = 0 → c.cl = 0
  st : c.n ≠ 3 → c.st = 0
def ComS.err (c : ComS) (s : MemS) : Int := if c.n = 3 then 3 else if c.th < 0 ∨ 8 ≤ c.th then 100 else if c.n = 1 then s.leaveE c.p3 c.th else s.acc c.p2
def ComS.mem (c : ComS) (s : MemS) : MemS := if c.n = 3 then s else if c.th < 0 ∨ 8 ≤ c.th then s else if c.n = 1 then (if plErr c.p3 c.th = 0 then s.store (c.p3 + c.th) (IntKind.u64.wrap (c.cl + 1)) else s) else s.load c.p2
def ComS.over (c : ComS) (s : MemS) : Bool := decide (c.n = 2 ∧ c.err s = 0)
def ComS.next (c : ComS) (s : MemS) : ComS := if c.err s ≠ 0 then c else if c.n = 0 then { c with n := 1, cl := s.got c.p2 } else if c.n = 1 then { c with n := 2 } else { c with n := 3, st := s.got c.p2 }

theorem ComS.next_inv {c : ComS} (h : c.Inv) (s : MemS) : (c.next s).Inv := by
  unfold ComS.next
  split
  · exact h
  · split
    · rename_i h0
      exact ⟨by simp, by simp, by simp, fun _ => h.st (by omega)⟩
    · split
      · rename_i h1
        exact ⟨by simp, by simp, by simp, fun _ => h.st (by omega)⟩
      · exact ⟨by simp, by simp, by simp, by simp⟩

theorem plErr_of_th {p3 th : Int} (h : ¬ (th < 0 ∨ 8 ≤ th)) : (plErr p3 th == 100) = false := by
  rcases plErr_cases p3 th with ⟨h1, _⟩ | ⟨_, _, _, e⟩ | ⟨_, _, _, _, e⟩
  · exact absurd h1 h
  · simp [e]
  · simp [e]

set_option maxHeartbeats 1000000 in
theorem comStep_c {a b k : Nat} {s : MemS} {w : World} (hM : MemAt 142 w a b s) (c : ComS) (hi : c.Inv) (hk : w.heap[k]? = some (.cells c.arr 160 (0, 0))) :
    Calls Try.prog 57 #[.pointer (some ⟨k, 0, none⟩), .pointer (some ⟨a, 0, none⟩)] w fun e w' => e = .returned (.tuple #[.bool (c.over s), .int .i64 (c.err s)]) ∧ MemAt 142 w' a b (c.mem s) ∧ w'.heap[k]? = some (.cells (c.next s).arr 160 (0, 0)) ∧ Mod [a, b, k] w w' := by
  obtain ⟨p0, p1, p2, p3, p4, p5, th, n, cl, st⟩ := c
  obtain ⟨hlo, hhi, hcl, hst⟩ := hi
  dsimp only at hlo hhi hcl hst
  by_cases h3 : n = 3
  · subst h3
    have e1 : (ComS.mk p0 p1 p2 p3 p4 p5 th 3 cl st).err s = 3 := by simp [ComS.err]
    rw [e1, show (ComS.mk p0 p1 p2 p3 p4 p5 th 3 cl st).over s = false by simp [ComS.over], show (ComS.mk p0 p1 p2 p3 p4 p5 th 3 cl st).mem s = s by simp [ComS.mem], show (ComS.mk p0 p1 p2 p3 p4 p5 th 3 cl st).next s = ComS.mk p0 p1 p2 p3 p4 p5 th 3 cl st by simp [ComS.next, e1]]
    exact com3_c hM p0 p1 p2 p3 p4 p5 th cl st hk
  · have hst0 := hst h3
    subst hst0
    by_cases ht : th < 0 ∨ 8 ≤ th
    · have e1 : (ComS.mk p0 p1 p2 p3 p4 p5 th n cl 0).err s = 100 := by simp [ComS.err, h3, ht]
      rw [e1, show (ComS.mk p0 p1 p2 p3 p4 p5 th n cl 0).over s = false by simp [ComS.over, e1], show (ComS.mk p0 p1 p2 p3 p4 p5 th n cl 0).mem s = s by simp [ComS.mem, h3, ht], show (ComS.mk p0 p1 p2 p3 p4 p5 th n cl 0).next s = ComS.mk p0 p1 p2 p3 p4 p5 th n cl 0 by simp [ComS.next, e1]]
      exact comT_c hM p0 p1 p2 p3 p4 p5 th cl 0 n hk (by simp [h3]) (plErr_thread ht)
    · have hq := plErr_of_th (p3 := p3) ht
      have t0 : 0 ≤ th := by omega
      have t8 : th < 8 := by omega
      by_cases h0 : n = 0
      · subst h0
        have hc0 := hcl rfl
        subst hc0
        by_cases ha : s.acc p2 = 0
        · have e1 : (ComS.mk p0 p1 p2 p3 p4 p5 th 0 0 0).err s = 0 := by simp [ComS.err, ht, ha]
          rw [e1, show (ComS.mk p0 p1 p2 p3 p4 p5 th 0 0 0).over s = false by simp [ComS.over], show (ComS.mk p0 p1 p2 p3 p4 p5 th 0 0 0).mem s = s.load p2 by simp [ComS.mem, ht], show (ComS.mk p0 p1 p2 p3 p4 p5 th 0 0 0).next s = ComS.mk p0 p1 p2 p3 p4 p5 th 1 (s.got p2) 0 by simp [ComS.next, e1]]
          exact com0ok_c hM p0 p1 p2 p3 p4 p5 th 0 0 hk hq ha
        · have e1 : (ComS.mk p0 p1 p2 p3 p4 p5 th 0 0 0).err s = s.acc p2 := by simp [ComS.err, ht]
          have hg : s.got p2 = 0 := got_bad s ha
          rw [e1, show (ComS.mk p0 p1 p2 p3 p4 p5 th 0 0 0).over s = false by simp [ComS.over], show (ComS.mk p0 p1 p2 p3 p4 p5 th 0 0 0).mem s = s.load p2 by simp [ComS.mem, ht], show (ComS.mk p0 p1 p2 p3 p4 p5 th 0 0 0).next s = ComS.mk p0 p1 p2 p3 p4 p5 th 0 0 0 by simp [ComS.next, e1, ha]]
          have := com0bad_c hM p0 p1 p2 p3 p4 p5 th 0 0 hk hq (by simp [ha])
          rw [hg] at this
          exact this
      · by_cases h1 : n = 1
        · subst h1
          by_cases hp : plErr p3 th = 0
          · obtain ⟨-, -, hp0, hp1⟩ := plErr_zero hp
            by_cases ha : s.acc (p3 + th) = 0
            · have e1 : (ComS.mk p0 p1 p2 p3 p4 p5 th 1 cl 0).err s = 0 := by simp [ComS.err, ht, MemS.leaveE, hp, ha]
              rw [e1, show (ComS.mk p0 p1 p2 p3 p4 p5 th 1 cl 0).over s = false by simp [ComS.over], show (ComS.mk p0 p1 p2 p3 p4 p5 th 1 cl 0).mem s = s.store (p3 + th) (IntKind.u64.wrap (cl + 1)) by simp [ComS.mem, ht, hp], show (ComS.mk p0 p1 p2 p3 p4 p5 th 1 cl 0).next s = ComS.mk p0 p1 p2 p3 p4 p5 th 2 cl 0 by simp [ComS.next, e1]]
              exact com1ok_c hM p0 p1 p2 p3 p4 p5 th cl 0 hk hp ha
            · have e1 : (ComS.mk p0 p1 p2 p3 p4 p5 th 1 cl 0).err s = s.acc (p3 + th) := by simp [ComS.err, ht, MemS.leaveE, hp]
              rw [e1, show (ComS.mk p0 p1 p2 p3 p4 p5 th 1 cl 0).over s = false by simp [ComS.over], show (ComS.mk p0 p1 p2 p3 p4 p5 th 1 cl 0).mem s = s.store (p3 + th) (IntKind.u64.wrap (cl + 1)) by simp [ComS.mem, ht, hp], show (ComS.mk p0 p1 p2 p3 p4 p5 th 1 cl 0).next s = ComS.mk p0 p1 p2 p3 p4 p5 th 1 cl 0 by simp [ComS.next, e1, ha]]
              exact com1bad_c hM p0 p1 p2 p3 p4 p5 th cl 0 hk hp (by simp [ha])
          · have hpe : plErr p3 th = 30 ∧ (p3 < 0 ∨ 4096 < p3) := by
              rcases plErr_cases p3 th with ⟨h1, _⟩ | ⟨_, _, h, e⟩ | ⟨_, _, _, _, e⟩
              · exact absurd h1 ht
              · exact ⟨e, h⟩
              · exact absurd e hp
            have e1 : (ComS.mk p0 p1 p2 p3 p4 p5 th 1 cl 0).err s = 30 := by simp [ComS.err, ht, MemS.leaveE, hpe.1]
            rw [e1, show (ComS.mk p0 p1 p2 p3 p4 p5 th 1 cl 0).over s = false by simp [ComS.over], show (ComS.mk p0 p1 p2 p3 p4 p5 th 1 cl 0).mem s = s by simp [ComS.mem, ht, hp], show (ComS.mk p0 p1 p2 p3 p4 p5 th 1 cl 0).next s = ComS.mk p0 p1 p2 p3 p4 p5 th 1 cl 0 by simp [ComS.next, e1]]
            exact com1place_c hM p0 p1 p2 p3 p4 p5 th cl 0 hk hpe.1
        · have h2 : n = 2 := by omega
          subst h2
          by_cases ha : s.acc p2 = 0
          · have e1 : (ComS.mk p0 p1 p2 p3 p4 p5 th 2 cl 0).err s = 0 := by simp [ComS.err, ht, ha]
            rw [e1, show (ComS.mk p0 p1 p2 p3 p4 p5 th 2 cl 0).over s = true by simp [ComS.over, e1], show (ComS.mk p0 p1 p2 p3 p4 p5 th 2 cl 0).mem s = s.load p2 by simp [ComS.mem, ht], show (ComS.mk p0 p1 p2 p3 p4 p5 th 2 cl 0).next s = ComS.mk p0 p1 p2 p3 p4 p5 th 3 cl (s.got p2) by simp [ComS.next, e1]]
            exact com2ok_c hM p0 p1 p2 p3 p4 p5 th cl 0 hk hq ha
          · have e1 : (ComS.mk p0 p1 p2 p3 p4 p5 th 2 cl 0).err s = s.acc p2 := by simp [ComS.err, ht]
            have hg : s.got p2 = 0 := got_bad s ha
            rw [e1, show (ComS.mk p0 p1 p2 p3 p4 p5 th 2 cl 0).over s = false by simp [ComS.over, e1, ha], show (ComS.mk p0 p1 p2 p3 p4 p5 th 2 cl 0).mem s = s.load p2 by simp [ComS.mem, ht], show (ComS.mk p0 p1 p2 p3 p4 p5 th 2 cl 0).next s = ComS.mk p0 p1 p2 p3 p4 p5 th 2 cl 0 by simp [ComS.next, e1, ha]]
            have := com2bad_c hM p0 p1 p2 p3 p4 p5 th cl 0 hk hq (by simp [ha])
            rw [hg] at this
            exact this


set_option maxHeartbeats 1000000 in
theorem comStep_r {a b k : Nat} {s : MemS} {w : World} (hM : MemAt 148 w a b s) (c : ComS) (hi : c.Inv) (hk : w.heap[k]? = some (.cells c.arr 168 (0, 0))) :
    Calls Try.prog 117 #[.pointer (some ⟨k, 0, none⟩), .pointer (some ⟨a, 0, none⟩)] w fun e w' => e = .returned (.tuple #[.bool (c.over s), .int .i64 (c.err s)]) ∧ MemAt 148 w' a b (c.mem s) ∧ w'.heap[k]? = some (.cells (c.next s).arr 168 (0, 0)) ∧ Mod [a, b, k] w w' := by
  obtain ⟨p0, p1, p2, p3, p4, p5, th, n, cl, st⟩ := c
  obtain ⟨hlo, hhi, hcl, hst⟩ := hi
  dsimp only at hlo hhi hcl hst
  by_cases h3 : n = 3
  · subst h3
    have e1 : (ComS.mk p0 p1 p2 p3 p4 p5 th 3 cl st).err s = 3 := by simp [ComS.err]
    rw [e1, show (ComS.mk p0 p1 p2 p3 p4 p5 th 3 cl st).over s = false by simp [ComS.over], show (ComS.mk p0 p1 p2 p3 p4 p5 th 3 cl st).mem s = s by simp [ComS.mem], show (ComS.mk p0 p1 p2 p3 p4 p5 th 3 cl st).next s = ComS.mk p0 p1 p2 p3 p4 p5 th 3 cl st by simp [ComS.next, e1]]
    exact com3_r hM p0 p1 p2 p3 p4 p5 th cl st hk
  · have hst0 := hst h3
    subst hst0
    by_cases ht : th < 0 ∨ 8 ≤ th
    · have e1 : (ComS.mk p0 p1 p2 p3 p4 p5 th n cl 0).err s = 100 := by simp [ComS.err, h3, ht]
      rw [e1, show (ComS.mk p0 p1 p2 p3 p4 p5 th n cl 0).over s = false by simp [ComS.over, e1], show (ComS.mk p0 p1 p2 p3 p4 p5 th n cl 0).mem s = s by simp [ComS.mem, h3, ht], show (ComS.mk p0 p1 p2 p3 p4 p5 th n cl 0).next s = ComS.mk p0 p1 p2 p3 p4 p5 th n cl 0 by simp [ComS.next, e1]]
      exact comT_r hM p0 p1 p2 p3 p4 p5 th cl 0 n hk (by omega) ht
    · have hq := plErr_of_th (p3 := p3) ht
      have t0 : 0 ≤ th := by omega
      have t8 : th < 8 := by omega
      by_cases h0 : n = 0
      · subst h0
        have hc0 := hcl rfl
        subst hc0
        by_cases ha : s.acc p2 = 0
        · have e1 : (ComS.mk p0 p1 p2 p3 p4 p5 th 0 0 0).err s = 0 := by simp [ComS.err, ht, ha]
          rw [e1, show (ComS.mk p0 p1 p2 p3 p4 p5 th 0 0 0).over s = false by simp [ComS.over], show (ComS.mk p0 p1 p2 p3 p4 p5 th 0 0 0).mem s = s.load p2 by simp [ComS.mem, ht], show (ComS.mk p0 p1 p2 p3 p4 p5 th 0 0 0).next s = ComS.mk p0 p1 p2 p3 p4 p5 th 1 (s.got p2) 0 by simp [ComS.next, e1]]
          exact com0ok_r hM p0 p1 p2 p3 p4 p5 th 0 0 hk t0 t8 ha
        · have e1 : (ComS.mk p0 p1 p2 p3 p4 p5 th 0 0 0).err s = s.acc p2 := by simp [ComS.err, ht]
          have hg : s.got p2 = 0 := got_bad s ha
          rw [e1, show (ComS.mk p0 p1 p2 p3 p4 p5 th 0 0 0).over s = false by simp [ComS.over], show (ComS.mk p0 p1 p2 p3 p4 p5 th 0 0 0).mem s = s.load p2 by simp [ComS.mem, ht], show (ComS.mk p0 p1 p2 p3 p4 p5 th 0 0 0).next s = ComS.mk p0 p1 p2 p3 p4 p5 th 0 0 0 by simp [ComS.next, e1, ha]]
          have := com0bad_r hM p0 p1 p2 p3 p4 p5 th 0 0 hk t0 t8 (by simp [ha])
          clear hg
          exact this
      · by_cases h1 : n = 1
        · subst h1
          by_cases hp : plErr p3 th = 0
          · obtain ⟨-, -, hp0, hp1⟩ := plErr_zero hp
            by_cases ha : s.acc (p3 + th) = 0
            · have e1 : (ComS.mk p0 p1 p2 p3 p4 p5 th 1 cl 0).err s = 0 := by simp [ComS.err, ht, MemS.leaveE, hp, ha]
              rw [e1, show (ComS.mk p0 p1 p2 p3 p4 p5 th 1 cl 0).over s = false by simp [ComS.over], show (ComS.mk p0 p1 p2 p3 p4 p5 th 1 cl 0).mem s = s.store (p3 + th) (IntKind.u64.wrap (cl + 1)) by simp [ComS.mem, ht, hp], show (ComS.mk p0 p1 p2 p3 p4 p5 th 1 cl 0).next s = ComS.mk p0 p1 p2 p3 p4 p5 th 2 cl 0 by simp [ComS.next, e1]]
              exact com1ok_r hM p0 p1 p2 p3 p4 p5 th cl 0 hk t0 t8 hp0 hp1 ha
            · have e1 : (ComS.mk p0 p1 p2 p3 p4 p5 th 1 cl 0).err s = s.acc (p3 + th) := by simp [ComS.err, ht, MemS.leaveE, hp]
              rw [e1, show (ComS.mk p0 p1 p2 p3 p4 p5 th 1 cl 0).over s = false by simp [ComS.over], show (ComS.mk p0 p1 p2 p3 p4 p5 th 1 cl 0).mem s = s.store (p3 + th) (IntKind.u64.wrap (cl + 1)) by simp [ComS.mem, ht, hp], show (ComS.mk p0 p1 p2 p3 p4 p5 th 1 cl 0).next s = ComS.mk p0 p1 p2 p3 p4 p5 th 1 cl 0 by simp [ComS.next, e1, ha]]
              exact com1bad_r hM p0 p1 p2 p3 p4 p5 th cl 0 hk t0 t8 hp0 hp1 (by simp [ha])
          · have hpe : plErr p3 th = 30 ∧ (p3 < 0 ∨ 4096 < p3) := by
              rcases plErr_cases p3 th with ⟨h1, _⟩ | ⟨_, _, h, e⟩ | ⟨_, _, _, _, e⟩
              · exact absurd h1 ht
              · exact ⟨e, h⟩
              · exact absurd e hp
            have e1 : (ComS.mk p0 p1 p2 p3 p4 p5 th 1 cl 0).err s = 30 := by simp [ComS.err, ht, MemS.leaveE, hpe.1]
            rw [e1, show (ComS.mk p0 p1 p2 p3 p4 p5 th 1 cl 0).over s = false by simp [ComS.over], show (ComS.mk p0 p1 p2 p3 p4 p5 th 1 cl 0).mem s = s by simp [ComS.mem, ht, hp], show (ComS.mk p0 p1 p2 p3 p4 p5 th 1 cl 0).next s = ComS.mk p0 p1 p2 p3 p4 p5 th 1 cl 0 by simp [ComS.next, e1]]
            exact com1place_r hM p0 p1 p2 p3 p4 p5 th cl 0 hk t0 t8 hpe.2
        · have h2 : n = 2 := by omega
          subst h2
          by_cases ha : s.acc p2 = 0
          · have e1 : (ComS.mk p0 p1 p2 p3 p4 p5 th 2 cl 0).err s = 0 := by simp [ComS.err, ht, ha]
            rw [e1, show (ComS.mk p0 p1 p2 p3 p4 p5 th 2 cl 0).over s = true by simp [ComS.over, e1], show (ComS.mk p0 p1 p2 p3 p4 p5 th 2 cl 0).mem s = s.load p2 by simp [ComS.mem, ht], show (ComS.mk p0 p1 p2 p3 p4 p5 th 2 cl 0).next s = ComS.mk p0 p1 p2 p3 p4 p5 th 3 cl (s.got p2) by simp [ComS.next, e1]]
            exact com2ok_r hM p0 p1 p2 p3 p4 p5 th cl 0 hk t0 t8 ha
          · have e1 : (ComS.mk p0 p1 p2 p3 p4 p5 th 2 cl 0).err s = s.acc p2 := by simp [ComS.err, ht]
            have hg : s.got p2 = 0 := got_bad s ha
            rw [e1, show (ComS.mk p0 p1 p2 p3 p4 p5 th 2 cl 0).over s = false by simp [ComS.over, e1, ha], show (ComS.mk p0 p1 p2 p3 p4 p5 th 2 cl 0).mem s = s.load p2 by simp [ComS.mem, ht], show (ComS.mk p0 p1 p2 p3 p4 p5 th 2 cl 0).next s = ComS.mk p0 p1 p2 p3 p4 p5 th 2 cl 0 by simp [ComS.next, e1, ha]]
            have := com2bad_r hM p0 p1 p2 p3 p4 p5 th cl 0 hk t0 t8 (by simp [ha])
            clear hg
            exact this


/-- A scan. -/
structure ScanS where
  (p0 p1 p2 p3 p4 p5 T nd nx po : Int)
deriving DecidableEq
def ScanS.arr (c : ScanS) : Array Value := #[.int .i64 c.p0, .int .i64 c.p1, .int .i64 c.p2, .int .i64 c.p3, .int .i64 c.p4, .int .i64 c.p5, .int .i64 c.T, .int .u64 c.nd, .int .i64 c.nx, .int .i64 c.po]
structure ScanS.Inv (c : ScanS) : Prop where
  lo : 0 ≤ c.nx
  hi : 1 ≤ c.T → c.T ≤ 8 → c.nx ≤ c.T
def ScanS.err (c : ScanS) (s : MemS) : Int := if c.T < 1 ∨ 8 < c.T then 100 else if c.nx = c.T then 3 else s.leaveE c.p3 c.nx
def ScanS.mem (c : ScanS) (s : MemS) : MemS := if c.T < 1 ∨ 8 < c.T then s else if c.nx = c.T then s else if plErr c.p3 c.nx = 0 then s.load (c.p3 + c.nx) else s
def ScanS.passes (c : ScanS) (s : MemS) : Bool := decide (s.got (c.p3 + c.nx) = 0 ∨ c.nd < s.got (c.p3 + c.nx))
def ScanS.over (c : ScanS) (s : MemS) : Bool := if c.err s = 0 then (if c.passes s = true then c.nx + 1 == c.T else false) else false
def ScanS.next (c : ScanS) (s : MemS) : ScanS := if c.err s ≠ 0 then c else if c.passes s = true then { c with nx := c.nx + 1 } else { c with po := wrap64 (c.po + 1) }

theorem ScanS.err_ok {c : ScanS} {s : MemS} (h : c.err s = 0) : 1 ≤ c.T ∧ c.T ≤ 8 ∧ c.nx ≠ c.T ∧ plErr c.p3 c.nx = 0 := by
  unfold ScanS.err at h
  split at h
  · omega
  · split at h
    · omega
    · refine ⟨by omega, by omega, by assumption, ?_⟩
      unfold MemS.leaveE at h
      split at h
      · assumption
      · exact h

theorem ScanS.next_inv {c : ScanS} (h : c.Inv) (s : MemS) : (c.next s).Inv := by
  unfold ScanS.next
  split
  · exact h
  · rename_i he
    have hok := ScanS.err_ok (Decidable.not_not.1 he)
    split
    · exact ⟨by have := h.lo; dsimp only; omega, fun h1 h8 => by have := h.hi h1 h8; dsimp only at *; omega⟩
    · exact ⟨h.lo, h.hi⟩


set_option maxHeartbeats 1000000 in
theorem scanStep_c {a b k : Nat} {s : MemS} {w : World} (hM : MemAt 142 w a b s) (c : ScanS) (hi : c.Inv) (hk : w.heap[k]? = some (.cells c.arr 162 (0, 0))) :
    Calls Try.prog 58 #[.pointer (some ⟨k, 0, none⟩), .pointer (some ⟨a, 0, none⟩)] w fun e w' => e = .returned (.tuple #[.bool (c.over s), .int .i64 (c.err s)]) ∧ MemAt 142 w' a b (c.mem s) ∧ w'.heap[k]? = some (.cells (c.next s).arr 162 (0, 0)) ∧ Mod [a, b, k] w w' := by
  obtain ⟨p0, p1, p2, p3, p4, p5, T, nd, nx, po⟩ := c
  obtain ⟨hlo, hhi⟩ := hi
  dsimp only at hlo hhi
  by_cases hT : T < 1 ∨ 8 < T
  · have e1 : (ScanS.mk p0 p1 p2 p3 p4 p5 T nd nx po).err s = 100 := by simp [ScanS.err, hT]
    rw [e1, show (ScanS.mk p0 p1 p2 p3 p4 p5 T nd nx po).over s = false by simp [ScanS.over, e1], show (ScanS.mk p0 p1 p2 p3 p4 p5 T nd nx po).mem s = s by simp [ScanS.mem, hT], show (ScanS.mk p0 p1 p2 p3 p4 p5 T nd nx po).next s = (ScanS.mk p0 p1 p2 p3 p4 p5 T nd nx po) by simp [ScanS.next, e1]]
    by_cases h1 : T < 1
    · exact scanA1_c hM p0 p1 p2 p3 p4 p5 T nd nx po hk h1
    · exact scanA2_c hM p0 p1 p2 p3 p4 p5 T nd nx po hk (by omega) (by omega)
  · have hl := hhi (by omega) (by omega)
    by_cases hn : nx = T
    · subst hn
      have e1 : (ScanS.mk p0 p1 p2 p3 p4 p5 nx nd nx po).err s = 3 := by simp [ScanS.err, hT]
      rw [e1, show (ScanS.mk p0 p1 p2 p3 p4 p5 nx nd nx po).over s = false by simp [ScanS.over, e1], show (ScanS.mk p0 p1 p2 p3 p4 p5 nx nd nx po).mem s = s by simp [ScanS.mem], show (ScanS.mk p0 p1 p2 p3 p4 p5 nx nd nx po).next s = ScanS.mk p0 p1 p2 p3 p4 p5 nx nd nx po by simp [ScanS.next, e1]]
      exact scanB_c hM p0 p1 p2 p3 p4 p5 nx nd po hk (by omega) (by omega)
    · have t8 : nx < 8 := by omega
      have hlt : nx < T := by omega
      by_cases hp : plErr p3 nx = 0
      · obtain ⟨-, -, hp0, hp1⟩ := plErr_zero hp
        rw [show (ScanS.mk p0 p1 p2 p3 p4 p5 T nd nx po).mem s = s.load (p3 + nx) by simp [ScanS.mem, hT, hn, hp]]
        by_cases ha : s.acc (p3 + nx) = 0
        · have e1 : (ScanS.mk p0 p1 p2 p3 p4 p5 T nd nx po).err s = 0 := by simp [ScanS.err, hT, hn, MemS.leaveE, hp, ha]
          by_cases g0 : s.got (p3 + nx) = 0
          · have hps : (ScanS.mk p0 p1 p2 p3 p4 p5 T nd nx po).passes s = true := by simp [ScanS.passes, g0]
            rw [e1, show (ScanS.mk p0 p1 p2 p3 p4 p5 T nd nx po).over s = (nx + 1 == T) by simp [ScanS.over, e1, hps], show (ScanS.mk p0 p1 p2 p3 p4 p5 T nd nx po).next s = ScanS.mk p0 p1 p2 p3 p4 p5 T nd (nx + 1) po by simp [ScanS.next, e1, hps]]
            exact scanF1_c hM p0 p1 p2 p3 p4 p5 T nd nx po hk (by omega) (by omega) hlo hlt hp ha g0
          · by_cases g1 : nd < s.got (p3 + nx)
            · have hps : (ScanS.mk p0 p1 p2 p3 p4 p5 T nd nx po).passes s = true := by simp [ScanS.passes, g1]
              rw [e1, show (ScanS.mk p0 p1 p2 p3 p4 p5 T nd nx po).over s = (nx + 1 == T) by simp [ScanS.over, e1, hps], show (ScanS.mk p0 p1 p2 p3 p4 p5 T nd nx po).next s = ScanS.mk p0 p1 p2 p3 p4 p5 T nd (nx + 1) po by simp [ScanS.next, e1, hps]]
              exact scanF2_c hM p0 p1 p2 p3 p4 p5 T nd nx po hk (by omega) (by omega) hlo hlt hp ha (by simp [g0]) g1
            · have hps : (ScanS.mk p0 p1 p2 p3 p4 p5 T nd nx po).passes s = false := by simp [ScanS.passes, g0]; omega
              rw [e1, show (ScanS.mk p0 p1 p2 p3 p4 p5 T nd nx po).over s = false by simp [ScanS.over, hps], show (ScanS.mk p0 p1 p2 p3 p4 p5 T nd nx po).next s = ScanS.mk p0 p1 p2 p3 p4 p5 T nd nx (wrap64 (po + 1)) by simp [ScanS.next, e1, hps]]
              exact scanE_c hM p0 p1 p2 p3 p4 p5 T nd nx po hk (by omega) (by omega) hlt hp ha (by simp [g0]) (by omega) (by simp [hn])
        · have e1 : (ScanS.mk p0 p1 p2 p3 p4 p5 T nd nx po).err s = s.acc (p3 + nx) := by simp [ScanS.err, hT, hn, MemS.leaveE, hp]
          rw [e1, show (ScanS.mk p0 p1 p2 p3 p4 p5 T nd nx po).over s = false by simp [ScanS.over, e1, ha], show (ScanS.mk p0 p1 p2 p3 p4 p5 T nd nx po).next s = (ScanS.mk p0 p1 p2 p3 p4 p5 T nd nx po) by simp [ScanS.next, e1, ha]]
          exact scanD_c hM p0 p1 p2 p3 p4 p5 T nd nx po hk (by omega) (by omega) hlt hp (by simp [ha])
      · have hpe : plErr p3 nx = 30 ∧ (p3 < 0 ∨ 4096 < p3) := by
          rcases plErr_cases p3 nx with ⟨h1, _⟩ | ⟨_, _, h, e⟩ | ⟨_, _, _, _, e⟩
          · omega
          · exact ⟨e, h⟩
          · exact absurd e hp
        have e1 : (ScanS.mk p0 p1 p2 p3 p4 p5 T nd nx po).err s = 30 := by simp [ScanS.err, hT, hn, MemS.leaveE, hpe.1]
        rw [e1, show (ScanS.mk p0 p1 p2 p3 p4 p5 T nd nx po).over s = false by simp [ScanS.over, e1], show (ScanS.mk p0 p1 p2 p3 p4 p5 T nd nx po).mem s = s by simp [ScanS.mem, hp], show (ScanS.mk p0 p1 p2 p3 p4 p5 T nd nx po).next s = (ScanS.mk p0 p1 p2 p3 p4 p5 T nd nx po) by simp [ScanS.next, e1]]
        exact scanC_c hM p0 p1 p2 p3 p4 p5 T nd nx po hk (by omega) (by omega) hlt hpe.1


set_option maxHeartbeats 1000000 in
theorem scanStep_r {a b k : Nat} {s : MemS} {w : World} (hM : MemAt 148 w a b s) (c : ScanS) (hi : c.Inv) (hk : w.heap[k]? = some (.cells c.arr 170 (0, 0))) :
    Calls Try.prog 118 #[.pointer (some ⟨k, 0, none⟩), .pointer (some ⟨a, 0, none⟩)] w fun e w' => e = .returned (.tuple #[.bool (c.over s), .int .i64 (c.err s)]) ∧ MemAt 148 w' a b (c.mem s) ∧ w'.heap[k]? = some (.cells (c.next s).arr 170 (0, 0)) ∧ Mod [a, b, k] w w' := by
  obtain ⟨p0, p1, p2, p3, p4, p5, T, nd, nx, po⟩ := c
  obtain ⟨hlo, hhi⟩ := hi
  dsimp only at hlo hhi
  by_cases hT : T < 1 ∨ 8 < T
  · have e1 : (ScanS.mk p0 p1 p2 p3 p4 p5 T nd nx po).err s = 100 := by simp [ScanS.err, hT]
    rw [e1, show (ScanS.mk p0 p1 p2 p3 p4 p5 T nd nx po).over s = false by simp [ScanS.over, e1], show (ScanS.mk p0 p1 p2 p3 p4 p5 T nd nx po).mem s = s by simp [ScanS.mem, hT], show (ScanS.mk p0 p1 p2 p3 p4 p5 T nd nx po).next s = (ScanS.mk p0 p1 p2 p3 p4 p5 T nd nx po) by simp [ScanS.next, e1]]
    by_cases h1 : T < 1
    · exact scanA1_r hM p0 p1 p2 p3 p4 p5 T nd nx po hk h1
    · exact scanA2_r hM p0 p1 p2 p3 p4 p5 T nd nx po hk (by omega) (by omega)
  · have hl := hhi (by omega) (by omega)
    by_cases hn : nx = T
    · subst hn
      have e1 : (ScanS.mk p0 p1 p2 p3 p4 p5 nx nd nx po).err s = 3 := by simp [ScanS.err, hT]
      rw [e1, show (ScanS.mk p0 p1 p2 p3 p4 p5 nx nd nx po).over s = false by simp [ScanS.over, e1], show (ScanS.mk p0 p1 p2 p3 p4 p5 nx nd nx po).mem s = s by simp [ScanS.mem], show (ScanS.mk p0 p1 p2 p3 p4 p5 nx nd nx po).next s = ScanS.mk p0 p1 p2 p3 p4 p5 nx nd nx po by simp [ScanS.next, e1]]
      exact scanB_r hM p0 p1 p2 p3 p4 p5 nx nd po hk (by omega) (by omega)
    · have t8 : nx < 8 := by omega
      have hlt : nx < T := by omega
      by_cases hp : plErr p3 nx = 0
      · obtain ⟨-, -, hp0, hp1⟩ := plErr_zero hp
        rw [show (ScanS.mk p0 p1 p2 p3 p4 p5 T nd nx po).mem s = s.load (p3 + nx) by simp [ScanS.mem, hT, hn, hp]]
        by_cases ha : s.acc (p3 + nx) = 0
        · have e1 : (ScanS.mk p0 p1 p2 p3 p4 p5 T nd nx po).err s = 0 := by simp [ScanS.err, hT, hn, MemS.leaveE, hp, ha]
          by_cases g0 : s.got (p3 + nx) = 0
          · have hps : (ScanS.mk p0 p1 p2 p3 p4 p5 T nd nx po).passes s = true := by simp [ScanS.passes, g0]
            rw [e1, show (ScanS.mk p0 p1 p2 p3 p4 p5 T nd nx po).over s = (nx + 1 == T) by simp [ScanS.over, e1, hps], show (ScanS.mk p0 p1 p2 p3 p4 p5 T nd nx po).next s = ScanS.mk p0 p1 p2 p3 p4 p5 T nd (nx + 1) po by simp [ScanS.next, e1, hps]]
            exact scanF1_r hM p0 p1 p2 p3 p4 p5 T nd nx po hk (by omega) (by omega) hlo t8 hlt hp0 hp1 ha g0
          · by_cases g1 : nd < s.got (p3 + nx)
            · have hps : (ScanS.mk p0 p1 p2 p3 p4 p5 T nd nx po).passes s = true := by simp [ScanS.passes, g1]
              rw [e1, show (ScanS.mk p0 p1 p2 p3 p4 p5 T nd nx po).over s = (nx + 1 == T) by simp [ScanS.over, e1, hps], show (ScanS.mk p0 p1 p2 p3 p4 p5 T nd nx po).next s = ScanS.mk p0 p1 p2 p3 p4 p5 T nd (nx + 1) po by simp [ScanS.next, e1, hps]]
              exact scanF2_r hM p0 p1 p2 p3 p4 p5 T nd nx po hk (by omega) (by omega) hlo t8 hlt hp0 hp1 ha (by simp [g0]) g1
            · have hps : (ScanS.mk p0 p1 p2 p3 p4 p5 T nd nx po).passes s = false := by simp [ScanS.passes, g0]; omega
              rw [e1, show (ScanS.mk p0 p1 p2 p3 p4 p5 T nd nx po).over s = false by simp [ScanS.over, hps], show (ScanS.mk p0 p1 p2 p3 p4 p5 T nd nx po).next s = ScanS.mk p0 p1 p2 p3 p4 p5 T nd nx (wrap64 (po + 1)) by simp [ScanS.next, e1, hps]]
              exact scanE_r hM p0 p1 p2 p3 p4 p5 T nd nx po hk (by omega) (by omega) hlo t8 hlt hp0 hp1 ha (by simp [g0]) (by omega) (by simp [hn])
        · have e1 : (ScanS.mk p0 p1 p2 p3 p4 p5 T nd nx po).err s = s.acc (p3 + nx) := by simp [ScanS.err, hT, hn, MemS.leaveE, hp]
          rw [e1, show (ScanS.mk p0 p1 p2 p3 p4 p5 T nd nx po).over s = false by simp [ScanS.over, e1, ha], show (ScanS.mk p0 p1 p2 p3 p4 p5 T nd nx po).next s = (ScanS.mk p0 p1 p2 p3 p4 p5 T nd nx po) by simp [ScanS.next, e1, ha]]
          exact scanD_r hM p0 p1 p2 p3 p4 p5 T nd nx po hk (by omega) (by omega) hlo t8 hlt hp0 hp1 (by simp [ha])
      · have hpe : plErr p3 nx = 30 ∧ (p3 < 0 ∨ 4096 < p3) := by
          rcases plErr_cases p3 nx with ⟨h1, _⟩ | ⟨_, _, h, e⟩ | ⟨_, _, _, _, e⟩
          · omega
          · exact ⟨e, h⟩
          · exact absurd e hp
        have e1 : (ScanS.mk p0 p1 p2 p3 p4 p5 T nd nx po).err s = 30 := by simp [ScanS.err, hT, hn, MemS.leaveE, hpe.1]
        rw [e1, show (ScanS.mk p0 p1 p2 p3 p4 p5 T nd nx po).over s = false by simp [ScanS.over, e1], show (ScanS.mk p0 p1 p2 p3 p4 p5 T nd nx po).mem s = s by simp [ScanS.mem, hp], show (ScanS.mk p0 p1 p2 p3 p4 p5 T nd nx po).next s = (ScanS.mk p0 p1 p2 p3 p4 p5 T nd nx po) by simp [ScanS.next, e1]]
        exact scanC_r hM p0 p1 p2 p3 p4 p5 T nd nx po hk (by omega) (by omega) hlo t8 hlt hpe.2


theorem claim_c {k : Nat} {w : World} (c : ComS) (hk : w.heap[k]? = some (.cells c.arr 160 (0, 0))) :
    Calls Try.prog 64 #[.pointer (some ⟨k, 0, none⟩)] w fun e w' => e = .returned (.int .u64 c.cl) ∧ w' = w := by
  have x : w.cell? ⟨k, 8, none⟩ = some (.int .u64 c.cl) := cell_of_blk hk rfl
  go_enter Try.func64, Try.ntmps64
  go_wp2
  go_ret
  exact ⟨rfl, rfl⟩


theorem cstamp_c {k : Nat} {w : World} (c : ComS) (hk : w.heap[k]? = some (.cells c.arr 160 (0, 0))) :
    Calls Try.prog 68 #[.pointer (some ⟨k, 0, none⟩)] w fun e w' => e = .returned (.int .u64 c.st) ∧ w' = w := by
  have x : w.cell? ⟨k, 9, none⟩ = some (.int .u64 c.st) := cell_of_blk hk rfl
  go_enter Try.func68, Try.ntmps68
  go_wp2
  go_ret
  exact ⟨rfl, rfl⟩


theorem at_c {k : Nat} {w : World} (c : ScanS) (hk : w.heap[k]? = some (.cells c.arr 162 (0, 0))) :
    Calls Try.prog 60 #[.pointer (some ⟨k, 0, none⟩)] w fun e w' => e = .returned (.int .i64 c.nx) ∧ w' = w := by
  have x : w.cell? ⟨k, 8, none⟩ = some (.int .i64 c.nx) := cell_of_blk hk rfl
  go_enter Try.func60, Try.ntmps60
  go_wp2
  go_ret
  exact ⟨rfl, rfl⟩


theorem polls_c {k : Nat} {w : World} (c : ScanS) (hk : w.heap[k]? = some (.cells c.arr 162 (0, 0))) :
    Calls Try.prog 65 #[.pointer (some ⟨k, 0, none⟩)] w fun e w' => e = .returned (.int .i64 c.po) ∧ w' = w := by
  have x : w.cell? ⟨k, 9, none⟩ = some (.int .i64 c.po) := cell_of_blk hk rfl
  go_enter Try.func65, Try.ntmps65
  go_wp2
  go_ret
  exact ⟨rfl, rfl⟩


theorem claim_r {k : Nat} {w : World} (c : ComS) (hk : w.heap[k]? = some (.cells c.arr 168 (0, 0))) :
    Calls Try.prog 121 #[.pointer (some ⟨k, 0, none⟩)] w fun e w' => e = .returned (.int .u64 c.cl) ∧ w' = w := by
  have x : w.cell? ⟨k, 8, none⟩ = some (.int .u64 c.cl) := cell_of_blk hk rfl
  go_enter Try.func121, Try.ntmps121
  go_wp2
  go_ret
  exact ⟨rfl, rfl⟩


theorem cstamp_r {k : Nat} {w : World} (c : ComS) (hk : w.heap[k]? = some (.cells c.arr 168 (0, 0))) :
    Calls Try.prog 122 #[.pointer (some ⟨k, 0, none⟩)] w fun e w' => e = .returned (.int .u64 c.st) ∧ w' = w := by
  have x : w.cell? ⟨k, 9, none⟩ = some (.int .u64 c.st) := cell_of_blk hk rfl
  go_enter Try.func122, Try.ntmps122
  go_wp2
  go_ret
  exact ⟨rfl, rfl⟩


theorem at_r {k : Nat} {w : World} (c : ScanS) (hk : w.heap[k]? = some (.cells c.arr 170 (0, 0))) :
    Calls Try.prog 123 #[.pointer (some ⟨k, 0, none⟩)] w fun e w' => e = .returned (.int .i64 c.nx) ∧ w' = w := by
  have x : w.cell? ⟨k, 8, none⟩ = some (.int .i64 c.nx) := cell_of_blk hk rfl
  go_enter Try.func123, Try.ntmps123
  go_wp2
  go_ret
  exact ⟨rfl, rfl⟩


theorem polls_r {k : Nat} {w : World} (c : ScanS) (hk : w.heap[k]? = some (.cells c.arr 170 (0, 0))) :
    Calls Try.prog 124 #[.pointer (some ⟨k, 0, none⟩)] w fun e w' => e = .returned (.int .i64 c.po) ∧ w' = w := by
  have x : w.cell? ⟨k, 9, none⟩ = some (.int .i64 c.po) := cell_of_blk hk rfl
  go_enter Try.func124, Try.ntmps124
  go_wp2
  go_ret
  exact ⟨rfl, rfl⟩


theorem come_c (p0 p1 p2 p3 p4 p5 th : Int) (w : World) :
    Calls Try.prog 55 #[.agg #[.int .i64 p0, .int .i64 p1, .int .i64 p2, .int .i64 p3, .int .i64 p4, .int .i64 p5], .int .i64 th] w fun e w' => e = .returned (.pointer (some ⟨w.heap.size + 1, 0, none⟩)) ∧ w' = (w.alloc (.cells #[.int .i64 p0, .int .i64 p1, .int .i64 p2, .int .i64 p3, .int .i64 p4, .int .i64 p5] 35)).alloc (.cells (ComS.mk p0 p1 p2 p3 p4 p5 th 0 0 0).arr 160) := by
  go_enter Try.func55, Try.ntmps55
  go_wp2
  go_ret
  exact ⟨rfl, rfl⟩

theorem look_c13 (p0 p1 p2 p3 p4 p5 th nd : Int) (w : World) :
    Calls Try.prog 56 #[.agg #[.int .i64 p0, .int .i64 p1, .int .i64 p2, .int .i64 p3, .int .i64 p4, .int .i64 p5], .int .i64 th, .int .u64 nd] w fun e w' => e = .returned (.pointer (some ⟨w.heap.size + 1, 0, none⟩)) ∧ w' = (w.alloc (.cells #[.int .i64 p0, .int .i64 p1, .int .i64 p2, .int .i64 p3, .int .i64 p4, .int .i64 p5] 35)).alloc (.cells (ScanS.mk p0 p1 p2 p3 p4 p5 th nd 0 0).arr 162) := by
  go_enter Try.func56, Try.ntmps56
  go_wp2
  go_ret
  exact ⟨rfl, rfl⟩


theorem come_r (p0 p1 p2 p3 p4 p5 th : Int) (w : World) :
    Calls Try.prog 69 #[.agg #[.int .i64 p0, .int .i64 p1, .int .i64 p2, .int .i64 p3, .int .i64 p4, .int .i64 p5], .int .i64 th] w fun e w' => e = .returned (.pointer (some ⟨w.heap.size + 1, 0, none⟩)) ∧ w' = (w.alloc (.cells #[.int .i64 p0, .int .i64 p1, .int .i64 p2, .int .i64 p3, .int .i64 p4, .int .i64 p5] 35)).alloc (.cells (ComS.mk p0 p1 p2 p3 p4 p5 th 0 0 0).arr 168) := by
  go_enter Try.func69, Try.ntmps69
  go_wp2
  go_ret
  exact ⟨rfl, rfl⟩

theorem look_r13 (p0 p1 p2 p3 p4 p5 th nd : Int) (w : World) :
    Calls Try.prog 70 #[.agg #[.int .i64 p0, .int .i64 p1, .int .i64 p2, .int .i64 p3, .int .i64 p4, .int .i64 p5], .int .i64 th, .int .u64 nd] w fun e w' => e = .returned (.pointer (some ⟨w.heap.size + 1, 0, none⟩)) ∧ w' = (w.alloc (.cells #[.int .i64 p0, .int .i64 p1, .int .i64 p2, .int .i64 p3, .int .i64 p4, .int .i64 p5] 35)).alloc (.cells (ScanS.mk p0 p1 p2 p3 p4 p5 th nd 0 0).arr 170) := by
  go_enter Try.func70, Try.ntmps70
  go_wp2
  go_ret
  exact ⟨rfl, rfl⟩


theorem cclone {k : Nat} {w : World} (c : ComS) (hk : w.heap[k]? = some (.cells c.arr 160 (0, 0))) :
    Calls Try.prog 145 #[.pointer (some ⟨k, 0, none⟩)] w fun e w' => e = .returned (.pointer (some ⟨w.heap.size, 0, none⟩)) ∧ w' = w.alloc (.cells c.arr 160) := by
  have x0 : w.cell? ⟨k, 0, none⟩ = some (.int .i64 c.p0) := cell_of_blk hk rfl
  have x1 : w.cell? ⟨k, 1, none⟩ = some (.int .i64 c.p1) := cell_of_blk hk rfl
  have x2 : w.cell? ⟨k, 2, none⟩ = some (.int .i64 c.p2) := cell_of_blk hk rfl
  have x3 : w.cell? ⟨k, 3, none⟩ = some (.int .i64 c.p3) := cell_of_blk hk rfl
  have x4 : w.cell? ⟨k, 4, none⟩ = some (.int .i64 c.p4) := cell_of_blk hk rfl
  have x5 : w.cell? ⟨k, 5, none⟩ = some (.int .i64 c.p5) := cell_of_blk hk rfl
  have x6 : w.cell? ⟨k, 6, none⟩ = some (.int .i64 c.th) := cell_of_blk hk rfl
  have x7 : w.cell? ⟨k, 7, none⟩ = some (.int .i64 c.n) := cell_of_blk hk rfl
  have x8 : w.cell? ⟨k, 8, none⟩ = some (.int .u64 c.cl) := cell_of_blk hk rfl
  have x9 : w.cell? ⟨k, 9, none⟩ = some (.int .u64 c.st) := cell_of_blk hk rfl
  go_enter Try.func145, Try.ntmps145
  go_wp2
  go_ret
  exact ⟨rfl, rfl⟩


theorem sclone {k : Nat} {w : World} (c : ScanS) (hk : w.heap[k]? = some (.cells c.arr 162 (0, 0))) :
    Calls Try.prog 146 #[.pointer (some ⟨k, 0, none⟩)] w fun e w' => e = .returned (.pointer (some ⟨w.heap.size, 0, none⟩)) ∧ w' = w.alloc (.cells c.arr 162) := by
  have x0 : w.cell? ⟨k, 0, none⟩ = some (.int .i64 c.p0) := cell_of_blk hk rfl
  have x1 : w.cell? ⟨k, 1, none⟩ = some (.int .i64 c.p1) := cell_of_blk hk rfl
  have x2 : w.cell? ⟨k, 2, none⟩ = some (.int .i64 c.p2) := cell_of_blk hk rfl
  have x3 : w.cell? ⟨k, 3, none⟩ = some (.int .i64 c.p3) := cell_of_blk hk rfl
  have x4 : w.cell? ⟨k, 4, none⟩ = some (.int .i64 c.p4) := cell_of_blk hk rfl
  have x5 : w.cell? ⟨k, 5, none⟩ = some (.int .i64 c.p5) := cell_of_blk hk rfl
  have x6 : w.cell? ⟨k, 6, none⟩ = some (.int .i64 c.T) := cell_of_blk hk rfl
  have x7 : w.cell? ⟨k, 7, none⟩ = some (.int .u64 c.nd) := cell_of_blk hk rfl
  have x8 : w.cell? ⟨k, 8, none⟩ = some (.int .i64 c.nx) := cell_of_blk hk rfl
  have x9 : w.cell? ⟨k, 9, none⟩ = some (.int .i64 c.po) := cell_of_blk hk rfl
  go_enter Try.func146, Try.ntmps146
  go_wp2
  go_ret
  exact ⟨rfl, rfl⟩

end Go.Proofs.Ytobmgnoceacoaaa

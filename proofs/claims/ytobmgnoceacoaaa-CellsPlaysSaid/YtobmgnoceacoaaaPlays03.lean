/- Layer 3: a memory of the program and one of the reference that hold the same; stir; a step of both. -/
import Derived.Test.YtobmgnoceacoaaaML
import Derived.Test.YtobmgnoceacoaaaMS
import Derived.Test.YtobmgnoceacoaaaMA
import Derived.Test.YtobmgnoceacoaaaMP
import Derived.Test.YtobmgnoceacoaaaMO
import Derived.Test.YtobmgnoceacoaaaMV
import Derived.Test.YtobmgnoceacoaaaMC
import Derived.Test.YtobmgnoceacoaaaWords
namespace Go.Proofs.Ytobmgnoceacoaaa
open Go.RowKit

/-- A memory of the program and one of the reference that hold the same. -/
structure Both (w : World) (a b c d : Nat) (s : MemS) : Prop where
  m : MemAt 142 w a b s
  r : MemAt 148 w c d s
  bd : b ≠ d

theorem blk_ne {w : World} {a b : Nat} {c d : Array Value} {t u : TypeId} {f g : Nat × Nat} (h : w.heap[a]? = some (.cells c t f)) (k : w.heap[b]? = some (.cells d u g)) (hn : t ≠ u) : a ≠ b := by
  rintro rfl
  rw [h] at k
  cases k
  exact hn rfl
theorem Both.ac {w : World} {a b c d : Nat} {s : MemS} (h : Both w a b c d s) : a ≠ c := blk_ne h.m.hd h.r.hd (by decide)
theorem Both.ad {w : World} {a b c d : Nat} {s : MemS} (h : Both w a b c d s) : a ≠ d := blk_ne h.m.hd h.r.ws (by decide)
theorem Both.bc {w : World} {a b c d : Nat} {s : MemS} (h : Both w a b c d s) : b ≠ c := blk_ne h.m.ws h.r.hd (by decide)
/-- Behind a step of the program's memory the reference's holds what it held. -/
theorem Both.rest {w w' : World} {a b c d : Nat} {s : MemS} (h : Both w a b c d s) (hm : Mod [a, b] w w') : MemAt 148 w' c d s :=
  h.r.mod hm (by have := h.ac; have := h.bc; simp; omega) (by have := h.ad; have := h.bd; simp; omega)
/-- Behind a step of both. -/
theorem Both.next {w w' w'' : World} {a b c d : Nat} {s s' : MemS} (h : Both w a b c d s) (m1 : MemAt 142 w' a b s') (m2 : MemAt 148 w'' c d s') (hm2 : Mod [c, d] w' w'') : Both w'' a b c d s' :=
  ⟨m1.mod hm2 (by have := h.ac; have := h.ad; simp; omega) (by have := h.bc; have := h.bd; simp; omega), m2, h.bd⟩
theorem Both.mod {w w' : World} {a b c d : Nat} {s : MemS} {S : List Nat} (h : Both w a b c d s) (hm : Mod S w w') (h1 : a ∉ S) (h2 : b ∉ S) (h3 : c ∉ S) (h4 : d ∉ S) : Both w' a b c d s :=
  ⟨h.m.mod hm h1 h2, h.r.mod hm h3 h4, h.bd⟩
theorem Both.drewN {w : World} {a b c d : Nat} {s : MemS} (h : Both w a b c d s) (n : Nat) : Both (w.drewN n) a b c d s := ⟨h.m.drewN n, h.r.drewN n, h.bd⟩

def Four (a b c d : Nat) : List Nat := [a, b, c, d]
theorem Mod.ab {w w' : World} {a b c d : Nat} (h : Mod [a, b] w w') : Mod (Four a b c d) w w' := h.mono (by simp [Four])
theorem Mod.cd {w w' : World} {a b c d : Nat} (h : Mod [c, d] w w') : Mod (Four a b c d) w w' := h.mono (by simp [Four])

/-- What a step of both leaves. -/
def Stepped (w : World) (a b c d : Nat) (s : MemS) (e : Ending) (w' : World) : Prop :=
  e = .returned (.bool true) ∧ ∃ s' : MemS, Both w' a b c d s' ∧ s'.ws.length = s.ws.length ∧ Mod (Four a b c d) w w'
theorem Stepped.mk {w w' : World} {a b c d : Nat} {s s' : MemS} (h : Both w' a b c d s') (hl : s'.ws.length = s.ws.length) (hm : Mod (Four a b c d) w w') : Stepped w a b c d s (.returned (.bool true)) w' :=
  ⟨rfl, s', h, hl, hm⟩

theorem len_load (s : MemS) (i : Int) : (s.load i).ws.length = s.ws.length := by unfold MemS.load; split <;> rfl
theorem len_store (s : MemS) (i v : Int) : (s.store i v).ws.length = s.ws.length := by unfold MemS.store; split <;> simp [MemS.put, MemS.touch]
theorem len_add (s : MemS) (i v : Int) : (s.add i v).ws.length = s.ws.length := by unfold MemS.add; split <;> simp [MemS.put, MemS.touch]
theorem len_poke (s : MemS) (i v : Int) : (s.poke i v).ws.length = s.ws.length := by unfold MemS.poke; split <;> simp [MemS.put]

set_option maxHeartbeats 1000000 in
theorem stir_c {a b : Nat} {s : MemS} {w : World} (hM : MemAt 142 w a b s) :
    Calls Try.prog 39 #[.pointer (some ⟨a, 0, none⟩)] w fun e w' => e = .returned (.tuple #[]) ∧ Mod [a, b] w w' := by
  have hn := hM.len
  go_enter Try.func39, Try.ntmps39
  go_wp2_with fail
  refine (open_c hM).mono ?_; rintro e w1 ⟨rfl, M1, d1⟩
  go_wp2_with fail
  refine (add_c M1 0 77).mono ?_; rintro e w2 ⟨rfl, M2, d2⟩
  go_wp2_with fail
  refine (len_c M2).mono ?_; rintro e w3 ⟨rfl, M3, d3⟩
  rw [show ((s.opened.add 0 77).ws.length : Int) = s.ws.length by rw [len_add]; rfl]
  go_wp2_with fail
  refine (poke_c M3 _ 99).mono ?_; rintro e w4 ⟨rfl, M4, d4⟩
  go_wp2_with fail
  refine (open_c M4).mono ?_; rintro e w5 ⟨rfl, M5, d5⟩
  go_wp2
  go_end0
  exact ⟨rfl, d1.trans (d2.trans (d3.trans (d4.trans d5)))⟩

set_option maxRecDepth 100000 in
set_option maxHeartbeats 1000000 in
theorem step03_1 {a b c d : Nat} {s : MemS} {w : World} (hB : Both w a b c d s) (y z : Int) :
    Calls Try.prog 40 #[.pointer (some ⟨a, 0, none⟩), .pointer (some ⟨c, 0, none⟩), .agg #[.int .i64 1, .int .i64 y, .int .u64 z]] w (Stepped w a b c d s) := by
  have ha := hB.m.lta
  have hb := hB.m.ltb
  have hB1 : Both (w.alloc (.cells #[.int .i64 1, .int .i64 y, .int .u64 z] 47)) a b c d s := ⟨hB.m.alloc _, hB.r.alloc _, hB.bd⟩
  go_enter Try.func40, Try.ntmps40
  go_wp2_with fail
  refine (open_c hB1.m).mono ?_; rintro e w1 ⟨rfl, M1, d1⟩
  have R1 := hB1.rest d1
  have Q1 := d1.at (heap_alloc_new w (.cells #[.int .i64 1, .int .i64 y, .int .u64 z] 47)) (by simp; omega)
  have q1 := cell_of_blk (i := 1) Q1 rfl
  have q2 := cell_of_blk (i := 2) Q1 rfl
  go_wp2_with fail
  refine (open_r R1).mono ?_; rintro e w2 ⟨rfl, M2, d2⟩
  have HB := Lib.hid (hB1.next M1 M2 d2)
  have HD : Hid (Mod (Four a b c d) w w2) := (((Mod.refl _ _).alloc _).trans d1.ab).trans d2.cd
  clear hB hB1 M1 M2 R1 d1 d2 Q1 q1 q2
  go_wp2
  go_ret
  exact Stepped.mk HB.out rfl HD.out

set_option maxRecDepth 100000 in
set_option maxHeartbeats 1000000 in
theorem step03_2 {a b c d : Nat} {s : MemS} {w : World} (hB : Both w a b c d s) (y z : Int) :
    Calls Try.prog 40 #[.pointer (some ⟨a, 0, none⟩), .pointer (some ⟨c, 0, none⟩), .agg #[.int .i64 2, .int .i64 y, .int .u64 z]] w (Stepped w a b c d s) := by
  have ha := hB.m.lta
  have hb := hB.m.ltb
  have hB1 : Both (w.alloc (.cells #[.int .i64 2, .int .i64 y, .int .u64 z] 47)) a b c d s := ⟨hB.m.alloc _, hB.r.alloc _, hB.bd⟩
  go_enter Try.func40, Try.ntmps40
  go_wp2_with fail
  refine (load_c hB1.m y).mono ?_; rintro e w1 ⟨rfl, M1, d1⟩
  have R1 := hB1.rest d1
  have Q1 := d1.at (heap_alloc_new w (.cells #[.int .i64 2, .int .i64 y, .int .u64 z] 47)) (by simp; omega)
  have q1 := cell_of_blk (i := 1) Q1 rfl
  have q2 := cell_of_blk (i := 2) Q1 rfl
  go_wp2_with fail
  refine (load_r R1 y).mono ?_; rintro e w2 ⟨rfl, M2, d2⟩
  have HB := Lib.hid (hB1.next M1 M2 d2)
  have HD : Hid (Mod (Four a b c d) w w2) := (((Mod.refl _ _).alloc _).trans d1.ab).trans d2.cd
  clear hB hB1 M1 M2 R1 d1 d2 Q1 q1 q2
  go_wp2
  go_ret
  exact Stepped.mk HB.out (len_load _ _) HD.out

set_option maxRecDepth 100000 in
set_option maxHeartbeats 1000000 in
theorem step03_3 {a b c d : Nat} {s : MemS} {w : World} (hB : Both w a b c d s) (y z : Int) :
    Calls Try.prog 40 #[.pointer (some ⟨a, 0, none⟩), .pointer (some ⟨c, 0, none⟩), .agg #[.int .i64 3, .int .i64 y, .int .u64 z]] w (Stepped w a b c d s) := by
  have ha := hB.m.lta
  have hb := hB.m.ltb
  have hB1 : Both (w.alloc (.cells #[.int .i64 3, .int .i64 y, .int .u64 z] 47)) a b c d s := ⟨hB.m.alloc _, hB.r.alloc _, hB.bd⟩
  go_enter Try.func40, Try.ntmps40
  go_wp2_with fail
  refine (store_c hB1.m y z).mono ?_; rintro e w1 ⟨rfl, M1, d1⟩
  have R1 := hB1.rest d1
  have Q1 := d1.at (heap_alloc_new w (.cells #[.int .i64 3, .int .i64 y, .int .u64 z] 47)) (by simp; omega)
  have q1 := cell_of_blk (i := 1) Q1 rfl
  have q2 := cell_of_blk (i := 2) Q1 rfl
  go_wp2_with fail
  refine (store_r R1 y z).mono ?_; rintro e w2 ⟨rfl, M2, d2⟩
  have HB := Lib.hid (hB1.next M1 M2 d2)
  have HD : Hid (Mod (Four a b c d) w w2) := (((Mod.refl _ _).alloc _).trans d1.ab).trans d2.cd
  clear hB hB1 M1 M2 R1 d1 d2 Q1 q1 q2
  go_wp2
  go_ret
  exact Stepped.mk HB.out (len_store _ _ _) HD.out

set_option maxRecDepth 100000 in
set_option maxHeartbeats 1000000 in
theorem step03_4 {a b c d : Nat} {s : MemS} {w : World} (hB : Both w a b c d s) (y z : Int) :
    Calls Try.prog 40 #[.pointer (some ⟨a, 0, none⟩), .pointer (some ⟨c, 0, none⟩), .agg #[.int .i64 4, .int .i64 y, .int .u64 z]] w (Stepped w a b c d s) := by
  have ha := hB.m.lta
  have hb := hB.m.ltb
  have hB1 : Both (w.alloc (.cells #[.int .i64 4, .int .i64 y, .int .u64 z] 47)) a b c d s := ⟨hB.m.alloc _, hB.r.alloc _, hB.bd⟩
  go_enter Try.func40, Try.ntmps40
  go_wp2_with fail
  refine (add_c hB1.m y z).mono ?_; rintro e w1 ⟨rfl, M1, d1⟩
  have R1 := hB1.rest d1
  have Q1 := d1.at (heap_alloc_new w (.cells #[.int .i64 4, .int .i64 y, .int .u64 z] 47)) (by simp; omega)
  have q1 := cell_of_blk (i := 1) Q1 rfl
  have q2 := cell_of_blk (i := 2) Q1 rfl
  go_wp2_with fail
  refine (add_r R1 y z).mono ?_; rintro e w2 ⟨rfl, M2, d2⟩
  have HB := Lib.hid (hB1.next M1 M2 d2)
  have HD : Hid (Mod (Four a b c d) w w2) := (((Mod.refl _ _).alloc _).trans d1.ab).trans d2.cd
  clear hB hB1 M1 M2 R1 d1 d2 Q1 q1 q2
  go_wp2
  go_ret
  exact Stepped.mk HB.out (len_add _ _ _) HD.out

set_option maxRecDepth 100000 in
set_option maxHeartbeats 1000000 in
theorem step03_5 {a b c d : Nat} {s : MemS} {w : World} (hB : Both w a b c d s) (y z : Int) :
    Calls Try.prog 40 #[.pointer (some ⟨a, 0, none⟩), .pointer (some ⟨c, 0, none⟩), .agg #[.int .i64 5, .int .i64 y, .int .u64 z]] w (Stepped w a b c d s) := by
  have ha := hB.m.lta
  have hb := hB.m.ltb
  have hB1 : Both (w.alloc (.cells #[.int .i64 5, .int .i64 y, .int .u64 z] 47)) a b c d s := ⟨hB.m.alloc _, hB.r.alloc _, hB.bd⟩
  go_enter Try.func40, Try.ntmps40
  go_wp2_with fail
  refine (peek_c hB1.m y).mono ?_; rintro e w1 ⟨rfl, M1, d1⟩
  have R1 := hB1.rest d1
  have Q1 := d1.at (heap_alloc_new w (.cells #[.int .i64 5, .int .i64 y, .int .u64 z] 47)) (by simp; omega)
  have q1 := cell_of_blk (i := 1) Q1 rfl
  have q2 := cell_of_blk (i := 2) Q1 rfl
  go_wp2_with fail
  refine (peek_r R1 y).mono ?_; rintro e w2 ⟨rfl, M2, d2⟩
  have HB := Lib.hid (hB1.next M1 M2 d2)
  have HD : Hid (Mod (Four a b c d) w w2) := (((Mod.refl _ _).alloc _).trans d1.ab).trans d2.cd
  clear hB hB1 M1 M2 R1 d1 d2 Q1 q1 q2
  go_wp2
  go_ret
  exact Stepped.mk HB.out rfl HD.out

set_option maxRecDepth 100000 in
set_option maxHeartbeats 1000000 in
theorem step03_6 {a b c d : Nat} {s : MemS} {w : World} (hB : Both w a b c d s) (y z : Int) :
    Calls Try.prog 40 #[.pointer (some ⟨a, 0, none⟩), .pointer (some ⟨c, 0, none⟩), .agg #[.int .i64 6, .int .i64 y, .int .u64 z]] w (Stepped w a b c d s) := by
  have ha := hB.m.lta
  have hb := hB.m.ltb
  have hB1 : Both (w.alloc (.cells #[.int .i64 6, .int .i64 y, .int .u64 z] 47)) a b c d s := ⟨hB.m.alloc _, hB.r.alloc _, hB.bd⟩
  go_enter Try.func40, Try.ntmps40
  go_wp2_with fail
  refine (poke_c hB1.m y z).mono ?_; rintro e w1 ⟨rfl, M1, d1⟩
  have R1 := hB1.rest d1
  have Q1 := d1.at (heap_alloc_new w (.cells #[.int .i64 6, .int .i64 y, .int .u64 z] 47)) (by simp; omega)
  have q1 := cell_of_blk (i := 1) Q1 rfl
  have q2 := cell_of_blk (i := 2) Q1 rfl
  go_wp2_with fail
  refine (poke_r R1 y z).mono ?_; rintro e w2 ⟨rfl, M2, d2⟩
  have HB := Lib.hid (hB1.next M1 M2 d2)
  have HD : Hid (Mod (Four a b c d) w w2) := (((Mod.refl _ _).alloc _).trans d1.ab).trans d2.cd
  clear hB hB1 M1 M2 R1 d1 d2 Q1 q1 q2
  go_wp2
  go_ret
  exact Stepped.mk HB.out (len_poke _ _ _) HD.out

set_option maxRecDepth 100000 in
set_option maxHeartbeats 1000000 in
theorem step03_7 {a b c d : Nat} {s : MemS} {w : World} (hB : Both w a b c d s) (y z : Int) :
    Calls Try.prog 40 #[.pointer (some ⟨a, 0, none⟩), .pointer (some ⟨c, 0, none⟩), .agg #[.int .i64 7, .int .i64 y, .int .u64 z]] w (Stepped w a b c d s) := by
  have hB1 : Both (w.alloc (.cells #[.int .i64 7, .int .i64 y, .int .u64 z] 47)) a b c d s := ⟨hB.m.alloc _, hB.r.alloc _, hB.bd⟩
  have d0 : Mod [] w (w.alloc (.cells #[.int .i64 7, .int .i64 y, .int .u64 z] 47)) := (Mod.refl _ _).alloc _
  have hl := hB.m.len
  go_enter Try.func40, Try.ntmps40
  go_wp2_with fail
  refine (all_r hB1.r).mono ?_; rintro e w1 ⟨l, rfl, L1, R1, d1⟩
  have M1 := hB1.m.mod d1 (by simp) (by simp)
  have D1 := d0.trans d1
  have B1 : Both w1 a b c d s := ⟨M1, R1, hB.bd⟩
  clear d0 d1 hB1 M1 R1
  go_wp2_with fail
  refine (len_cq B1.m).mono ?_; rintro e w2 ⟨rfl, rfl⟩
  go_wp2_with fail
  refine (len_rq B1.r).mono ?_; rintro e w2 ⟨rfl, rfl⟩
  go_wp2_with fail
  refine (count_cq B1.m).mono ?_; rintro e w2 ⟨rfl, rfl⟩
  go_wp2_with fail
  refine (count_rq B1.r).mono ?_; rintro e w2 ⟨rfl, rfl⟩
  go_wp2_with fail
  refine (all_e B1.m).mono ?_; rintro e w3 ⟨g, rfl, G3, hg, M3, d3⟩
  have L3 := L1.mod d3 (by simp)
  have B3 := B1.mod d3 (by simp) (by simp) (by simp) (by simp)
  have D3 := D1.trans d3
  clear D1 d3 B1 L1 M3
  go_wp2_with fail
  refine (words42 (ListAt.of_blk G3) L3 hl).mono ?_; rintro e w4 ⟨rfl, m, rfl⟩
  have HB := Lib.hid (B3.drewN m)
  have HD : Hid (Mod (Four a b c d) w (w3.drewN m)) := (D3.weak _).drewN m
  clear B3 D3 G3 L3 hB
  go_wp2
  go_ret
  exact Stepped.mk HB.out rfl HD.out

set_option maxRecDepth 100000 in
set_option maxHeartbeats 1000000 in
theorem step03_0 {a b c d : Nat} {s : MemS} {w : World} (hB : Both w a b c d s) (x y z : Int) (n1 : (x == 1) = false) (n2 : (x == 2) = false) (n3 : (x == 3) = false) (n4 : (x == 4) = false) (n5 : (x == 5) = false) (n6 : (x == 6) = false) (n7 : (x == 7) = false) :
    Calls Try.prog 40 #[.pointer (some ⟨a, 0, none⟩), .pointer (some ⟨c, 0, none⟩), .agg #[.int .i64 x, .int .i64 y, .int .u64 z]] w (Stepped w a b c d s) := by
  go_enter Try.func40, Try.ntmps40
  go_wp2
  go_ret
  exact Stepped.mk ⟨hB.m.alloc _, hB.r.alloc _, hB.bd⟩ rfl ((Mod.refl _ _).alloc _)

theorem step03 {a b c d : Nat} {s : MemS} {w : World} (hB : Both w a b c d s) (x y z : Int) :
    Calls Try.prog 40 #[.pointer (some ⟨a, 0, none⟩), .pointer (some ⟨c, 0, none⟩), .agg #[.int .i64 x, .int .i64 y, .int .u64 z]] w (Stepped w a b c d s) := by
  by_cases h1 : x = 1
  · subst h1; exact step03_1 hB y z
  by_cases h2 : x = 2
  · subst h2; exact step03_2 hB y z
  by_cases h3 : x = 3
  · subst h3; exact step03_3 hB y z
  by_cases h4 : x = 4
  · subst h4; exact step03_4 hB y z
  by_cases h5 : x = 5
  · subst h5; exact step03_5 hB y z
  by_cases h6 : x = 6
  · subst h6; exact step03_6 hB y z
  by_cases h7 : x = 7
  · subst h7; exact step03_7 hB y z
  exact step03_0 hB x y z (by simp [h1]) (by simp [h2]) (by simp [h3]) (by simp [h4]) (by simp [h5]) (by simp [h6]) (by simp [h7])

end Go.Proofs.Ytobmgnoceacoaaa

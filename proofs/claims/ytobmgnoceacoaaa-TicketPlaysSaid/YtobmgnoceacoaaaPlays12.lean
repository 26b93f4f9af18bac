/- Layer 12: a step of both memories. -/
import Derived.Test.YtobmgnoceacoaaaTK
import Derived.Test.YtobmgnoceacoaaaPlays03
namespace Go.Proofs.Ytobmgnoceacoaaa
open Go.RowKit

theorem blk_two (w : World) (x y : Obj) : ((w.alloc x).alloc y).heap[w.heap.size + 1]? = some y := by
  have h := heap_alloc_new (w.alloc x) y
  rwa [World.size_alloc] at h

set_option maxRecDepth 100000 in
set_option maxHeartbeats 1000000 in
theorem step12_1 {a b c d : Nat} {s : MemS} {w : World} (hB : Both w a b c d s) (y z u : Int) :
    Calls Try.prog 52 #[.pointer (some ⟨a, 0, none⟩), .pointer (some ⟨c, 0, none⟩), .agg #[.int .i64 1, .int .i64 y, .int .i64 z, .int .u64 u]] w (Stepped w a b c d s) := by
  have ha := hB.m.lta
  have hb := hB.m.ltb
  have hB1 : Both ((w.alloc (.cells #[.int .i64 1, .int .i64 y, .int .i64 z, .int .u64 u] 75)).alloc (.cells #[.int .i64 y, .int .i64 z, .int .i64 0, .int .i64 0, .int .i64 0, .int .i64 0] 35)) a b c d s := ⟨(hB.m.alloc _).alloc _, (hB.r.alloc _).alloc _, hB.bd⟩
  go_enter Try.func52, Try.ntmps52
  go_wp2_with fail
  refine (open_c hB1.m).mono ?_; rintro e w1 ⟨rfl, M1, d1⟩
  have R1 := hB1.rest d1
  have Q1 := d1.at (blk_alloc_old _ (heap_alloc_new w (.cells #[.int .i64 1, .int .i64 y, .int .i64 z, .int .u64 u] 75))) (by simp; omega)
  have P1 := d1.at (blk_two w (.cells #[.int .i64 1, .int .i64 y, .int .i64 z, .int .u64 u] 75) (.cells #[.int .i64 y, .int .i64 z, .int .i64 0, .int .i64 0, .int .i64 0, .int .i64 0] 35)) (by simp; omega)
  have q1 := cell_of_blk (i := 1) Q1 rfl
  have q3 := cell_of_blk (i := 3) Q1 rfl
  have p0 := cell_of_blk (i := 0) P1 rfl
  have p1 := cell_of_blk (i := 1) P1 rfl
  have p2 := cell_of_blk (i := 2) P1 rfl
  have p3 := cell_of_blk (i := 3) P1 rfl
  have p4 := cell_of_blk (i := 4) P1 rfl
  have p5 := cell_of_blk (i := 5) P1 rfl
  go_wp2_with fail
  refine (open_r R1).mono ?_; rintro e w2 ⟨rfl, M2, d2⟩
  have HB := Lib.hid (hB1.next M1 M2 d2)
  have HD : Hid (Mod (Four a b c d) w w2) := ((((Mod.refl _ _).alloc _).alloc _).trans d1.ab).trans d2.cd
  clear hB hB1 M1 M2 R1 d1 d2 Q1 P1 q1 q3 p0 p1 p2 p3 p4 p5
  go_wp2
  go_ret
  exact Stepped.mk HB.out rfl HD.out

set_option maxRecDepth 100000 in
set_option maxHeartbeats 1000000 in
theorem step12_2 {a b c d : Nat} {s : MemS} {w : World} (hB : Both w a b c d s) (y z u : Int) :
    Calls Try.prog 52 #[.pointer (some ⟨a, 0, none⟩), .pointer (some ⟨c, 0, none⟩), .agg #[.int .i64 2, .int .i64 y, .int .i64 z, .int .u64 u]] w (Stepped w a b c d s) := by
  have ha := hB.m.lta
  have hb := hB.m.ltb
  have hB1 : Both ((w.alloc (.cells #[.int .i64 2, .int .i64 y, .int .i64 z, .int .u64 u] 75)).alloc (.cells #[.int .i64 y, .int .i64 z, .int .i64 0, .int .i64 0, .int .i64 0, .int .i64 0] 35)) a b c d s := ⟨(hB.m.alloc _).alloc _, (hB.r.alloc _).alloc _, hB.bd⟩
  go_enter Try.func52, Try.ntmps52
  go_wp2_with fail
  refine (draw_c hB1.m y z 0 0 0 0).mono ?_; rintro e w1 ⟨rfl, M1, d1⟩
  have R1 := hB1.rest d1
  have Q1 := d1.at (blk_alloc_old _ (heap_alloc_new w (.cells #[.int .i64 2, .int .i64 y, .int .i64 z, .int .u64 u] 75))) (by simp; omega)
  have P1 := d1.at (blk_two w (.cells #[.int .i64 2, .int .i64 y, .int .i64 z, .int .u64 u] 75) (.cells #[.int .i64 y, .int .i64 z, .int .i64 0, .int .i64 0, .int .i64 0, .int .i64 0] 35)) (by simp; omega)
  have q1 := cell_of_blk (i := 1) Q1 rfl
  have q3 := cell_of_blk (i := 3) Q1 rfl
  have p0 := cell_of_blk (i := 0) P1 rfl
  have p1 := cell_of_blk (i := 1) P1 rfl
  have p2 := cell_of_blk (i := 2) P1 rfl
  have p3 := cell_of_blk (i := 3) P1 rfl
  have p4 := cell_of_blk (i := 4) P1 rfl
  have p5 := cell_of_blk (i := 5) P1 rfl
  go_wp2_with fail
  refine (draw_r R1 y z 0 0 0 0).mono ?_; rintro e w2 ⟨rfl, M2, d2⟩
  have HB := Lib.hid (hB1.next M1 M2 d2)
  have HD : Hid (Mod (Four a b c d) w w2) := ((((Mod.refl _ _).alloc _).alloc _).trans d1.ab).trans d2.cd
  clear hB hB1 M1 M2 R1 d1 d2 Q1 P1 q1 q3 p0 p1 p2 p3 p4 p5
  go_wp2
  go_ret
  exact Stepped.mk HB.out (len_add _ _ _) HD.out

set_option maxRecDepth 100000 in
set_option maxHeartbeats 1000000 in
theorem step12_3 {a b c d : Nat} {s : MemS} {w : World} (hB : Both w a b c d s) (y z u : Int) :
    Calls Try.prog 52 #[.pointer (some ⟨a, 0, none⟩), .pointer (some ⟨c, 0, none⟩), .agg #[.int .i64 3, .int .i64 y, .int .i64 z, .int .u64 u]] w (Stepped w a b c d s) := by
  have ha := hB.m.lta
  have hb := hB.m.ltb
  have hB1 : Both ((w.alloc (.cells #[.int .i64 3, .int .i64 y, .int .i64 z, .int .u64 u] 75)).alloc (.cells #[.int .i64 y, .int .i64 z, .int .i64 0, .int .i64 0, .int .i64 0, .int .i64 0] 35)) a b c d s := ⟨(hB.m.alloc _).alloc _, (hB.r.alloc _).alloc _, hB.bd⟩
  go_enter Try.func52, Try.ntmps52
  go_wp2_with fail
  refine (look_c hB1.m y z 0 0 0 0 u).mono ?_; rintro e w1 ⟨rfl, M1, d1⟩
  have R1 := hB1.rest d1
  have Q1 := d1.at (blk_alloc_old _ (heap_alloc_new w (.cells #[.int .i64 3, .int .i64 y, .int .i64 z, .int .u64 u] 75))) (by simp; omega)
  have P1 := d1.at (blk_two w (.cells #[.int .i64 3, .int .i64 y, .int .i64 z, .int .u64 u] 75) (.cells #[.int .i64 y, .int .i64 z, .int .i64 0, .int .i64 0, .int .i64 0, .int .i64 0] 35)) (by simp; omega)
  have q1 := cell_of_blk (i := 1) Q1 rfl
  have q3 := cell_of_blk (i := 3) Q1 rfl
  have p0 := cell_of_blk (i := 0) P1 rfl
  have p1 := cell_of_blk (i := 1) P1 rfl
  have p2 := cell_of_blk (i := 2) P1 rfl
  have p3 := cell_of_blk (i := 3) P1 rfl
  have p4 := cell_of_blk (i := 4) P1 rfl
  have p5 := cell_of_blk (i := 5) P1 rfl
  go_wp2_with fail
  refine (look_r R1 y z 0 0 0 0 u).mono ?_; rintro e w2 ⟨rfl, M2, d2⟩
  have HB := Lib.hid (hB1.next M1 M2 d2)
  have HD : Hid (Mod (Four a b c d) w w2) := ((((Mod.refl _ _).alloc _).alloc _).trans d1.ab).trans d2.cd
  clear hB hB1 M1 M2 R1 d1 d2 Q1 P1 q1 q3 p0 p1 p2 p3 p4 p5
  go_wp2
  go_ret
  exact Stepped.mk HB.out (len_load _ _) HD.out

set_option maxRecDepth 100000 in
set_option maxHeartbeats 1000000 in
theorem step12_4 {a b c d : Nat} {s : MemS} {w : World} (hB : Both w a b c d s) (y z u : Int) :
    Calls Try.prog 52 #[.pointer (some ⟨a, 0, none⟩), .pointer (some ⟨c, 0, none⟩), .agg #[.int .i64 4, .int .i64 y, .int .i64 z, .int .u64 u]] w (Stepped w a b c d s) := by
  have ha := hB.m.lta
  have hb := hB.m.ltb
  have hB1 : Both ((w.alloc (.cells #[.int .i64 4, .int .i64 y, .int .i64 z, .int .u64 u] 75)).alloc (.cells #[.int .i64 y, .int .i64 z, .int .i64 0, .int .i64 0, .int .i64 0, .int .i64 0] 35)) a b c d s := ⟨(hB.m.alloc _).alloc _, (hB.r.alloc _).alloc _, hB.bd⟩
  go_enter Try.func52, Try.ntmps52
  go_wp2_with fail
  refine (pass_c hB1.m y z 0 0 0 0 u).mono ?_; rintro e w1 ⟨rfl, M1, d1⟩
  have R1 := hB1.rest d1
  have Q1 := d1.at (blk_alloc_old _ (heap_alloc_new w (.cells #[.int .i64 4, .int .i64 y, .int .i64 z, .int .u64 u] 75))) (by simp; omega)
  have P1 := d1.at (blk_two w (.cells #[.int .i64 4, .int .i64 y, .int .i64 z, .int .u64 u] 75) (.cells #[.int .i64 y, .int .i64 z, .int .i64 0, .int .i64 0, .int .i64 0, .int .i64 0] 35)) (by simp; omega)
  have q1 := cell_of_blk (i := 1) Q1 rfl
  have q3 := cell_of_blk (i := 3) Q1 rfl
  have p0 := cell_of_blk (i := 0) P1 rfl
  have p1 := cell_of_blk (i := 1) P1 rfl
  have p2 := cell_of_blk (i := 2) P1 rfl
  have p3 := cell_of_blk (i := 3) P1 rfl
  have p4 := cell_of_blk (i := 4) P1 rfl
  have p5 := cell_of_blk (i := 5) P1 rfl
  go_wp2_with fail
  refine (pass_r R1 y z 0 0 0 0 u).mono ?_; rintro e w2 ⟨rfl, M2, d2⟩
  have HB := Lib.hid (hB1.next M1 M2 d2)
  have HD : Hid (Mod (Four a b c d) w w2) := ((((Mod.refl _ _).alloc _).alloc _).trans d1.ab).trans d2.cd
  clear hB hB1 M1 M2 R1 d1 d2 Q1 P1 q1 q3 p0 p1 p2 p3 p4 p5
  go_wp2
  go_ret
  exact Stepped.mk HB.out (len_store _ _ _) HD.out

set_option maxRecDepth 100000 in
set_option maxHeartbeats 1000000 in
theorem step12_5 {a b c d : Nat} {s : MemS} {w : World} (hB : Both w a b c d s) (y z u : Int) :
    Calls Try.prog 52 #[.pointer (some ⟨a, 0, none⟩), .pointer (some ⟨c, 0, none⟩), .agg #[.int .i64 5, .int .i64 y, .int .i64 z, .int .u64 u]] w (Stepped w a b c d s) := by
  have ha := hB.m.lta
  have hb := hB.m.ltb
  have hB1 : Both ((w.alloc (.cells #[.int .i64 5, .int .i64 y, .int .i64 z, .int .u64 u] 75)).alloc (.cells #[.int .i64 y, .int .i64 z, .int .i64 0, .int .i64 0, .int .i64 0, .int .i64 0] 35)) a b c d s := ⟨(hB.m.alloc _).alloc _, (hB.r.alloc _).alloc _, hB.bd⟩
  go_enter Try.func52, Try.ntmps52
  go_wp2_with fail
  refine (ahead_c hB1.m y z 0 0 0 0 u).mono ?_; rintro e w1 ⟨rfl, M1, d1⟩
  have R1 := hB1.rest d1
  have Q1 := d1.at (blk_alloc_old _ (heap_alloc_new w (.cells #[.int .i64 5, .int .i64 y, .int .i64 z, .int .u64 u] 75))) (by simp; omega)
  have P1 := d1.at (blk_two w (.cells #[.int .i64 5, .int .i64 y, .int .i64 z, .int .u64 u] 75) (.cells #[.int .i64 y, .int .i64 z, .int .i64 0, .int .i64 0, .int .i64 0, .int .i64 0] 35)) (by simp; omega)
  have q1 := cell_of_blk (i := 1) Q1 rfl
  have q3 := cell_of_blk (i := 3) Q1 rfl
  have p0 := cell_of_blk (i := 0) P1 rfl
  have p1 := cell_of_blk (i := 1) P1 rfl
  have p2 := cell_of_blk (i := 2) P1 rfl
  have p3 := cell_of_blk (i := 3) P1 rfl
  have p4 := cell_of_blk (i := 4) P1 rfl
  have p5 := cell_of_blk (i := 5) P1 rfl
  go_wp2_with fail
  refine (ahead_r R1 y z 0 0 0 0 u).mono ?_; rintro e w2 ⟨rfl, M2, d2⟩
  have HB := Lib.hid (hB1.next M1 M2 d2)
  have HD : Hid (Mod (Four a b c d) w w2) := ((((Mod.refl _ _).alloc _).alloc _).trans d1.ab).trans d2.cd
  clear hB hB1 M1 M2 R1 d1 d2 Q1 P1 q1 q3 p0 p1 p2 p3 p4 p5
  go_wp2
  go_ret
  exact Stepped.mk HB.out rfl HD.out

set_option maxRecDepth 100000 in
set_option maxHeartbeats 1000000 in
theorem step12_6 {a b c d : Nat} {s : MemS} {w : World} (hB : Both w a b c d s) (y z u : Int) :
    Calls Try.prog 52 #[.pointer (some ⟨a, 0, none⟩), .pointer (some ⟨c, 0, none⟩), .agg #[.int .i64 6, .int .i64 y, .int .i64 z, .int .u64 u]] w (Stepped w a b c d s) := by
  have ha := hB.m.lta
  have hb := hB.m.ltb
  have hB1 : Both ((w.alloc (.cells #[.int .i64 6, .int .i64 y, .int .i64 z, .int .u64 u] 75)).alloc (.cells #[.int .i64 y, .int .i64 z, .int .i64 0, .int .i64 0, .int .i64 0, .int .i64 0] 35)) a b c d s := ⟨(hB.m.alloc _).alloc _, (hB.r.alloc _).alloc _, hB.bd⟩
  go_enter Try.func52, Try.ntmps52
  go_wp2_with fail
  refine (poke_c hB1.m y u).mono ?_; rintro e w1 ⟨rfl, M1, d1⟩
  have R1 := hB1.rest d1
  have Q1 := d1.at (blk_alloc_old _ (heap_alloc_new w (.cells #[.int .i64 6, .int .i64 y, .int .i64 z, .int .u64 u] 75))) (by simp; omega)
  have P1 := d1.at (blk_two w (.cells #[.int .i64 6, .int .i64 y, .int .i64 z, .int .u64 u] 75) (.cells #[.int .i64 y, .int .i64 z, .int .i64 0, .int .i64 0, .int .i64 0, .int .i64 0] 35)) (by simp; omega)
  have q1 := cell_of_blk (i := 1) Q1 rfl
  have q3 := cell_of_blk (i := 3) Q1 rfl
  have p0 := cell_of_blk (i := 0) P1 rfl
  have p1 := cell_of_blk (i := 1) P1 rfl
  have p2 := cell_of_blk (i := 2) P1 rfl
  have p3 := cell_of_blk (i := 3) P1 rfl
  have p4 := cell_of_blk (i := 4) P1 rfl
  have p5 := cell_of_blk (i := 5) P1 rfl
  go_wp2_with fail
  refine (poke_r R1 y u).mono ?_; rintro e w2 ⟨rfl, M2, d2⟩
  have HB := Lib.hid (hB1.next M1 M2 d2)
  have HD : Hid (Mod (Four a b c d) w w2) := ((((Mod.refl _ _).alloc _).alloc _).trans d1.ab).trans d2.cd
  clear hB hB1 M1 M2 R1 d1 d2 Q1 P1 q1 q3 p0 p1 p2 p3 p4 p5
  go_wp2
  go_ret
  exact Stepped.mk HB.out (len_poke _ _ _) HD.out

set_option maxRecDepth 100000 in
set_option maxHeartbeats 1000000 in
theorem step12_0 {a b c d : Nat} {s : MemS} {w : World} (hB : Both w a b c d s) (x y z u : Int) (n1 : (x == 1) = false) (n2 : (x == 2) = false) (n3 : (x == 3) = false) (n4 : (x == 4) = false) (n5 : (x == 5) = false) (n6 : (x == 6) = false) :
    Calls Try.prog 52 #[.pointer (some ⟨a, 0, none⟩), .pointer (some ⟨c, 0, none⟩), .agg #[.int .i64 x, .int .i64 y, .int .i64 z, .int .u64 u]] w (Stepped w a b c d s) := by
  go_enter Try.func52, Try.ntmps52
  go_wp2
  go_ret
  exact Stepped.mk ⟨(hB.m.alloc _).alloc _, (hB.r.alloc _).alloc _, hB.bd⟩ rfl (((Mod.refl _ _).alloc _).alloc _)

theorem step12 {a b c d : Nat} {s : MemS} {w : World} (hB : Both w a b c d s) (x y z u : Int) :
    Calls Try.prog 52 #[.pointer (some ⟨a, 0, none⟩), .pointer (some ⟨c, 0, none⟩), .agg #[.int .i64 x, .int .i64 y, .int .i64 z, .int .u64 u]] w (Stepped w a b c d s) := by
  by_cases h1 : x = 1
  · subst h1; exact step12_1 hB y z u
  by_cases h2 : x = 2
  · subst h2; exact step12_2 hB y z u
  by_cases h3 : x = 3
  · subst h3; exact step12_3 hB y z u
  by_cases h4 : x = 4
  · subst h4; exact step12_4 hB y z u
  by_cases h5 : x = 5
  · subst h5; exact step12_5 hB y z u
  by_cases h6 : x = 6
  · subst h6; exact step12_6 hB y z u
  exact step12_0 hB x y z u (by simp [h1]) (by simp [h2]) (by simp [h3]) (by simp [h4]) (by simp [h5]) (by simp [h6])
end Go.Proofs.Ytobmgnoceacoaaa

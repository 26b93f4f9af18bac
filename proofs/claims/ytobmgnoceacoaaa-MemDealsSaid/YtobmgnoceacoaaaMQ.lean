/- The contracts of mem.Place, and of the reference's Place and MayBe: of any config. -/
import Derived.Test.YtobmgnoceacoaaaBase
namespace Go.Proofs.Ytobmgnoceacoaaa
open Go.RowKit

/-- A config that may be. -/
def CfgOk (c t f k : Int) : Prop := 1 ≤ c ∧ c ≤ 256 ∧ 1 ≤ t ∧ t ≤ 8 ∧ 1 ≤ f ∧ f ≤ 1024 ∧ 1 ≤ k ∧ k ≤ 32
theorem cells_of_blk {w : World} {b : Nat} {c : Array Value} {t : TypeId} (h : w.heap[b]? = some (.cells c t (0, 0))) : (∀ o, w.cell? ⟨b, o, none⟩ = c[o]?) ∧ (∀ o, w.frozen? ⟨b, o, none⟩ = false) :=
  ⟨fun o => by simp [World.cell?, h], fun o => by simp [World.frozen?, h]⟩
def cfgV (c t f k : Int) : Value := .agg #[.int .i64 c, .int .i64 t, .int .i64 f, .int .i64 k]
def planV (a b c d e f : Int) : Value := .agg #[.int .i64 a, .int .i64 b, .int .i64 c, .int .i64 d, .int .i64 e, .int .i64 f]

set_option maxHeartbeats 1000000 in
theorem place_bad0 (c t f k : Int)  (hb : c < 1) (w : World) :
    Calls Try.prog 29 #[.agg #[.int .i64 c, .int .i64 t, .int .i64 f, .int .i64 k]] w fun e w' => e = .returned (.tuple #[.agg #[.int .i64 0, .int .i64 0, .int .i64 0, .int .i64 0, .int .i64 0, .int .i64 0], .int .i64 1]) ∧ Mod [] w w' := by
  go_enter Try.func29, Try.ntmps29
  go_wp2
  exact bodyPost_ret (v := .tuple #[.agg #[.int .i64 0, .int .i64 0, .int .i64 0, .int .i64 0, .int .i64 0, .int .i64 0], .int .i64 1]) (by simp [results, Try.results29, go_sem]) rfl ⟨rfl, (by repeat (first | with_reducible exact Mod.refl _ _ | with_reducible assumption | with_reducible refine Mod.drew ?_ | with_reducible refine Mod.alloc ?_ _ | with_reducible refine Mod.set_new ?_ _ _ _ (by simp)))⟩
set_option maxHeartbeats 1000000 in
theorem place_bad1 (c t f k : Int) (h0 : 1 ≤ c) (hb : 256 < c) (w : World) :
    Calls Try.prog 29 #[.agg #[.int .i64 c, .int .i64 t, .int .i64 f, .int .i64 k]] w fun e w' => e = .returned (.tuple #[.agg #[.int .i64 0, .int .i64 0, .int .i64 0, .int .i64 0, .int .i64 0, .int .i64 0], .int .i64 1]) ∧ Mod [] w w' := by
  go_enter Try.func29, Try.ntmps29
  go_wp2
  exact bodyPost_ret (v := .tuple #[.agg #[.int .i64 0, .int .i64 0, .int .i64 0, .int .i64 0, .int .i64 0, .int .i64 0], .int .i64 1]) (by simp [results, Try.results29, go_sem]) rfl ⟨rfl, (by repeat (first | with_reducible exact Mod.refl _ _ | with_reducible assumption | with_reducible refine Mod.drew ?_ | with_reducible refine Mod.alloc ?_ _ | with_reducible refine Mod.set_new ?_ _ _ _ (by simp)))⟩
set_option maxHeartbeats 1000000 in
theorem place_bad2 (c t f k : Int) (h0 : 1 ≤ c) (h1 : c ≤ 256) (hb : t < 1) (w : World) :
    Calls Try.prog 29 #[.agg #[.int .i64 c, .int .i64 t, .int .i64 f, .int .i64 k]] w fun e w' => e = .returned (.tuple #[.agg #[.int .i64 0, .int .i64 0, .int .i64 0, .int .i64 0, .int .i64 0, .int .i64 0], .int .i64 1]) ∧ Mod [] w w' := by
  go_enter Try.func29, Try.ntmps29
  go_wp2
  exact bodyPost_ret (v := .tuple #[.agg #[.int .i64 0, .int .i64 0, .int .i64 0, .int .i64 0, .int .i64 0, .int .i64 0], .int .i64 1]) (by simp [results, Try.results29, go_sem]) rfl ⟨rfl, (by repeat (first | with_reducible exact Mod.refl _ _ | with_reducible assumption | with_reducible refine Mod.drew ?_ | with_reducible refine Mod.alloc ?_ _ | with_reducible refine Mod.set_new ?_ _ _ _ (by simp)))⟩
set_option maxHeartbeats 1000000 in
theorem place_bad3 (c t f k : Int) (h0 : 1 ≤ c) (h1 : c ≤ 256) (h2 : 1 ≤ t) (hb : 8 < t) (w : World) :
    Calls Try.prog 29 #[.agg #[.int .i64 c, .int .i64 t, .int .i64 f, .int .i64 k]] w fun e w' => e = .returned (.tuple #[.agg #[.int .i64 0, .int .i64 0, .int .i64 0, .int .i64 0, .int .i64 0, .int .i64 0], .int .i64 1]) ∧ Mod [] w w' := by
  go_enter Try.func29, Try.ntmps29
  go_wp2
  exact bodyPost_ret (v := .tuple #[.agg #[.int .i64 0, .int .i64 0, .int .i64 0, .int .i64 0, .int .i64 0, .int .i64 0], .int .i64 1]) (by simp [results, Try.results29, go_sem]) rfl ⟨rfl, (by repeat (first | with_reducible exact Mod.refl _ _ | with_reducible assumption | with_reducible refine Mod.drew ?_ | with_reducible refine Mod.alloc ?_ _ | with_reducible refine Mod.set_new ?_ _ _ _ (by simp)))⟩
set_option maxHeartbeats 1000000 in
theorem place_bad4 (c t f k : Int) (h0 : 1 ≤ c) (h1 : c ≤ 256) (h2 : 1 ≤ t) (h3 : t ≤ 8) (hb : f < 1) (w : World) :
    Calls Try.prog 29 #[.agg #[.int .i64 c, .int .i64 t, .int .i64 f, .int .i64 k]] w fun e w' => e = .returned (.tuple #[.agg #[.int .i64 0, .int .i64 0, .int .i64 0, .int .i64 0, .int .i64 0, .int .i64 0], .int .i64 1]) ∧ Mod [] w w' := by
  go_enter Try.func29, Try.ntmps29
  go_wp2
  exact bodyPost_ret (v := .tuple #[.agg #[.int .i64 0, .int .i64 0, .int .i64 0, .int .i64 0, .int .i64 0, .int .i64 0], .int .i64 1]) (by simp [results, Try.results29, go_sem]) rfl ⟨rfl, (by repeat (first | with_reducible exact Mod.refl _ _ | with_reducible assumption | with_reducible refine Mod.drew ?_ | with_reducible refine Mod.alloc ?_ _ | with_reducible refine Mod.set_new ?_ _ _ _ (by simp)))⟩
set_option maxHeartbeats 1000000 in
theorem place_bad5 (c t f k : Int) (h0 : 1 ≤ c) (h1 : c ≤ 256) (h2 : 1 ≤ t) (h3 : t ≤ 8) (h4 : 1 ≤ f) (hb : 1024 < f) (w : World) :
    Calls Try.prog 29 #[.agg #[.int .i64 c, .int .i64 t, .int .i64 f, .int .i64 k]] w fun e w' => e = .returned (.tuple #[.agg #[.int .i64 0, .int .i64 0, .int .i64 0, .int .i64 0, .int .i64 0, .int .i64 0], .int .i64 1]) ∧ Mod [] w w' := by
  go_enter Try.func29, Try.ntmps29
  go_wp2
  exact bodyPost_ret (v := .tuple #[.agg #[.int .i64 0, .int .i64 0, .int .i64 0, .int .i64 0, .int .i64 0, .int .i64 0], .int .i64 1]) (by simp [results, Try.results29, go_sem]) rfl ⟨rfl, (by repeat (first | with_reducible exact Mod.refl _ _ | with_reducible assumption | with_reducible refine Mod.drew ?_ | with_reducible refine Mod.alloc ?_ _ | with_reducible refine Mod.set_new ?_ _ _ _ (by simp)))⟩
set_option maxHeartbeats 1000000 in
theorem place_bad6 (c t f k : Int) (h0 : 1 ≤ c) (h1 : c ≤ 256) (h2 : 1 ≤ t) (h3 : t ≤ 8) (h4 : 1 ≤ f) (h5 : f ≤ 1024) (hb : k < 1) (w : World) :
    Calls Try.prog 29 #[.agg #[.int .i64 c, .int .i64 t, .int .i64 f, .int .i64 k]] w fun e w' => e = .returned (.tuple #[.agg #[.int .i64 0, .int .i64 0, .int .i64 0, .int .i64 0, .int .i64 0, .int .i64 0], .int .i64 1]) ∧ Mod [] w w' := by
  go_enter Try.func29, Try.ntmps29
  go_wp2
  exact bodyPost_ret (v := .tuple #[.agg #[.int .i64 0, .int .i64 0, .int .i64 0, .int .i64 0, .int .i64 0, .int .i64 0], .int .i64 1]) (by simp [results, Try.results29, go_sem]) rfl ⟨rfl, (by repeat (first | with_reducible exact Mod.refl _ _ | with_reducible assumption | with_reducible refine Mod.drew ?_ | with_reducible refine Mod.alloc ?_ _ | with_reducible refine Mod.set_new ?_ _ _ _ (by simp)))⟩
set_option maxHeartbeats 1000000 in
theorem place_bad7 (c t f k : Int) (h0 : 1 ≤ c) (h1 : c ≤ 256) (h2 : 1 ≤ t) (h3 : t ≤ 8) (h4 : 1 ≤ f) (h5 : f ≤ 1024) (h6 : 1 ≤ k) (hb : 32 < k) (w : World) :
    Calls Try.prog 29 #[.agg #[.int .i64 c, .int .i64 t, .int .i64 f, .int .i64 k]] w fun e w' => e = .returned (.tuple #[.agg #[.int .i64 0, .int .i64 0, .int .i64 0, .int .i64 0, .int .i64 0, .int .i64 0], .int .i64 1]) ∧ Mod [] w w' := by
  go_enter Try.func29, Try.ntmps29
  go_wp2
  exact bodyPost_ret (v := .tuple #[.agg #[.int .i64 0, .int .i64 0, .int .i64 0, .int .i64 0, .int .i64 0, .int .i64 0], .int .i64 1]) (by simp [results, Try.results29, go_sem]) rfl ⟨rfl, (by repeat (first | with_reducible exact Mod.refl _ _ | with_reducible assumption | with_reducible refine Mod.drew ?_ | with_reducible refine Mod.alloc ?_ _ | with_reducible refine Mod.set_new ?_ _ _ _ (by simp)))⟩
theorem place_bad (c t f k : Int) (h : ¬ CfgOk c t f k) (w : World) :
    Calls Try.prog 29 #[.agg #[.int .i64 c, .int .i64 t, .int .i64 f, .int .i64 k]] w fun e w' => e = .returned (.tuple #[.agg #[.int .i64 0, .int .i64 0, .int .i64 0, .int .i64 0, .int .i64 0, .int .i64 0], .int .i64 1]) ∧ Mod [] w w' := by
  unfold CfgOk at h
  by_cases b0 : c < 1
  · exact place_bad0 c t f k  b0 w
  by_cases b1 : 256 < c
  · exact place_bad1 c t f k (by omega) b1 w
  by_cases b2 : t < 1
  · exact place_bad2 c t f k (by omega) (by omega) b2 w
  by_cases b3 : 8 < t
  · exact place_bad3 c t f k (by omega) (by omega) (by omega) b3 w
  by_cases b4 : f < 1
  · exact place_bad4 c t f k (by omega) (by omega) (by omega) (by omega) b4 w
  by_cases b5 : 1024 < f
  · exact place_bad5 c t f k (by omega) (by omega) (by omega) (by omega) (by omega) b5 w
  by_cases b6 : k < 1
  · exact place_bad6 c t f k (by omega) (by omega) (by omega) (by omega) (by omega) (by omega) b6 w
  by_cases b7 : 32 < k
  · exact place_bad7 c t f k (by omega) (by omega) (by omega) (by omega) (by omega) (by omega) (by omega) b7 w
  · omega
set_option maxHeartbeats 1000000 in
theorem place_ok (c t f k : Int) (h : CfgOk c t f k) (w : World) :
    Calls Try.prog 29 #[.agg #[.int .i64 c, .int .i64 t, .int .i64 f, .int .i64 k]] w fun e w' => e = .returned (.tuple #[.agg #[.int .i64 0, .int .i64 1, .int .i64 2, .int .i64 3, .int .i64 (3 + t), .int .i64 (3 + t + 3 * c)], .int .i64 0]) ∧ Mod [] w w' := by
  obtain ⟨h0, h1, h2, h3, h4, h5, h6, h7⟩ := h
  go_enter Try.func29, Try.ntmps29
  go_wp2
  exact bodyPost_ret (v := .tuple #[.agg #[.int .i64 0, .int .i64 1, .int .i64 2, .int .i64 3, .int .i64 (3 + t), .int .i64 (3 + t + 3 * c)], .int .i64 0]) (by simp [results, Try.results29, go_sem]) rfl ⟨rfl, (by repeat (first | with_reducible exact Mod.refl _ _ | with_reducible assumption | with_reducible refine Mod.drew ?_ | with_reducible refine Mod.alloc ?_ _ | with_reducible refine Mod.set_new ?_ _ _ _ (by simp)))⟩
end Go.Proofs.Ytobmgnoceacoaaa

/- TicketTurns: the plain part: one at a time, in the order in which they drew. -/
import Derived.Test.YtobmgnoceacoaaaGuardP
namespace Go.Proofs.Ytobmgnoceacoaaa
open Go.RowKit

/-- Threads behind some steps: the words, what each does next, the tickets, who drew, how many were served and told. -/
structure TInv (n : Nat) (ws : List Int) (pt : Nat → Int) (tk : Nat → Nat) (drew : List Nat) (sg sv : Nat) : Prop where
  hws : ws = [(drew.length : Int), (sg : Int)]
  hn : drew.length ≤ n
  le : sg ≤ drew.length
  hpt : ∀ t, t < 8 → pt t = 0 ∨ pt t = 1 ∨ pt t = 2
  held : ∀ t, t < 8 → pt t ≠ 0 → sg ≤ tk t ∧ drew[tk t]? = some t
  back : ∀ x t, sg ≤ x → drew[x]? = some t → t < 8 ∧ pt t ≠ 0 ∧ tk t = x
  inn : ∀ t, t < 8 → pt t = 2 → tk t = sg
  hsv : (sv = sg ∧ ∀ t, t < 8 → pt t ≠ 2) ∨ (sv = sg + 1 ∧ ∃ t, t < 8 ∧ pt t = 2)
variable {n : Nat} {ws : List Int} {pt : Nat → Int} {tk : Nat → Nat} {drew : List Nat} {sg sv t : Nat}

theorem TInv.mono {m : Nat} (h : TInv n ws pt tk drew sg sv) (hm : n ≤ m) : TInv m ws pt tk drew sg sv :=
  ⟨h.hws, Nat.le_trans h.hn hm, h.le, h.hpt, h.held, h.back, h.inn, h.hsv⟩
theorem TInv.zero : TInv 0 [0, 0] (fun _ => 0) (fun _ => 0) [] 0 0 :=
  ⟨rfl, Nat.le_refl _, Nat.le_refl _, fun _ _ => .inl rfl, fun _ _ h => absurd rfl h, fun _ _ _ h => by simp at h, fun _ _ h => absurd h (by decide), .inl ⟨rfl, fun _ _ h => absurd h (by decide)⟩⟩
theorem TInv.lt (h : TInv n ws pt tk drew sg sv) (ht : t < 8) (hp : pt t ≠ 0) : tk t < drew.length := by
  have := (h.held t ht hp).2
  rcases Nat.lt_or_ge (tk t) drew.length with hl | hl
  · exact hl
  · rw [List.getElem?_eq_none hl] at this; cases this

theorem TInv.draw (h : TInv n ws pt tk drew sg sv) (ht : t < 8) (hp : pt t = 0) {ws' : List Int} (hw : ws' = [(drew.length : Int) + 1, (sg : Int)]) :
    TInv (n + 1) ws' (upd pt t 1) (upd tk t drew.length) (drew ++ [t]) sg sv := by
  have hle := h.le
  have hn := h.hn
  refine ⟨by rw [hw]; simp, by simp; omega, by simp; omega, fun u hu => ?_, fun u hu hpu => ?_, fun x u hx hd => ?_, fun u hu hpu => ?_, ?_⟩
  · by_cases e : u = t
    · subst e; rw [upd_same]; exact .inr (.inl rfl)
    · rw [upd_other _ _ e]; exact h.hpt u hu
  · by_cases e : u = t
    · subst e; rw [upd_same]; exact ⟨hle, by simp⟩
    · rw [upd_other _ _ e] at hpu ⊢
      have := h.held u hu hpu
      have hl := h.lt hu hpu
      exact ⟨this.1, by rw [List.getElem?_append_left hl]; exact this.2⟩
  · rcases Nat.lt_or_ge x drew.length with hl | hl
    · rw [List.getElem?_append_left hl] at hd
      obtain ⟨h1, h2, h3⟩ := h.back x u hx hd
      have e : u ≠ t := fun e => h2 (e ▸ hp)
      rw [upd_other _ _ e, upd_other _ _ e]; exact ⟨h1, h2, h3⟩
    · rw [List.getElem?_append_right hl] at hd
      have hx0 : x - drew.length = 0 := by
        rcases Nat.eq_zero_or_pos (x - drew.length) with h0 | h0
        · exact h0
        · rw [List.getElem?_eq_none (by simp; omega)] at hd; cases hd
      rw [hx0] at hd
      have hut : t = u := by simpa using hd
      subst hut
      rw [upd_same, upd_same]; exact ⟨ht, by decide, by omega⟩
  · by_cases e : u = t
    · subst e; rw [upd_same] at hpu; exact absurd hpu (by decide)
    · rw [upd_other _ _ e] at hpu ⊢; exact h.inn u hu hpu
  · rcases h.hsv with ⟨h1, h2⟩ | ⟨h1, u, hu, h2⟩
    · refine .inl ⟨h1, fun u hu => ?_⟩
      by_cases e : u = t
      · subst e; rw [upd_same]; decide
      · rw [upd_other _ _ e]; exact h2 u hu
    · have e : u ≠ t := fun e => by rw [e, hp] at h2; exact absurd h2 (by decide)
      exact .inr ⟨h1, u, hu, by rw [upd_other _ _ e]; exact h2⟩

theorem TInv.only (h : TInv n ws pt tk drew sg sv) {u : Nat} (ht : t < 8) (hu : u < 8) (hp : pt t ≠ 0) (hq : pt u ≠ 0) (he : tk t = tk u) : t = u := by
  have h1 := (h.held t ht hp).2
  have h2 := (h.held u hu hq).2
  rw [he, h2] at h1
  exact (Option.some.inj h1).symm

theorem TInv.told (h : TInv n ws pt tk drew sg sv) (ht : t < 8) (hp : pt t = 1) (hk : tk t = sg) :
    drew[sv]? = some t ∧ sv < drew.length ∧ TInv n ws (upd pt t 2) tk drew sg (sv + 1) := by
  have hp0 : pt t ≠ 0 := by rw [hp]; decide
  have hsv : sv = sg := by
    rcases h.hsv with ⟨h1, _⟩ | ⟨_, u, hu, h2⟩
    · exact h1
    · have e : t = u := h.only ht hu hp0 (by rw [h2]; decide) (hk.trans (h.inn u hu h2).symm)
      rw [e, h2] at hp; exact absurd hp (by decide)
  have hd := (h.held t ht hp0).2
  have hl := h.lt ht hp0
  refine ⟨by rw [hsv, ← hk]; exact hd, by omega, h.hws, h.hn, h.le, fun u hu => ?_, fun u hu hpu => ?_, fun x u hx hdx => ?_, fun u hu hpu => ?_, .inr ⟨by omega, t, ht, upd_same _ _ _⟩⟩
  · by_cases e : u = t
    · subst e; rw [upd_same]; exact .inr (.inr rfl)
    · rw [upd_other _ _ e]; exact h.hpt u hu
  · by_cases e : u = t
    · subst e; exact h.held u hu hp0
    · rw [upd_other _ _ e] at hpu; exact h.held u hu hpu
  · obtain ⟨h1, h2, h3⟩ := h.back x u hx hdx
    refine ⟨h1, ?_, h3⟩
    by_cases e : u = t
    · subst e; rw [upd_same]; decide
    · rw [upd_other _ _ e]; exact h2
  · by_cases e : u = t
    · subst e; exact hk
    · rw [upd_other _ _ e] at hpu; exact h.inn u hu hpu

theorem TInv.pass (h : TInv n ws pt tk drew sg sv) (ht : t < 8) (hp : pt t = 2) {ws' : List Int} (hw : ws' = [(drew.length : Int), (sg : Int) + 1]) :
    tk t = sg ∧ TInv n ws' (upd pt t 0) tk drew (sg + 1) sv := by
  have hp0 : pt t ≠ 0 := by rw [hp]; decide
  have hk := h.inn t ht hp
  have hl := h.lt ht hp0
  have honly : ∀ u, u < 8 → u ≠ t → pt u ≠ 2 := fun u hu e h2 => e (h.only hu ht (by rw [h2]; decide) hp0 ((h.inn u hu h2).trans hk.symm))
  have hsv : sv = sg + 1 := by
    rcases h.hsv with ⟨_, h2⟩ | ⟨h1, _⟩
    · exact absurd hp (h2 t ht)
    · exact h1
  refine ⟨hk, by rw [hw]; simp, h.hn, by omega, fun u hu => ?_, fun u hu hpu => ?_, fun x u hx hdx => ?_, fun u hu hpu => ?_, .inl ⟨hsv, fun u hu => ?_⟩⟩
  · by_cases e : u = t
    · subst e; rw [upd_same]; exact .inl rfl
    · rw [upd_other _ _ e]; exact h.hpt u hu
  · by_cases e : u = t
    · subst e; rw [upd_same] at hpu; exact absurd rfl hpu
    · rw [upd_other _ _ e] at hpu
      have := h.held u hu hpu
      have hne : tk u ≠ sg := fun e' => e (h.only hu ht hpu hp0 (e'.trans hk.symm))
      exact ⟨by omega, this.2⟩
  · obtain ⟨h1, h2, h3⟩ := h.back x u (by omega) hdx
    have e : u ≠ t := fun e => by rw [e, hk] at h3; omega
    rw [upd_other _ _ e]; exact ⟨h1, h2, h3⟩
  · by_cases e : u = t
    · subst e; rw [upd_same] at hpu; exact absurd hpu (by decide)
    · rw [upd_other _ _ e] at hpu; exact absurd hpu (honly u hu e)
  · by_cases e : u = t
    · subst e; rw [upd_same]; decide
    · rw [upd_other _ _ e]; exact honly u hu e

/-- How many of the first threads have drawn ahead of T. -/
def ahead (pt : Nat → Int) (tk : Nat → Nat) (T : Nat) : Nat → Nat
  | 0 => 0
  | i + 1 => ahead pt tk T i + if 0 < pt i ∧ tk i < T then 1 else 0
theorem ahead_zero {T : Nat} : ∀ m, (∀ i, i < m → ¬ (0 < pt i ∧ tk i < T)) → ahead pt tk T m = 0
  | 0, _ => rfl
  | m + 1, h => by rw [ahead, ahead_zero m (fun i hi => h i (by omega)), if_neg (h m (by omega))]
theorem ahead_one {T u : Nat} (h1 : 0 < pt u) (h2 : tk u = T) : ∀ m, (∀ i, i < m → 0 < pt i → tk i = T → i = u) → ahead pt tk (T + 1) m = ahead pt tk T m + if u < m then 1 else 0
  | 0, _ => by simp [ahead]
  | m + 1, h => by
    rw [ahead, ahead, ahead_one h1 h2 m (fun i hi => h i (by omega))]
    by_cases e : m = u
    · subst e
      rw [if_neg (by omega), if_pos ⟨h1, by omega⟩, if_neg (by omega), if_pos (by omega)]
    · have hiff : (0 < pt m ∧ tk m < T + 1) ↔ (0 < pt m ∧ tk m < T) := by
        constructor
        · intro ⟨a, b⟩
          have : tk m ≠ T := fun e' => e (h m (by omega) a e')
          exact ⟨a, by omega⟩
        · intro ⟨a, b⟩; exact ⟨a, by omega⟩
      by_cases hq : 0 < pt m ∧ tk m < T
      · rw [if_pos (hiff.2 hq), if_pos hq]
        by_cases hu : u < m
        · rw [if_pos hu, if_pos (by omega)]
        · rw [if_neg hu, if_neg (by omega)]
      · rw [if_neg (fun h' => hq (hiff.1 h')), if_neg hq]
        by_cases hu : u < m
        · rw [if_pos hu, if_pos (by omega)]
        · rw [if_neg hu, if_neg (by omega)]
theorem TInv.ahead8 (h : TInv n ws pt tk drew sg sv) : ∀ d, sg + d ≤ drew.length → ahead pt tk (sg + d) 8 = d
  | 0, _ => ahead_zero 8 (fun i hi ⟨hp, hl⟩ => by
      have := (h.held i hi (by omega)).1
      omega)
  | d + 1, hd => by
    obtain ⟨u, hu⟩ : ∃ u, drew[sg + d]? = some u := ⟨_, List.getElem?_eq_getElem (by omega)⟩
    obtain ⟨h1, h2, h3⟩ := h.back (sg + d) u (by omega) hu
    have hpu : 0 < pt u := by rcases h.hpt u h1 with e | e | e <;> omega
    have := ahead_one (T := sg + d) hpu h3 8 (fun i hi hp he => h.only hi h1 (by omega) h2 (he.trans h3.symm))
    rw [show sg + (d + 1) = sg + d + 1 from rfl, this, h.ahead8 d (by omega), if_pos h1]
theorem TInv.aheadOf (h : TInv n ws pt tk drew sg sv) (ht : t < 8) (hp : pt t ≠ 0) : sg + ahead pt tk (tk t) 8 = tk t := by
  have h1 := (h.held t ht hp).1
  have h2 := h.lt ht hp
  have := h.ahead8 (tk t - sg) (by omega)
  rw [show sg + (tk t - sg) = tk t by omega] at this
  omega
theorem ahead_le {T : Nat} : ∀ m, ahead pt tk T m ≤ m
  | 0 => Nat.le_refl _
  | m + 1 => by rw [ahead]; have := ahead_le (T := T) m; split <;> omega

/-- How many of the first threads are inside. -/
def inside (pt : Nat → Int) : Nat → Nat
  | 0 => 0
  | i + 1 => inside pt i + if pt i = 2 then 1 else 0
theorem inside_one (h : ∀ t u, t < 8 → u < 8 → pt t = 2 → pt u = 2 → t = u) : ∀ m, m ≤ 8 → inside pt m ≤ 1 ∧ (inside pt m = 1 → ∃ u, u < m ∧ pt u = 2)
  | 0, _ => ⟨by simp [inside], fun h => by simp [inside] at h⟩
  | m + 1, hm => by
    obtain ⟨h1, h2⟩ := inside_one h m (by omega)
    rw [inside]
    by_cases e : pt m = 2
    · rw [if_pos e]
      have h0 : inside pt m = 0 := by
        rcases Nat.lt_or_ge (inside pt m) 1 with h' | h'
        · omega
        · obtain ⟨u, hu, hu2⟩ := h2 (by omega)
          have := h u m (by omega) (by omega) hu2 e
          omega
      exact ⟨by omega, fun _ => ⟨m, by omega, e⟩⟩
    · rw [if_neg e]
      exact ⟨by omega, fun h' => by obtain ⟨u, hu, hu2⟩ := h2 (by omega); exact ⟨u, by omega, hu2⟩⟩
theorem TInv.inside8 (h : TInv n ws pt tk drew sg sv) : inside pt 8 ≤ 1 :=
  (inside_one (fun t u ht hu h1 h2 => h.only ht hu (by rw [h1]; decide) (by rw [h2]; decide) ((h.inn t ht h1).trans (h.inn u hu h2).symm)) 8 (Nat.le_refl _)).1
theorem inside_le : ∀ m, inside pt m ≤ m
  | 0 => Nat.le_refl _
  | m + 1 => by rw [inside]; have := inside_le m; split <;> omega
end Go.Proofs.Ytobmgnoceacoaaa

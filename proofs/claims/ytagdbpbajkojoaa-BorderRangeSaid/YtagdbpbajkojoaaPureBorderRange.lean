/- The least and the greatest coordinates of mapped ranges are those of the reference: for every tape and all integers. -/
import Derived.Test.YtagdbpbajkojoaaPBorderRangex4
import Derived.Test.YtagdbpbajkojoaaWSized
namespace Go.Proofs.Ytagdbpbajkojoaa.Pure
open Go.RowKit Go.Proofs.Ytagdbpbajkojoaa.PBorderRange Go.Proofs.YtagdbpbajkojoaaW.PrintWords Go.Proofs.YtagdbpbajkojoaaW.PrintLast Go.Proofs.YtagdbpbajkojoaaW.PrintMore
set_option linter.unusedVariables false
set_option linter.unusedSimpArgs false

theorem wrap_in {n : Int} (h : -9223372036854775808 ≤ n) (h' : n ≤ 9223372036854775807) : wrap64 n = n := by unfold wrap64; omega

theorem tmod_emod (a n : Int) (h : 0 < n) : (0 ≤ Int.tmod a n ∧ Int.tmod a n = a % n) ∨ (Int.tmod a n < 0 ∧ Int.tmod a n + n = a % n) := by
  have h1 := Int.tmod_eq_emod (a := a) (b := n)
  have h2 := Int.emod_nonneg a (by omega : n ≠ 0)
  have h3 := Int.emod_lt_of_pos a h
  split at h1 <;> omega

theorem mod_eq (a n : Int) (h : 0 < n) (hn : n ≤ 4611686018427387904) : tilefarmgen_Mod.f a n = some (a % n) := by
  have h2 := Int.emod_nonneg a (by omega : n ≠ 0)
  have h3 := Int.emod_lt_of_pos a h
  unfold tilefarmgen_Mod.f
  rw [if_neg (by omega)]
  rcases tmod_emod a n h with ⟨h4, h5⟩ | ⟨h4, h5⟩
  · rw [if_neg (by omega), h5]
  · rw [if_pos h4, wrap_in (by omega) (by omega), h5]

theorem sd_true {p : Prop} [Decidable p] (h : p) : some true = some (decide p) := by rw [decide_eq_true h]
theorem sd_false {p : Prop} [Decidable p] (h : ¬ p) : some false = some (decide p) := by rw [decide_eq_false h]
theorem sd_iff {p q : Prop} [Decidable p] [Decidable q] (h : q ↔ p) : some (decide q) = some (decide p) := by rw [decide_eq_decide.2 h]

theorem mx_max (a b : Int) : mx a b = max a b := by unfold mx; omega
theorem mn_min (a b : Int) : mn a b = min a b := by unfold mn; omega

theorem mul_bd {x y B C : Int} (hx : 0 ≤ x) (hy : 0 ≤ y) (hxB : x ≤ B) (hyB : y ≤ C) : 0 ≤ x * y ∧ x * y ≤ B * C :=
  ⟨Int.mul_nonneg hx hy, Int.mul_le_mul hxB hyB hy (by omega)⟩

theorem dec_iff {p q : Prop} [Decidable p] [Decidable q] (h : p ↔ q) : decide p = decide q := decide_eq_decide.2 h
theorem and_not_dec (p q : Prop) [Decidable p] [Decidable q] : (decide p && !decide q) = decide (p ∧ ¬ q) := by
  by_cases hp : p <;> by_cases hq : q <;> simp [hp, hq]

theorem wrap64_range (n : Int) : -9223372036854775808 ≤ wrap64 n ∧ wrap64 n ≤ 9223372036854775807 := by unfold wrap64; omega


theorem next_spec (l : List Int) (s n : Int) (hs : 0 ≤ s) (hl : l.length ≤ 4611686018427387904) (h : 0 < n) (hn : n ≤ 4611686018427387904) :
    ∃ r s', tilefarmgen_Tape_Next.f l s n = some (r, s') ∧ 0 ≤ r ∧ r < n ∧ 0 ≤ s' := by
  unfold tilefarmgen_Tape_Next.f
  rw [if_neg (by omega)]
  by_cases h1 : s ≥ (l.length : Int)
  · rw [if_pos h1]; exact ⟨_, _, rfl, by omega, by omega, hs⟩
  · have e1 : wrap64 (s + 1) = s + 1 := wrap_in (by omega) (by omega)
    have e2 : wrap64 (s + 1 - 1) = s := by rw [wrap_in (by omega) (by omega)]; omega
    rw [if_neg h1]
    simp only [e1, e2]
    rw [if_pos hs, if_pos (by omega), mod_eq _ _ h hn]
    exact ⟨_, _, rfl, Int.emod_nonneg _ (by omega), Int.emod_lt_of_pos _ h, by omega⟩


theorem bmod_eq (a n : Int) (h : 0 < n) (hn : n ≤ 4611686018427387904) : border_mod.f a n = some (a % n) := by
  have h2 := Int.emod_nonneg a (by omega : n ≠ 0)
  have h3 := Int.emod_lt_of_pos a h
  unfold border_mod.f
  rw [if_neg (by omega)]
  rcases tmod_emod a n h with ⟨h4, h5⟩ | ⟨h4, h5⟩
  · rw [if_neg (by omega), h5]
  · rw [if_pos h4, wrap_in (by omega) (by omega), h5]

/-- What a coordinate is mapped to. -/
def ixv (i n p : Int) : Option Int :=
  if n < 1 ∨ n > 128 then none
  else if p = 0 then some (min (max i 0) (n - 1))
  else if p = 1 then some (min (i % (2 * n)) (2 * n - 1 - i % (2 * n)))
  else if p = 2 then some (i % n)
  else if p = 3 ∧ 0 ≤ i ∧ i < n then some i
  else none

def pr (v : Option Int) : Int × Bool := match v with
  | some v => (v, true)
  | none => (0, false)

theorem index_eq (k : Nat) (i n p : Int) : border_Index.f (k + 1) i n p = some (pr (ixv i n p)) := by
  unfold border_Index.f ixv
  by_cases h1 : n < 1
  · rw [if_pos h1, if_pos (.inl h1)]
    simp only [border_Index.j0, if_true, pr]
  · rw [if_neg h1]
    by_cases h2 : n > 128
    · rw [if_pos (.inr h2), decide_eq_true h2]
      simp only [border_Index.j0, if_true, pr]
    · rw [if_neg (by omega), decide_eq_false h2]
      have e1 : wrap64 (n - 1) = n - 1 := wrap_in (by omega) (by omega)
      have e2 : wrap64 (2 * n) = 2 * n := wrap_in (by omega) (by omega)
      have e3 : wrap64 (2 * n - 1) = 2 * n - 1 := wrap_in (by omega) (by omega)
      have g1 := Int.emod_nonneg i (by omega : 2 * n ≠ 0)
      have g2 := Int.emod_lt_of_pos i (by omega : 0 < 2 * n)
      simp only [border_Index.j0, if_neg Bool.false_ne_true, e1, e2, e3, bmod_eq i (2 * n) (by omega) (by omega), bmod_eq i n (by omega) (by omega), Option.bind_some, mx_max, mn_min]
      rw [wrap_in (n := 2 * n - 1 - i % (2 * n)) (by omega) (by omega)]
      by_cases q0 : p = 0
      · rw [if_pos q0, if_pos q0]; rfl
      · rw [if_neg q0, if_neg q0]
        by_cases q1 : p = 1
        · rw [if_pos q1, if_pos q1]; rfl
        · rw [if_neg q1, if_neg q1]
          by_cases q2 : p = 2
          · rw [if_pos q2, if_pos q2]; rfl
          · rw [if_neg q2, if_neg q2]
            by_cases q3 : p = 3
            · rw [if_pos q3]
              by_cases c1 : i ≥ 0
              · by_cases c2 : i < n
                · rw [if_pos c1, if_pos c2, if_pos (by omega)]; rfl
                · rw [if_pos c1, if_neg c2, if_neg (by omega)]; rfl
              · rw [if_neg c1, if_neg (by omega)]; rfl
            · rw [if_neg q3, if_neg (fun h => q3 h.1)]; rfl

theorem index_eq' {k : Nat} (hk : 0 < k) (i n p : Int) : border_Index.f k i n p = some (pr (ixv i n p)) := by
  obtain ⟨k, rfl⟩ : ∃ m, k = m + 1 := ⟨k - 1, by omega⟩
  exact index_eq k i n p

theorem ixv_none {i n p : Int} (h : n < 1 ∨ n > 128) : ixv i n p = none := by unfold ixv; rw [if_pos h]
theorem ixv_clamp {i n : Int} (h : 1 ≤ n) (h' : n ≤ 128) : ixv i n 0 = some (min (max i 0) (n - 1)) := by unfold ixv; rw [if_neg (by omega), if_pos rfl]
theorem ixv_mirror {i n : Int} (h : 1 ≤ n) (h' : n ≤ 128) : ixv i n 1 = some (min (i % (2 * n)) (2 * n - 1 - i % (2 * n))) := by unfold ixv; rw [if_neg (by omega), if_neg (by omega), if_pos rfl]
theorem ixv_wrap {i n : Int} (h : 1 ≤ n) (h' : n ≤ 128) : ixv i n 2 = some (i % n) := by unfold ixv; rw [if_neg (by omega), if_neg (by omega), if_neg (by omega), if_pos rfl]
theorem ixv_const {i n : Int} (h : 1 ≤ n) (h' : n ≤ 128) : ixv i n 3 = if 0 ≤ i ∧ i < n then some i else none := by
  unfold ixv; rw [if_neg (by omega), if_neg (by omega), if_neg (by omega), if_neg (by omega)]
  by_cases c : 0 ≤ i ∧ i < n
  · rw [if_pos ⟨rfl, c⟩, if_pos c]
  · rw [if_neg (fun h => c h.2), if_neg c]
theorem ixv_other {i n p : Int} (h : p ≠ 0) (h1 : p ≠ 1) (h2 : p ≠ 2) (h3 : p ≠ 3) : ixv i n p = none := by
  unfold ixv
  by_cases c : n < 1 ∨ n > 128
  · rw [if_pos c]
  · rw [if_neg c, if_neg h, if_neg h1, if_neg h2, if_neg (fun h => h3 h.1)]

/-- The policies 1 and 2 repeat after two lengths. -/
theorem emod_two (i n t : Int) (h : 0 < n) : (i + t * (2 * n)) % n = i % n := by
  rw [show t * (2 * n) = n * (t * 2) by grind]
  exact Int.add_mul_emod_self_left ..
theorem ixv_period {i n p t : Int} (hp : p ≠ 0) (hp3 : p ≠ 3) : ixv (i + t * (2 * n)) n p = ixv i n p := by
  unfold ixv
  by_cases c : n < 1 ∨ n > 128
  · rw [if_pos c, if_pos c]
  · rw [if_neg c, if_neg c, if_neg hp, if_neg hp, show (i + t * (2 * n)) % (2 * n) = i % (2 * n) from Int.add_mul_emod_self_right .., emod_two i n t (by omega)]
    by_cases c1 : p = 1
    · rw [if_pos c1, if_pos c1]
    · rw [if_neg c1, if_neg c1]
      by_cases c2 : p = 2
      · rw [if_pos c2, if_pos c2]
      · rw [if_neg c2, if_neg c2, if_neg (fun h => hp3 h.1), if_neg (fun h => hp3 h.1)]

theorem ixv_bounds {i n p v : Int} (h : ixv i n p = some v) : 0 ≤ v ∧ v < n ∧ 1 ≤ n ∧ n ≤ 128 := by
  unfold ixv at h
  split at h
  · cases h
  · next hn =>
    have g1 := Int.emod_nonneg i (by omega : 2 * n ≠ 0)
    have g2 := Int.emod_lt_of_pos i (by omega : 0 < 2 * n)
    have g3 := Int.emod_nonneg i (by omega : n ≠ 0)
    have g4 := Int.emod_lt_of_pos i (by omega : 0 < n)
    generalize i % (2 * n) = m at *
    generalize i % n = m2 at *
    split at h
    · cases h; omega
    · split at h
      · cases h; omega
      · split at h
        · cases h; omega
        · split at h
          · cases h; omega
          · cases h

/-- One coordinate more: the least and the greatest value so far, and whether there is any. -/
def acc (st : Int × Int × Bool) (v : Option Int) : Int × Int × Bool := match v with
  | none => st
  | some v => if st.2.2 = true then (min st.1 v, max st.2.1 v, true) else (v, v, true)

def rg (n p : Int) : Nat → Int → (Int × Int × Bool) → (Int × Int × Bool)
  | 0, _, st => st
  | d + 1, i, st => rg n p d (i + 1) (acc st (ixv i n p))

/-- What is told of a set of values: its least and its greatest one, or that there is none. -/
def Sp (P : Int → Prop) (st : Int × Int × Bool) : Prop :=
  (st.2.2 = false ∧ st.1 = 0 ∧ st.2.1 = 0 ∧ ∀ v, ¬ P v) ∨ (st.2.2 = true ∧ P st.1 ∧ P st.2.1 ∧ ∀ v, P v → st.1 ≤ v ∧ v ≤ st.2.1)

theorem Sp.unique {P : Int → Prop} {a b : Int × Int × Bool} (ha : Sp P a) (hb : Sp P b) : a = b := by
  obtain ⟨a1, a2, a3⟩ := a
  obtain ⟨b1, b2, b3⟩ := b
  rcases ha with ⟨rfl, rfl, rfl, h⟩ | ⟨rfl, h1, h2, h3⟩
  · rcases hb with ⟨rfl, rfl, rfl, _⟩ | ⟨_, k1, _, _⟩
    · rfl
    · exact absurd k1 (h _)
  · rcases hb with ⟨_, _, _, k⟩ | ⟨rfl, k1, k2, k3⟩
    · exact absurd h1 (k _)
    · have g1 := h3 _ k1
      have g2 := h3 _ k2
      have g3 := k3 _ h1
      have g4 := k3 _ h2
      simp only [Prod.mk.injEq, and_true]
      simp only at g1 g2 g3 g4
      omega

theorem Sp.congr {P Q : Int → Prop} {a : Int × Int × Bool} (ha : Sp P a) (h : ∀ v, P v ↔ Q v) : Sp Q a := by
  have : P = Q := funext fun v => propext (h v)
  exact this ▸ ha

theorem Sp.acc {P : Int → Prop} {st : Int × Int × Bool} (h : Sp P st) (v : Option Int) : Sp (fun x => P x ∨ v = some x) (acc st v) := by
  cases v with
  | none => exact h.congr fun x => ⟨.inl, fun h => h.elim id (fun h => by cases h)⟩
  | some v =>
    obtain ⟨a, b, f⟩ := st
    rcases h with ⟨rfl, _, _, h⟩ | ⟨rfl, h1, h2, h3⟩
    · refine .inr ⟨rfl, .inr rfl, .inr rfl, fun x hx => ?_⟩
      rcases hx with hx | hx
      · exact absurd hx (h _)
      · cases hx; exact ⟨Int.le_refl _, Int.le_refl _⟩
    · simp only at h1 h2 h3
      refine .inr ⟨rfl, ?_, ?_, fun x hx => ?_⟩
      · show P (min a v) ∨ some v = some (min a v)
        by_cases q : a ≤ v
        · rw [Int.min_eq_left q]; exact .inl h1
        · rw [Int.min_eq_right (by omega)]; exact .inr rfl
      · show P (max b v) ∨ some v = some (max b v)
        by_cases q : v ≤ b
        · rw [Int.max_eq_left q]; exact .inl h2
        · rw [Int.max_eq_right (by omega)]; exact .inr rfl
      · show min a v ≤ x ∧ x ≤ max b v
        rcases hx with hx | hx
        · have := h3 _ hx; omega
        · cases hx; omega

theorem rg_spec (n p : Int) : ∀ (d : Nat) (i : Int) (P : Int → Prop) (st : Int × Int × Bool), Sp P st → Sp (fun v => P v ∨ ∃ j, i ≤ j ∧ j < i + d ∧ ixv j n p = some v) (rg n p d i st)
  | 0, i, P, st, h => h.congr fun v => ⟨.inl, fun h => h.elim id (fun ⟨j, _, _, _⟩ => by omega)⟩
  | d + 1, i, P, st, h => by
    refine (rg_spec n p d (i + 1) _ _ (h.acc (ixv i n p))).congr fun v => ⟨fun h => ?_, fun h => ?_⟩
    · rcases h with (h | h) | ⟨j, h1, h2, h3⟩
      · exact .inl h
      · exact .inr ⟨i, by omega, by omega, h⟩
      · exact .inr ⟨j, by omega, by omega, h3⟩
    · rcases h with h | ⟨j, h1, h2, h3⟩
      · exact .inl (.inl h)
      · by_cases q : j = i
        · subst q; exact .inl (.inr h3)
        · exact .inr ⟨j, by omega, by omega, h3⟩

/-- The values to which a range is mapped. -/
def Im (a b n p v : Int) : Prop := ∃ j, a ≤ j ∧ j < b ∧ ixv j n p = some v

theorem rg_im (n p a b : Int) : Sp (Im a b n p) (rg n p (b - a).toNat a (0, 0, false)) := by
  refine (rg_spec n p _ a (fun _ => False) _ (.inl ⟨rfl, rfl, rfl, fun _ h => h⟩)).congr fun v => ⟨fun h => ?_, fun h => ?_⟩
  · rcases h with h | ⟨j, h1, h2, h3⟩
    · exact h.elim
    · exact ⟨j, h1, by omega, h3⟩
  · obtain ⟨j, h1, h2, h3⟩ := h
    exact .inr ⟨j, h1, by omega, h3⟩

theorem range_loop (b n p : Int) (hb : b ≤ 4611686018427387904) (d : Nat) : ∀ (k : Nat) (i : Int) (lo hi : Int) (f : Bool), (b - i).toNat = d → d + 1 < k → -9223372036854775808 ≤ i →
    border_Range.l0 k b n p lo hi f i = some (rg n p d i (lo, hi, f)) := by
  induction d with
  | zero =>
    intro k i lo hi f hd hk hi0
    obtain ⟨k, rfl⟩ : ∃ m, k = m + 1 := ⟨k - 1, by omega⟩
    simp only [border_Range.l0]
    rw [if_neg (by omega)]
    rfl
  | succ d ih =>
    intro k i lo hi f hd hk hi0
    obtain ⟨k, rfl⟩ : ∃ m, k = m + 1 := ⟨k - 1, by omega⟩
    simp only [border_Range.l0, index_eq' (show 0 < k by omega), Option.bind_some, mn_min, mx_max]
    rw [if_pos (by omega), wrap_in (by omega) (by omega)]
    have ih' := fun lo hi f => ih k (i + 1) lo hi f (by omega) (by omega) (by omega)
    simp only [rg]
    cases e : ixv i n p with
    | none =>
      rw [if_neg (show ¬ (pr none).2 = true by simp [pr])]
      exact ih' lo hi f
    | some v =>
      rw [if_pos (show (pr (some v)).2 = true from rfl)]
      cases f with
      | true => exact ih' (min lo v) (max hi v) true
      | false => exact ih' v v true

theorem im_empty {a b n p : Int} (h : ¬ a < b) : ∀ v, ¬ Im a b n p v := fun v ⟨j, h1, h2, _⟩ => by omega
theorem im_none {a b n p : Int} (h : ∀ i, ixv i n p = none) : ∀ v, ¬ Im a b n p v := fun v ⟨j, _, _, h3⟩ => by rw [h j] at h3; cases h3
theorem Sp.none {P : Int → Prop} (h : ∀ v, ¬ P v) : Sp P (0, 0, false) := .inl ⟨rfl, rfl, rfl, h⟩

/-- A range within the first two lengths of it has the same values. -/
theorem im_period {a b b' n p : Int} (hn : 1 ≤ n) (hp : p ≠ 0) (hp3 : p ≠ 3) (h1 : b' ≤ b) (h2 : b' = b ∨ a + 2 * n ≤ b') (v : Int) : Im a b' n p v ↔ Im a b n p v := by
  refine ⟨fun ⟨j, g1, g2, g3⟩ => ⟨j, g1, by omega, g3⟩, fun ⟨j, g1, g2, g3⟩ => ?_⟩
  have e1 := Int.emod_nonneg (j - a) (by omega : 2 * n ≠ 0)
  have e2 := Int.emod_lt_of_pos (j - a) (by omega : 0 < 2 * n)
  have e3 := Int.mul_ediv_add_emod (j - a) (2 * n)
  by_cases q : b' = b
  · exact ⟨j, g1, by omega, g3⟩
  · refine ⟨a + (j - a) % (2 * n), by omega, by omega, ?_⟩
    have e4 := ixv_period (i := a + (j - a) % (2 * n)) (n := n) (t := (j - a) / (2 * n)) hp hp3
    rw [← e4, show a + (j - a) % (2 * n) + (j - a) / (2 * n) * (2 * n) = j by rw [Int.mul_comm ((j - a) / (2 * n)) (2 * n)]; omega]
    exact g3

theorem im_const {a b a' b' n : Int} (h1 : 1 ≤ n) (h2 : n ≤ 128) (ha : a ≤ a') (hb : b' ≤ b) (h : ∀ j, a ≤ j → j < b → 0 ≤ j → j < n → a' ≤ j ∧ j < b') (v : Int) : Im a' b' n 3 v ↔ Im a b n 3 v := by
  refine ⟨fun ⟨j, g1, g2, g3⟩ => ⟨j, by omega, by omega, g3⟩, fun ⟨j, g1, g2, g3⟩ => ?_⟩
  rw [ixv_const h1 h2] at g3
  split at g3
  · next hc =>
    have := h j g1 g2 hc.1 hc.2
    exact ⟨j, this.1, this.2, by rw [ixv_const h1 h2, if_pos hc]; exact g3⟩
  · cases g3

/-- The values of a range of clamped coordinates. -/
theorem im_clamp {a b n : Int} (h1 : 1 ≤ n) (h2 : n ≤ 128) (h : a < b) (v : Int) : Im a b n 0 v ↔ min (max a 0) (n - 1) ≤ v ∧ v ≤ min (max (b - 1) 0) (n - 1) := by
  refine ⟨fun ⟨j, g1, g2, g3⟩ => ?_, fun ⟨g1, g2⟩ => ?_⟩
  · rw [ixv_clamp h1 h2] at g3
    cases g3
    omega
  · by_cases q1 : v < a
    · exact ⟨a, by omega, by omega, by rw [ixv_clamp h1 h2]; congr 1; omega⟩
    · by_cases q2 : b ≤ v
      · exact ⟨b - 1, by omega, by omega, by rw [ixv_clamp h1 h2]; congr 1; omega⟩
      · exact ⟨v, by omega, by omega, by rw [ixv_clamp h1 h2]; congr 1; omega⟩

/-- What Range answers: told by the values of the range alone. -/
theorem range_spec (a b n p : Int) (hn : -9223372036854775808 ≤ n ∧ n ≤ 9223372036854775807) : ∃ st, (∀ k, 4300000 < k → border_Range.f k a b n p = some st) ∧
    (((a < -1048576 ∨ a > 1048576 ∨ b < -1048576 ∨ b > 1048576) ∧ st = (0, 0, false)) ∨ ((-1048576 ≤ a ∧ a ≤ 1048576 ∧ -1048576 ≤ b ∧ b ≤ 1048576) ∧ Sp (Im a b n p) st)) := by
  by_cases ho : a < -1048576 ∨ a > 1048576 ∨ b < -1048576 ∨ b > 1048576
  · refine ⟨(0, 0, false), fun k hk => ?_, .inl ⟨ho, rfl⟩⟩
    obtain ⟨k, rfl⟩ : ∃ m, k = m + 1 := ⟨k - 1, by omega⟩
    unfold border_Range.f
    have hj : border_Range.j0 (k + 1) a b n p true = some (0, 0, false) := by simp only [border_Range.j0, if_true]
    by_cases q1 : a < -1048576
    · rw [if_pos q1]; exact hj
    · rw [if_neg q1]
      by_cases q2 : a > 1048576
      · rw [if_pos q2]; exact hj
      · rw [if_neg q2]
        by_cases q3 : b < -1048576
        · rw [if_pos q3]; exact hj
        · rw [if_neg q3, decide_eq_true (by omega)]; exact hj
  · have hf : ∀ k, border_Range.f k a b n p = border_Range.j0 k a b n p false := by
      intro k
      unfold border_Range.f
      rw [if_neg (by omega), if_neg (by omega), if_neg (by omega), decide_eq_false (by omega)]
    by_cases hab : a ≥ b
    · refine ⟨(0, 0, false), fun k hk => ?_, .inr ⟨by omega, Sp.none (im_empty (by omega))⟩⟩
      obtain ⟨k, rfl⟩ : ∃ m, k = m + 1 := ⟨k - 1, by omega⟩
      rw [hf]
      simp only [border_Range.j0, if_neg Bool.false_ne_true]
      rw [if_pos hab]
    · have hL : ∀ a' b', -9223372036854775808 ≤ a' → b' ≤ 1048577 → b' - a' ≤ 4200000 → ∀ k, 4299990 < k → border_Range.j1 k a' b' n p = some (rg n p (b' - a').toNat a' (0, 0, false)) := by
        intro a' b' h1 h2 h3 k hk
        obtain ⟨k, rfl⟩ : ∃ m, k = m + 1 := ⟨k - 1, by omega⟩
        simp only [border_Range.j1]
        exact range_loop b' n p (by omega) _ k a' 0 0 false rfl (by omega) h1
      have key : ∀ a' b', (∀ k, border_Range.f (k + 1) a b n p = border_Range.j1 k a' b' n p) → -9223372036854775808 ≤ a' → b' ≤ 1048577 → b' - a' ≤ 4200000 → (∀ v, Im a' b' n p v ↔ Im a b n p v) → ∃ st, (∀ k, 4300000 < k → border_Range.f k a b n p = some st) ∧
          (((a < -1048576 ∨ a > 1048576 ∨ b < -1048576 ∨ b > 1048576) ∧ st = (0, 0, false)) ∨ ((-1048576 ≤ a ∧ a ≤ 1048576 ∧ -1048576 ≤ b ∧ b ≤ 1048576) ∧ Sp (Im a b n p) st)) := by
        intro a' b' h0 h1 h2 h3 h4
        refine ⟨_, fun k hk => ?_, .inr ⟨by omega, (rg_im n p a' b').congr h4⟩⟩
        obtain ⟨k, rfl⟩ : ∃ m, k = m + 1 := ⟨k - 1, by omega⟩
        rw [h0]
        exact hL a' b' h1 h2 h3 k (by omega)
      have hnone : ∀ a' b', (n < 1 ∨ n > 128) → ∀ v, Im a' b' n p v ↔ Im a b n p v := fun a' b' h v =>
        ⟨fun h' => absurd h' (im_none (fun i => ixv_none h) v), fun h' => absurd h' (im_none (fun i => ixv_none h) v)⟩
      by_cases q3 : p = 3
      · refine key (max a 0) (min b n) (fun k => ?_) (by omega) (by omega) (by omega) ?_
        · rw [hf]
          simp only [border_Range.j0, if_neg Bool.false_ne_true, mx_max, mn_min]
          rw [if_neg hab, if_pos q3]
        · by_cases hn' : n < 1 ∨ n > 128
          · exact hnone _ _ hn'
          · subst q3
            exact im_const (by omega) (by omega) (by omega) (by omega) (fun j _ _ _ _ => by omega)
      · by_cases q0 : p = 0
        · by_cases hn' : n < 1 ∨ n > 128
          · have hw := wrap64_range (n - 1)
            have hw2 : b - 1 ≤ 1048575 ∧ -9223372036854775808 ≤ b - 1 := by omega
            refine key (min (max a 0) (wrap64 (n - 1))) (min (max (b - 1) 0) (wrap64 (n - 1)) + 1) (fun k => ?_) (by omega) (by omega) (by omega) (hnone _ _ hn')
            rw [hf]
            simp only [border_Range.j0, if_neg Bool.false_ne_true, mx_max, mn_min]
            rw [if_neg hab, if_neg q3, if_pos q0, wrap_in (n := b - 1) (by omega) (by omega), wrap_in (n := min (max (b - 1) 0) (wrap64 (n - 1)) + 1) (by omega) (by omega)]
          · refine key (min (max a 0) (n - 1)) (min (max (b - 1) 0) (n - 1) + 1) (fun k => ?_) (by omega) (by omega) (by omega) ?_
            · rw [hf]
              simp only [border_Range.j0, if_neg Bool.false_ne_true, mx_max, mn_min]
              rw [if_neg hab, if_neg q3, if_pos q0, wrap_in (n := n - 1) (by omega) (by omega), wrap_in (n := b - 1) (by omega) (by omega), wrap_in (n := min (max (b - 1) 0) (n - 1) + 1) (by omega) (by omega)]
            · intro v
              subst q0
              rw [im_clamp (by omega) (by omega) (by omega), im_clamp (by omega) (by omega) (by omega)]
              omega
        · refine key a (min b (a + 256)) (fun k => ?_) (by omega) (by omega) (by omega) ?_
          · rw [hf]
            simp only [border_Range.j0, if_neg Bool.false_ne_true, mx_max, mn_min]
            rw [if_neg hab, if_neg q3, if_neg q0, wrap_in (by omega) (by omega)]
          · by_cases hn' : n < 1 ∨ n > 128
            · exact hnone _ _ hn'
            · exact im_period (by omega) q0 q3 (by omega) (by omega)

theorem sane_eq : tilefarmlaw3_sane.f 2000 = some true := by decide +kernel

theorem rmod_eq (a n : Int) (h : 0 < n) (hn : n ≤ 4611686018427387904) : tilefarmref3_mod.f a n = some (a % n) := by
  have h2 := Int.emod_nonneg a (by omega : n ≠ 0)
  have h3 := Int.emod_lt_of_pos a h
  unfold tilefarmref3_mod.f
  rw [if_neg (by omega)]
  rcases tmod_emod a n h with ⟨h4, h5⟩ | ⟨h4, h5⟩
  · rw [if_neg (by omega), h5]
  · rw [if_pos h4, wrap_in (by omega) (by omega), h5]

theorem rindex_eq {k : Nat} (hk : 0 < k) (i n p : Int) : tilefarmref3_Index.f k i n p = some (pr (ixv i n p)) := by
  obtain ⟨k, rfl⟩ : ∃ m, k = m + 1 := ⟨k - 1, by omega⟩
  unfold tilefarmref3_Index.f ixv
  by_cases h1 : n < 1
  · rw [if_pos h1, if_pos (.inl h1)]
    simp only [tilefarmref3_Index.j0, if_true, pr]
  · rw [if_neg h1]
    by_cases h2 : n > 128
    · rw [if_pos (.inr h2), decide_eq_true h2]
      simp only [tilefarmref3_Index.j0, if_true, pr]
    · rw [if_neg (by omega), decide_eq_false h2]
      have e1 : wrap64 (n - 1) = n - 1 := wrap_in (by omega) (by omega)
      have e2 : wrap64 (2 * n) = 2 * n := wrap_in (by omega) (by omega)
      have e3 : wrap64 (2 * n - 1) = 2 * n - 1 := wrap_in (by omega) (by omega)
      have g1 := Int.emod_nonneg i (by omega : 2 * n ≠ 0)
      have g2 := Int.emod_lt_of_pos i (by omega : 0 < 2 * n)
      simp only [tilefarmref3_Index.j0, if_neg Bool.false_ne_true, e1, e2, e3, rmod_eq i (2 * n) (by omega) (by omega), rmod_eq i n (by omega) (by omega), Option.bind_some, mx_max, mn_min]
      rw [wrap_in (n := 2 * n - 1 - i % (2 * n)) (by omega) (by omega)]
      by_cases q0 : p = 0
      · rw [if_pos q0, if_pos q0]; rfl
      · rw [if_neg q0, if_neg q0]
        by_cases q1 : p = 1
        · rw [if_pos q1, if_pos q1]
          by_cases c : i % (2 * n) ≥ n
          · rw [if_pos c, Int.min_eq_right (by omega)]; rfl
          · rw [if_neg c, Int.min_eq_left (by omega)]; rfl
        · rw [if_neg q1, if_neg q1]
          by_cases q2 : p = 2
          · rw [if_pos q2, if_pos q2]; rfl
          · rw [if_neg q2, if_neg q2]
            by_cases q3 : p = 3
            · rw [if_pos q3]
              by_cases c1 : i ≥ 0
              · by_cases c2 : i < n
                · rw [if_pos c1, if_pos c2, if_pos (by omega)]; rfl
                · rw [if_pos c1, if_neg c2, if_neg (by omega)]; rfl
              · rw [if_neg c1, if_neg (by omega)]; rfl
            · rw [if_neg q3, if_neg (fun h => q3 h.1)]; rfl

theorem rrange_loop (b n p : Int) (hb : b ≤ 4611686018427387904) (d : Nat) : ∀ (k : Nat) (i : Int) (lo hi : Int) (f : Bool), (b - i).toNat = d → 2 * d + 2 < k → -9223372036854775808 ≤ i →
    tilefarmref3_Range.l0 k b n p lo hi f i = some (rg n p d i (lo, hi, f)) := by
  induction d with
  | zero =>
    intro k i lo hi f hd hk hi0
    obtain ⟨k, rfl⟩ : ∃ m, k = m + 1 := ⟨k - 1, by omega⟩
    simp only [tilefarmref3_Range.l0]
    rw [if_neg (by omega)]
    rfl
  | succ d ih =>
    intro k i lo hi f hd hk hi0
    obtain ⟨k, rfl⟩ : ∃ m, k = m + 1 := ⟨k - 1, by omega⟩
    simp only [tilefarmref3_Range.l0, rindex_eq (show 0 < k by omega), Option.bind_some]
    obtain ⟨k, rfl⟩ : ∃ m, k = m + 1 := ⟨k - 1, by omega⟩
    have ew : wrap64 (i + 1) = i + 1 := wrap_in (by omega) (by omega)
    have ih' := fun lo hi f => ih k (i + 1) lo hi f (by omega) (by omega) (by omega)
    have ih2 := fun lo hi f => ih (k + 1) (i + 1) lo hi f (by omega) (by omega) (by omega)
    rw [if_pos (by omega), ew]
    simp only [rg]
    cases e : ixv i n p with
    | none =>
      rw [if_neg (show ¬ (pr none).2 = true by simp [pr])]
      exact ih2 lo hi f
    | some v =>
      rw [if_pos (show (pr (some v)).2 = true from rfl)]
      have hj : ∀ q, (f = true → q = decide (v < lo)) → (f = false → q = true) → tilefarmref3_Range.j4 (k + 1) b n p lo hi f i v q = some (rg n p d (i + 1) (acc (lo, hi, f) (some v))) := by
        intro q h1 h2
        simp only [tilefarmref3_Range.j4, ew]
        cases f with
        | false =>
          rw [h2 rfl, if_pos rfl, if_neg Bool.false_ne_true, ih']
          rfl
        | true =>
          rw [h1 rfl]
          have ea : acc (lo, hi, true) (some v) = (min lo v, max hi v, true) := rfl
          rw [ea]
          by_cases c1 : v < lo
          · rw [decide_eq_true c1, if_pos rfl, if_pos rfl]
            by_cases c2 : v > hi
            · rw [if_pos c2, ih', Int.min_eq_right (by omega), Int.max_eq_right (by omega)]
            · rw [if_neg c2, ih', Int.min_eq_right (by omega), Int.max_eq_left (by omega)]
          · rw [decide_eq_false c1, if_neg Bool.false_ne_true, if_pos rfl]
            by_cases c2 : v > hi
            · rw [if_pos c2, ih', Int.min_eq_left (by omega), Int.max_eq_right (by omega)]
            · rw [if_neg c2, ih', Int.min_eq_left (by omega), Int.max_eq_left (by omega)]
      cases f with
      | true => exact hj (decide (v < lo)) (fun _ => rfl) (fun h => by cases h)
      | false => exact hj true (fun h => by cases h) (fun _ => rfl)

/-- What the reference's Range answers: told by the values of the range alone, as well. -/
theorem rrange_spec (a b n p : Int) (hn : -9223372036854775808 ≤ n ∧ n ≤ 9223372036854775807) : ∃ st, (∀ k, 8700000 < k → tilefarmref3_Range.f k a b n p = some st) ∧
    (((a < -1048576 ∨ a > 1048576 ∨ b < -1048576 ∨ b > 1048576) ∧ st = (0, 0, false)) ∨ ((-1048576 ≤ a ∧ a ≤ 1048576 ∧ -1048576 ≤ b ∧ b ≤ 1048576) ∧ Sp (Im a b n p) st)) := by
  by_cases ho : a < -1048576 ∨ a > 1048576 ∨ b < -1048576 ∨ b > 1048576
  · refine ⟨(0, 0, false), fun k hk => ?_, .inl ⟨ho, rfl⟩⟩
    obtain ⟨k, rfl⟩ : ∃ m, k = m + 1 := ⟨k - 1, by omega⟩
    unfold tilefarmref3_Range.f
    have hj : tilefarmref3_Range.j0 (k + 1) a b n p true = some (0, 0, false) := by simp only [tilefarmref3_Range.j0, if_true]
    by_cases q1 : a < -1048576
    · rw [if_pos q1]; exact hj
    · rw [if_neg q1]
      by_cases q2 : a > 1048576
      · rw [if_pos q2]; exact hj
      · rw [if_neg q2]
        by_cases q3 : b < -1048576
        · rw [if_pos q3]; exact hj
        · rw [if_neg q3, decide_eq_true (by omega)]; exact hj
  · have hf : ∀ k, tilefarmref3_Range.f k a b n p = tilefarmref3_Range.j0 k a b n p false := by
      intro k
      unfold tilefarmref3_Range.f
      rw [if_neg (by omega), if_neg (by omega), if_neg (by omega), decide_eq_false (by omega)]
    have hL : ∀ a' b', -9223372036854775808 ≤ a' → b' ≤ 1048577 → b' - a' ≤ 4200000 → ∀ k, 8699990 < k → tilefarmref3_Range.j2 k a' b' n p = some (rg n p (b' - a').toNat a' (0, 0, false)) := by
      intro a' b' h1 h2 h3 k hk
      obtain ⟨k, rfl⟩ : ∃ m, k = m + 1 := ⟨k - 1, by omega⟩
      simp only [tilefarmref3_Range.j2]
      exact rrange_loop b' n p (by omega) _ k a' 0 0 false rfl (by omega) h1
    have key : ∀ a' b', (∀ k, 8699995 < k → tilefarmref3_Range.f (k + 3) a b n p = some (rg n p (b' - a').toNat a' (0, 0, false))) → (∀ v, Im a' b' n p v ↔ Im a b n p v) → ∃ st, (∀ k, 8700000 < k → tilefarmref3_Range.f k a b n p = some st) ∧
        (((a < -1048576 ∨ a > 1048576 ∨ b < -1048576 ∨ b > 1048576) ∧ st = (0, 0, false)) ∨ ((-1048576 ≤ a ∧ a ≤ 1048576 ∧ -1048576 ≤ b ∧ b ≤ 1048576) ∧ Sp (Im a b n p) st)) := by
      intro a' b' h0 h4
      refine ⟨_, fun k hk => ?_, .inr ⟨by omega, (rg_im n p a' b').congr h4⟩⟩
      obtain ⟨k, rfl⟩ : ∃ m, k = m + 3 := ⟨k - 3, by omega⟩
      exact h0 k (by omega)
    have ew : wrap64 (b - a) = b - a := wrap_in (by omega) (by omega)
    by_cases hw : b - a > 600
    · by_cases hn' : n < 1 ∨ n > 128
      · refine ⟨(0, 0, false), fun k hk => ?_, .inr ⟨by omega, Sp.none (im_none fun i => ixv_none hn')⟩⟩
        obtain ⟨k, rfl⟩ : ∃ m, k = m + 1 := ⟨k - 1, by omega⟩
        rw [hf]
        simp only [tilefarmref3_Range.j0, if_neg Bool.false_ne_true, ew, rindex_eq (show 0 < k by omega), Option.bind_some]
        rw [if_pos hw, ixv_none hn', if_neg (show ¬ (pr none).2 = true by simp [pr])]
      · have hj0 : ∀ k, tilefarmref3_Range.f (k + 2) a b n p = if p = 0 then tilefarmref3_Range.j1 (k + 1) a b n p (p == 0) else tilefarmref3_Range.j1 (k + 1) a b n p (p == 3) := by
          intro k
          rw [hf]
          simp only [tilefarmref3_Range.j0, if_neg Bool.false_ne_true, ew, rindex_eq (show 0 < k + 1 by omega), Option.bind_some]
          rw [if_pos hw, ixv_clamp (by omega) (by omega), if_pos (show (pr (some _)).2 = true from rfl)]
        by_cases q : p = 0 ∨ p = 3
        · have hj1 : ∀ k, tilefarmref3_Range.f (k + 3) a b n p = if b - 1 < 0 then tilefarmref3_Range.j2 (k + 1) (b - 1) b n p else if a ≥ n then tilefarmref3_Range.j2 (k + 1) a (a + 1) n p else tilefarmref3_Range.j2 (k + 1) (max a (-1)) (min b (n + 1)) n p := by
            intro k
            rw [hj0]
            have hx : tilefarmref3_Range.j1 (k + 2) a b n p true = if b - 1 < 0 then tilefarmref3_Range.j2 (k + 1) (b - 1) b n p else if a ≥ n then tilefarmref3_Range.j2 (k + 1) a (a + 1) n p else tilefarmref3_Range.j2 (k + 1) (max a (-1)) (min b (n + 1)) n p := by
              rw [tilefarmref3_Range.j1, if_pos rfl, wrap_in (n := b - 1) (by omega) (by omega), wrap_in (n := a + 1) (by omega) (by omega), wrap_in (n := n + 1) (by omega) (by omega), mx_max, mn_min]
            rcases q with rfl | rfl
            · rw [if_pos rfl]; exact hx
            · rw [if_neg (by omega)]; exact hx
          have hcl : ∀ a' b', a' < b' → (p = 0 → min (max a 0) (n - 1) = min (max a' 0) (n - 1) ∧ min (max (b - 1) 0) (n - 1) = min (max (b' - 1) 0) (n - 1)) → a ≤ a' → b' ≤ b → (∀ j, a ≤ j → j < b → 0 ≤ j → j < n → a' ≤ j ∧ j < b') → ∀ v, Im a' b' n p v ↔ Im a b n p v := by
            intro a' b' h1 h2 h3 h4 h5 v
            rcases q with rfl | rfl
            · have := h2 rfl
              rw [im_clamp (by omega) (by omega) h1, im_clamp (by omega) (by omega) (by omega)]
              omega
            · exact im_const (by omega) (by omega) h3 h4 h5 v
          by_cases c1 : b - 1 < 0
          · refine key (b - 1) b (fun k hk => ?_) (hcl _ _ (by omega) (by omega) (by omega) (by omega) (by omega))
            rw [hj1, if_pos c1]
            exact hL _ _ (by omega) (by omega) (by omega) _ (by omega)
          · by_cases c2 : a ≥ n
            · refine key a (a + 1) (fun k hk => ?_) (hcl _ _ (by omega) (by omega) (by omega) (by omega) (by omega))
              rw [hj1, if_neg c1, if_pos c2]
              exact hL _ _ (by omega) (by omega) (by omega) _ (by omega)
            · refine key (max a (-1)) (min b (n + 1)) (fun k hk => ?_) (hcl _ _ (by omega) (by omega) (by omega) (by omega) (by omega))
              rw [hj1, if_neg c1, if_neg c2]
              exact hL _ _ (by omega) (by omega) (by omega) _ (by omega)
        · have q0 : p ≠ 0 := fun h => q (.inl h)
          have q3 : p ≠ 3 := fun h => q (.inr h)
          refine key a (a + 2 * n) (fun k hk => ?_) (im_period (by omega) q0 q3 (by omega) (by omega))
          rw [hj0, if_neg q0, beq_eq_false_iff_ne.mpr q3, tilefarmref3_Range.j1, if_neg Bool.false_ne_true, wrap_in (n := 2 * n) (by omega) (by omega), wrap_in (n := a + 2 * n) (by omega) (by omega)]
          exact hL _ _ (by omega) (by omega) (by omega) _ (by omega)
    · refine key a b (fun k hk => ?_) (fun v => Iff.rfl)
      rw [hf]
      simp only [tilefarmref3_Range.j0, if_neg Bool.false_ne_true, ew]
      rw [if_neg hw]
      by_cases hab : b < a
      · exact hL _ _ (by omega) (by omega) (by omega) _ (by omega)
      · exact hL _ _ (by omega) (by omega) (by omega) _ (by omega)

theorem same (a b n p : Int) (hn : -9223372036854775808 ≤ n ∧ n ≤ 9223372036854775807) : ∃ st, (∀ k, 8700000 < k → border_Range.f k a b n p = some st) ∧ (∀ k, 8700000 < k → tilefarmref3_Range.f k a b n p = some st) := by
  obtain ⟨st, h1, h2⟩ := range_spec a b n p hn
  obtain ⟨st', k1, k2⟩ := rrange_spec a b n p hn
  have e : st = st' := by
    rcases h2 with ⟨g, rfl⟩ | ⟨g, h⟩
    · rcases k2 with ⟨_, rfl⟩ | ⟨g', _⟩
      · rfl
      · omega
    · rcases k2 with ⟨g', _⟩ | ⟨_, h'⟩
      · omega
      · exact h.unique h'
  subst e
  exact ⟨st, fun k hk => h1 k (by omega), fun k hk => k1 k (by omega)⟩

theorem wf_range {n : Int} (h : (Lit.int .i64 n).wf = true) : -9223372036854775808 ≤ n ∧ n ≤ 9223372036854775807 := by
  simp only [Lit.wf, IntKind.min, IntKind.max, IntKind.signed, IntKind.bits, Bool.and_eq_true, decide_eq_true_eq, if_true] at h
  omega

theorem j1_eq (l : List Int) (a1 a2 a3 a4 s i a b n p : Int) (hn : -9223372036854775808 ≤ n ∧ n ≤ 9223372036854775807) (k : Nat) (hk : 8700000 < k) :
    tilefarmlaw3_BorderRange.j1 (k + 1) a1 a2 a3 a4 i a n p b l s = tilefarmlaw3_BorderRange.l0 k a1 a2 a3 a4 (wrap64 (i + 1)) l s := by
  obtain ⟨st, h1, h2⟩ := same a b n p hn
  simp only [tilefarmlaw3_BorderRange.j1, h1 k hk, h2 k hk, Option.bind_some, if_true, bne_self_eq_false, if_neg Bool.false_ne_true]

theorem l0_step (l : List Int) (hl : l.length ≤ 4611686018427387904) (a1 a2 a3 a4 s i : Int) (h3 : -9223372036854775808 ≤ a3 ∧ a3 ≤ 9223372036854775807) (hs : 0 ≤ s) (h0 : 0 ≤ i) (hi : i < 6) (k : Nat) (hk : 8700000 < k) :
    ∃ s', 0 ≤ s' ∧ tilefarmlaw3_BorderRange.l0 (k + 2) a1 a2 a3 a4 i l s = tilefarmlaw3_BorderRange.l0 k a1 a2 a3 a4 (i + 1) l s' := by
  obtain ⟨r1, s1, g1, g1a, g1b, g1c⟩ := next_spec l s 60 hs hl (by omega) (by omega)
  obtain ⟨r2, s2, g2, g2a, g2b, g2c⟩ := next_spec l s1 9 g1c hl (by omega) (by omega)
  obtain ⟨r3, s3, g3, g3a, g3b, g3c⟩ := next_spec l s2 5 g2c hl (by omega) (by omega)
  obtain ⟨r4, s4, g4, g4a, g4b, g4c⟩ := next_spec l s3 12 g3c hl (by omega) (by omega)
  obtain ⟨r5, s5, g5, g5a, g5b, g5c⟩ := next_spec l s4 5 g4c hl (by omega) (by omega)
  refine ⟨s5, g5c, ?_⟩
  rw [tilefarmlaw3_BorderRange.l0]
  unfold tilefarmgen_Tape_Pick.f
  simp only [g1, g2, g3, g4, g5, Option.bind_some, List.length_cons, List.length_nil, Nat.zero_add, Nat.reduceAdd, Int.cast_ofNat_Int, g5a, g5b, if_true, mod_eq a4 4 (by omega) (by omega)]
  rw [if_pos hi]
  have ew : wrap64 (i + 1) = i + 1 := wrap_in (by omega) (by omega)
  split
  · rw [j1_eq _ _ _ _ _ _ _ _ _ _ _ h3 k hk, ew]
  · rw [wrap_in (n := 1 + r2) (by omega) (by omega), j1_eq _ _ _ _ _ _ _ _ _ _ _ (by omega) k hk, ew]

theorem BorderRange : tilefarmlaw3_BorderRange.Pure := by
  intro l a1 a2 a3 a4 hl hl8 _ _ _ h3 _
  have h3 := wf_range h3
  have hl' : l.length ≤ 4611686018427387904 := by omega
  obtain ⟨K, hK⟩ : ∃ K : Nat, 8700001 < K := ⟨8700002, by omega⟩
  refine ⟨K + 2 + 2 + 2 + 2 + 2 + 2 + 1, ?_⟩
  unfold tilefarmlaw3_BorderRange.f tilefarmgen_New.f
  simp only [Option.bind_some]
  obtain ⟨s1, g1, e1⟩ := l0_step l hl' a1 a2 a3 a4 0 0 h3 (by omega) (by omega) (by omega) (K + 1 + 2 + 2 + 2 + 2 + 2) (by omega)
  obtain ⟨s2, g2, e2⟩ := l0_step l hl' a1 a2 a3 a4 s1 1 h3 g1 (by omega) (by omega) (K + 1 + 2 + 2 + 2 + 2) (by omega)
  obtain ⟨s3, g3, e3⟩ := l0_step l hl' a1 a2 a3 a4 s2 2 h3 g2 (by omega) (by omega) (K + 1 + 2 + 2 + 2) (by omega)
  obtain ⟨s4, g4, e4⟩ := l0_step l hl' a1 a2 a3 a4 s3 3 h3 g3 (by omega) (by omega) (K + 1 + 2 + 2) (by omega)
  obtain ⟨s5, g5, e5⟩ := l0_step l hl' a1 a2 a3 a4 s4 4 h3 g4 (by omega) (by omega) (K + 1 + 2) (by omega)
  obtain ⟨s6, g6, e6⟩ := l0_step l hl' a1 a2 a3 a4 s5 5 h3 g5 (by omega) (by omega) (K + 1) (by omega)
  have hs : tilefarmlaw3_sane.f K = some true := at_rounds tilefarmlaw3_sane.mono (by omega) sane_eq
  refine e1.trans (e2.trans (e3.trans (e4.trans (e5.trans (e6.trans ?_)))))
  rw [tilefarmlaw3_BorderRange.l0, if_neg (by omega), hs]
  rfl


end Go.Proofs.Ytagdbpbajkojoaa.Pure
namespace Go.Proofs.Ytagdbpbajkojoaa
open Go.ChangeShapes Go.WideShapes
/-- The print's own word, under the name that the printed row uses. -/
theorem PrintWords.sized_ints {H : Type} {enc : TypeId × Value → H} {P : Program} {W : World} {base : Nat} {spare : Nat → Bool} {held : Bool} {t e : TypeId} {k : IntKind} {a : Option Addr} {len cap : Nat} {d : DataW H} {ps : List MemPlace} {ts : List TypeId} {ds : List (DataW H)} {j : Nat}
    (hsz : (DataW.weightsEach P ts ds).all (· ≤ reachBytes) = true) (ht : ts[j]? = some t) (hd : ds[j]? = some d) (hu : P.underlying t = some (.slice e)) (he : P.underlying e = some (.int k)) (hc : P.cellsOf e = 1) {B : Nat} (hB : P.bytesOf e = B)
    (h : DataW.Trod enc P W base spare held t (.slice a len cap) d ps) : len * B ≤ 140737488351232 :=
  Go.Proofs.YtagdbpbajkojoaaW.PrintWords.sized_ints hsz ht hd hu he hc hB h
end Go.Proofs.Ytagdbpbajkojoaa

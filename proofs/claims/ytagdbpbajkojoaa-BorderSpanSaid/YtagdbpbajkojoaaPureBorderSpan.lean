/- The bounds of a range are attained and no coordinate of the range is mapped beyond them: for all integers. -/
import Derived.Test.YtagdbpbajkojoaaPBorderSpanx2
namespace Go.Proofs.Ytagdbpbajkojoaa.Pure
open Go.RowKit Go.Proofs.Ytagdbpbajkojoaa.PBorderSpan Go.Proofs.YtagdbpbajkojoaaW.PrintWords Go.Proofs.YtagdbpbajkojoaaW.PrintLast Go.Proofs.YtagdbpbajkojoaaW.PrintMore
set_option linter.unusedVariables false
set_option linter.unusedSimpArgs false

theorem wrap_in {n : Int} (h : -9223372036854775808 ≤ n) (h' : n ≤ 9223372036854775807) : wrap64 n = n := by unfold wrap64; omega

theorem tmod_emod (a n : Int) (h : 0 < n) : (0 ≤ Int.tmod a n ∧ Int.tmod a n = a % n) ∨ (Int.tmod a n < 0 ∧ Int.tmod a n + n = a % n) := by
  have h1 := Int.tmod_eq_emod (a := a) (b := n)
  have h2 := Int.emod_nonneg a (by omega : n ≠ 0)
  have h3 := Int.emod_lt_of_pos a h
  split at h1 <;> omega

theorem mod_eq (a n : Int) (h : 0 < n) (hn : n ≤ 4611686018427387904) : tilefarmgen_Mod.f a n = some (a % n) := by
  have h2 := Int.emod_nonneg a (by omega : n ≠ 0)
  have h3 := Int.emod_lt_of_pos a h
  unfold tilefarmgen_Mod.f
  rw [if_neg (by omega)]
  rcases tmod_emod a n h with ⟨h4, h5⟩ | ⟨h4, h5⟩
  · rw [if_neg (by omega), h5]
  · rw [if_pos h4, wrap_in (by omega) (by omega), h5]

theorem sd_true {p : Prop} [Decidable p] (h : p) : some true = some (decide p) := by rw [decide_eq_true h]
theorem sd_false {p : Prop} [Decidable p] (h : ¬ p) : some false = some (decide p) := by rw [decide_eq_false h]
theorem sd_iff {p q : Prop} [Decidable p] [Decidable q] (h : q ↔ p) : some (decide q) = some (decide p) := by rw [decide_eq_decide.2 h]

theorem mx_max (a b : Int) : mx a b = max a b := by unfold mx; omega
theorem mn_min (a b : Int) : mn a b = min a b := by unfold mn; omega

theorem mul_bd {x y B C : Int} (hx : 0 ≤ x) (hy : 0 ≤ y) (hxB : x ≤ B) (hyB : y ≤ C) : 0 ≤ x * y ∧ x * y ≤ B * C :=
  ⟨Int.mul_nonneg hx hy, Int.mul_le_mul hxB hyB hy (by omega)⟩

theorem dec_iff {p q : Prop} [Decidable p] [Decidable q] (h : p ↔ q) : decide p = decide q := decide_eq_decide.2 h
theorem and_not_dec (p q : Prop) [Decidable p] [Decidable q] : (decide p && !decide q) = decide (p ∧ ¬ q) := by
  by_cases hp : p <;> by_cases hq : q <;> simp [hp, hq]

theorem wrap64_range (n : Int) : -9223372036854775808 ≤ wrap64 n ∧ wrap64 n ≤ 9223372036854775807 := by unfold wrap64; omega


theorem bmod_eq (a n : Int) (h : 0 < n) (hn : n ≤ 4611686018427387904) : border_mod.f a n = some (a % n) := by
  have h2 := Int.emod_nonneg a (by omega : n ≠ 0)
  have h3 := Int.emod_lt_of_pos a h
  unfold border_mod.f
  rw [if_neg (by omega)]
  rcases tmod_emod a n h with ⟨h4, h5⟩ | ⟨h4, h5⟩
  · rw [if_neg (by omega), h5]
  · rw [if_pos h4, wrap_in (by omega) (by omega), h5]

/-- What a coordinate is mapped to. -/
def ixv (i n p : Int) : Option Int :=
  if n < 1 ∨ n > 128 then none
  else if p = 0 then some (min (max i 0) (n - 1))
  else if p = 1 then some (min (i % (2 * n)) (2 * n - 1 - i % (2 * n)))
  else if p = 2 then some (i % n)
  else if p = 3 ∧ 0 ≤ i ∧ i < n then some i
  else none

def pr (v : Option Int) : Int × Bool := match v with
  | some v => (v, true)
  | none => (0, false)

theorem index_eq (k : Nat) (i n p : Int) : border_Index.f (k + 1) i n p = some (pr (ixv i n p)) := by
  unfold border_Index.f ixv
  by_cases h1 : n < 1
  · rw [if_pos h1, if_pos (.inl h1)]
    simp only [border_Index.j0, if_true, pr]
  · rw [if_neg h1]
    by_cases h2 : n > 128
    · rw [if_pos (.inr h2), decide_eq_true h2]
      simp only [border_Index.j0, if_true, pr]
    · rw [if_neg (by omega), decide_eq_false h2]
      have e1 : wrap64 (n - 1) = n - 1 := wrap_in (by omega) (by omega)
      have e2 : wrap64 (2 * n) = 2 * n := wrap_in (by omega) (by omega)
      have e3 : wrap64 (2 * n - 1) = 2 * n - 1 := wrap_in (by omega) (by omega)
      have g1 := Int.emod_nonneg i (by omega : 2 * n ≠ 0)
      have g2 := Int.emod_lt_of_pos i (by omega : 0 < 2 * n)
      simp only [border_Index.j0, if_neg Bool.false_ne_true, e1, e2, e3, bmod_eq i (2 * n) (by omega) (by omega), bmod_eq i n (by omega) (by omega), Option.bind_some, mx_max, mn_min]
      rw [wrap_in (n := 2 * n - 1 - i % (2 * n)) (by omega) (by omega)]
      by_cases q0 : p = 0
      · rw [if_pos q0, if_pos q0]; rfl
      · rw [if_neg q0, if_neg q0]
        by_cases q1 : p = 1
        · rw [if_pos q1, if_pos q1]; rfl
        · rw [if_neg q1, if_neg q1]
          by_cases q2 : p = 2
          · rw [if_pos q2, if_pos q2]; rfl
          · rw [if_neg q2, if_neg q2]
            by_cases q3 : p = 3
            · rw [if_pos q3]
              by_cases c1 : i ≥ 0
              · by_cases c2 : i < n
                · rw [if_pos c1, if_pos c2, if_pos (by omega)]; rfl
                · rw [if_pos c1, if_neg c2, if_neg (by omega)]; rfl
              · rw [if_neg c1, if_neg (by omega)]; rfl
            · rw [if_neg q3, if_neg (fun h => q3 h.1)]; rfl

theorem index_eq' {k : Nat} (hk : 0 < k) (i n p : Int) : border_Index.f k i n p = some (pr (ixv i n p)) := by
  obtain ⟨k, rfl⟩ : ∃ m, k = m + 1 := ⟨k - 1, by omega⟩
  exact index_eq k i n p

theorem ixv_none {i n p : Int} (h : n < 1 ∨ n > 128) : ixv i n p = none := by unfold ixv; rw [if_pos h]
theorem ixv_clamp {i n : Int} (h : 1 ≤ n) (h' : n ≤ 128) : ixv i n 0 = some (min (max i 0) (n - 1)) := by unfold ixv; rw [if_neg (by omega), if_pos rfl]
theorem ixv_mirror {i n : Int} (h : 1 ≤ n) (h' : n ≤ 128) : ixv i n 1 = some (min (i % (2 * n)) (2 * n - 1 - i % (2 * n))) := by unfold ixv; rw [if_neg (by omega), if_neg (by omega), if_pos rfl]
theorem ixv_wrap {i n : Int} (h : 1 ≤ n) (h' : n ≤ 128) : ixv i n 2 = some (i % n) := by unfold ixv; rw [if_neg (by omega), if_neg (by omega), if_neg (by omega), if_pos rfl]
theorem ixv_const {i n : Int} (h : 1 ≤ n) (h' : n ≤ 128) : ixv i n 3 = if 0 ≤ i ∧ i < n then some i else none := by
  unfold ixv; rw [if_neg (by omega), if_neg (by omega), if_neg (by omega), if_neg (by omega)]
  by_cases c : 0 ≤ i ∧ i < n
  · rw [if_pos ⟨rfl, c⟩, if_pos c]
  · rw [if_neg (fun h => c h.2), if_neg c]
theorem ixv_other {i n p : Int} (h : p ≠ 0) (h1 : p ≠ 1) (h2 : p ≠ 2) (h3 : p ≠ 3) : ixv i n p = none := by
  unfold ixv
  by_cases c : n < 1 ∨ n > 128
  · rw [if_pos c]
  · rw [if_neg c, if_neg h, if_neg h1, if_neg h2, if_neg (fun h => h3 h.1)]

/-- The policies 1 and 2 repeat after two lengths. -/
theorem emod_two (i n t : Int) (h : 0 < n) : (i + t * (2 * n)) % n = i % n := by
  rw [show t * (2 * n) = n * (t * 2) by grind]
  exact Int.add_mul_emod_self_left ..
theorem ixv_period {i n p t : Int} (hp : p ≠ 0) (hp3 : p ≠ 3) : ixv (i + t * (2 * n)) n p = ixv i n p := by
  unfold ixv
  by_cases c : n < 1 ∨ n > 128
  · rw [if_pos c, if_pos c]
  · rw [if_neg c, if_neg c, if_neg hp, if_neg hp, show (i + t * (2 * n)) % (2 * n) = i % (2 * n) from Int.add_mul_emod_self_right .., emod_two i n t (by omega)]
    by_cases c1 : p = 1
    · rw [if_pos c1, if_pos c1]
    · rw [if_neg c1, if_neg c1]
      by_cases c2 : p = 2
      · rw [if_pos c2, if_pos c2]
      · rw [if_neg c2, if_neg c2, if_neg (fun h => hp3 h.1), if_neg (fun h => hp3 h.1)]

theorem ixv_bounds {i n p v : Int} (h : ixv i n p = some v) : 0 ≤ v ∧ v < n ∧ 1 ≤ n ∧ n ≤ 128 := by
  unfold ixv at h
  split at h
  · cases h
  · next hn =>
    have g1 := Int.emod_nonneg i (by omega : 2 * n ≠ 0)
    have g2 := Int.emod_lt_of_pos i (by omega : 0 < 2 * n)
    have g3 := Int.emod_nonneg i (by omega : n ≠ 0)
    have g4 := Int.emod_lt_of_pos i (by omega : 0 < n)
    generalize i % (2 * n) = m at *
    generalize i % n = m2 at *
    split at h
    · cases h; omega
    · split at h
      · cases h; omega
      · split at h
        · cases h; omega
        · split at h
          · cases h; omega
          · cases h

/-- One coordinate more: the least and the greatest value so far, and whether there is any. -/
def acc (st : Int × Int × Bool) (v : Option Int) : Int × Int × Bool := match v with
  | none => st
  | some v => if st.2.2 = true then (min st.1 v, max st.2.1 v, true) else (v, v, true)

def rg (n p : Int) : Nat → Int → (Int × Int × Bool) → (Int × Int × Bool)
  | 0, _, st => st
  | d + 1, i, st => rg n p d (i + 1) (acc st (ixv i n p))

/-- What is told of a set of values: its least and its greatest one, or that there is none. -/
def Sp (P : Int → Prop) (st : Int × Int × Bool) : Prop :=
  (st.2.2 = false ∧ st.1 = 0 ∧ st.2.1 = 0 ∧ ∀ v, ¬ P v) ∨ (st.2.2 = true ∧ P st.1 ∧ P st.2.1 ∧ ∀ v, P v → st.1 ≤ v ∧ v ≤ st.2.1)

theorem Sp.unique {P : Int → Prop} {a b : Int × Int × Bool} (ha : Sp P a) (hb : Sp P b) : a = b := by
  obtain ⟨a1, a2, a3⟩ := a
  obtain ⟨b1, b2, b3⟩ := b
  rcases ha with ⟨rfl, rfl, rfl, h⟩ | ⟨rfl, h1, h2, h3⟩
  · rcases hb with ⟨rfl, rfl, rfl, _⟩ | ⟨_, k1, _, _⟩
    · rfl
    · exact absurd k1 (h _)
  · rcases hb with ⟨_, _, _, k⟩ | ⟨rfl, k1, k2, k3⟩
    · exact absurd h1 (k _)
    · have g1 := h3 _ k1
      have g2 := h3 _ k2
      have g3 := k3 _ h1
      have g4 := k3 _ h2
      simp only [Prod.mk.injEq, and_true]
      simp only at g1 g2 g3 g4
      omega

theorem Sp.congr {P Q : Int → Prop} {a : Int × Int × Bool} (ha : Sp P a) (h : ∀ v, P v ↔ Q v) : Sp Q a := by
  have : P = Q := funext fun v => propext (h v)
  exact this ▸ ha

theorem Sp.acc {P : Int → Prop} {st : Int × Int × Bool} (h : Sp P st) (v : Option Int) : Sp (fun x => P x ∨ v = some x) (acc st v) := by
  cases v with
  | none => exact h.congr fun x => ⟨.inl, fun h => h.elim id (fun h => by cases h)⟩
  | some v =>
    obtain ⟨a, b, f⟩ := st
    rcases h with ⟨rfl, _, _, h⟩ | ⟨rfl, h1, h2, h3⟩
    · refine .inr ⟨rfl, .inr rfl, .inr rfl, fun x hx => ?_⟩
      rcases hx with hx | hx
      · exact absurd hx (h _)
      · cases hx; exact ⟨Int.le_refl _, Int.le_refl _⟩
    · simp only at h1 h2 h3
      refine .inr ⟨rfl, ?_, ?_, fun x hx => ?_⟩
      · show P (min a v) ∨ some v = some (min a v)
        by_cases q : a ≤ v
        · rw [Int.min_eq_left q]; exact .inl h1
        · rw [Int.min_eq_right (by omega)]; exact .inr rfl
      · show P (max b v) ∨ some v = some (max b v)
        by_cases q : v ≤ b
        · rw [Int.max_eq_left q]; exact .inl h2
        · rw [Int.max_eq_right (by omega)]; exact .inr rfl
      · show min a v ≤ x ∧ x ≤ max b v
        rcases hx with hx | hx
        · have := h3 _ hx; omega
        · cases hx; omega

theorem rg_spec (n p : Int) : ∀ (d : Nat) (i : Int) (P : Int → Prop) (st : Int × Int × Bool), Sp P st → Sp (fun v => P v ∨ ∃ j, i ≤ j ∧ j < i + d ∧ ixv j n p = some v) (rg n p d i st)
  | 0, i, P, st, h => h.congr fun v => ⟨.inl, fun h => h.elim id (fun ⟨j, _, _, _⟩ => by omega)⟩
  | d + 1, i, P, st, h => by
    refine (rg_spec n p d (i + 1) _ _ (h.acc (ixv i n p))).congr fun v => ⟨fun h => ?_, fun h => ?_⟩
    · rcases h with (h | h) | ⟨j, h1, h2, h3⟩
      · exact .inl h
      · exact .inr ⟨i, by omega, by omega, h⟩
      · exact .inr ⟨j, by omega, by omega, h3⟩
    · rcases h with h | ⟨j, h1, h2, h3⟩
      · exact .inl (.inl h)
      · by_cases q : j = i
        · subst q; exact .inl (.inr h3)
        · exact .inr ⟨j, by omega, by omega, h3⟩

/-- The values to which a range is mapped. -/
def Im (a b n p v : Int) : Prop := ∃ j, a ≤ j ∧ j < b ∧ ixv j n p = some v

theorem rg_im (n p a b : Int) : Sp (Im a b n p) (rg n p (b - a).toNat a (0, 0, false)) := by
  refine (rg_spec n p _ a (fun _ => False) _ (.inl ⟨rfl, rfl, rfl, fun _ h => h⟩)).congr fun v => ⟨fun h => ?_, fun h => ?_⟩
  · rcases h with h | ⟨j, h1, h2, h3⟩
    · exact h.elim
    · exact ⟨j, h1, by omega, h3⟩
  · obtain ⟨j, h1, h2, h3⟩ := h
    exact .inr ⟨j, h1, by omega, h3⟩

theorem range_loop (b n p : Int) (hb : b ≤ 4611686018427387904) (d : Nat) : ∀ (k : Nat) (i : Int) (lo hi : Int) (f : Bool), (b - i).toNat = d → d + 1 < k → -9223372036854775808 ≤ i →
    border_Range.l0 k b n p lo hi f i = some (rg n p d i (lo, hi, f)) := by
  induction d with
  | zero =>
    intro k i lo hi f hd hk hi0
    obtain ⟨k, rfl⟩ : ∃ m, k = m + 1 := ⟨k - 1, by omega⟩
    simp only [border_Range.l0]
    rw [if_neg (by omega)]
    rfl
  | succ d ih =>
    intro k i lo hi f hd hk hi0
    obtain ⟨k, rfl⟩ : ∃ m, k = m + 1 := ⟨k - 1, by omega⟩
    simp only [border_Range.l0, index_eq' (show 0 < k by omega), Option.bind_some, mn_min, mx_max]
    rw [if_pos (by omega), wrap_in (by omega) (by omega)]
    have ih' := fun lo hi f => ih k (i + 1) lo hi f (by omega) (by omega) (by omega)
    simp only [rg]
    cases e : ixv i n p with
    | none =>
      rw [if_neg (show ¬ (pr none).2 = true by simp [pr])]
      exact ih' lo hi f
    | some v =>
      rw [if_pos (show (pr (some v)).2 = true from rfl)]
      cases f with
      | true => exact ih' (min lo v) (max hi v) true
      | false => exact ih' v v true

theorem im_empty {a b n p : Int} (h : ¬ a < b) : ∀ v, ¬ Im a b n p v := fun v ⟨j, h1, h2, _⟩ => by omega
theorem im_none {a b n p : Int} (h : ∀ i, ixv i n p = none) : ∀ v, ¬ Im a b n p v := fun v ⟨j, _, _, h3⟩ => by rw [h j] at h3; cases h3
theorem Sp.none {P : Int → Prop} (h : ∀ v, ¬ P v) : Sp P (0, 0, false) := .inl ⟨rfl, rfl, rfl, h⟩

/-- A range within the first two lengths of it has the same values. -/
theorem im_period {a b b' n p : Int} (hn : 1 ≤ n) (hp : p ≠ 0) (hp3 : p ≠ 3) (h1 : b' ≤ b) (h2 : b' = b ∨ a + 2 * n ≤ b') (v : Int) : Im a b' n p v ↔ Im a b n p v := by
  refine ⟨fun ⟨j, g1, g2, g3⟩ => ⟨j, g1, by omega, g3⟩, fun ⟨j, g1, g2, g3⟩ => ?_⟩
  have e1 := Int.emod_nonneg (j - a) (by omega : 2 * n ≠ 0)
  have e2 := Int.emod_lt_of_pos (j - a) (by omega : 0 < 2 * n)
  have e3 := Int.mul_ediv_add_emod (j - a) (2 * n)
  by_cases q : b' = b
  · exact ⟨j, g1, by omega, g3⟩
  · refine ⟨a + (j - a) % (2 * n), by omega, by omega, ?_⟩
    have e4 := ixv_period (i := a + (j - a) % (2 * n)) (n := n) (t := (j - a) / (2 * n)) hp hp3
    rw [← e4, show a + (j - a) % (2 * n) + (j - a) / (2 * n) * (2 * n) = j by rw [Int.mul_comm ((j - a) / (2 * n)) (2 * n)]; omega]
    exact g3

theorem im_const {a b a' b' n : Int} (h1 : 1 ≤ n) (h2 : n ≤ 128) (ha : a ≤ a') (hb : b' ≤ b) (h : ∀ j, a ≤ j → j < b → 0 ≤ j → j < n → a' ≤ j ∧ j < b') (v : Int) : Im a' b' n 3 v ↔ Im a b n 3 v := by
  refine ⟨fun ⟨j, g1, g2, g3⟩ => ⟨j, by omega, by omega, g3⟩, fun ⟨j, g1, g2, g3⟩ => ?_⟩
  rw [ixv_const h1 h2] at g3
  split at g3
  · next hc =>
    have := h j g1 g2 hc.1 hc.2
    exact ⟨j, this.1, this.2, by rw [ixv_const h1 h2, if_pos hc]; exact g3⟩
  · cases g3

/-- The values of a range of clamped coordinates. -/
theorem im_clamp {a b n : Int} (h1 : 1 ≤ n) (h2 : n ≤ 128) (h : a < b) (v : Int) : Im a b n 0 v ↔ min (max a 0) (n - 1) ≤ v ∧ v ≤ min (max (b - 1) 0) (n - 1) := by
  refine ⟨fun ⟨j, g1, g2, g3⟩ => ?_, fun ⟨g1, g2⟩ => ?_⟩
  · rw [ixv_clamp h1 h2] at g3
    cases g3
    omega
  · by_cases q1 : v < a
    · exact ⟨a, by omega, by omega, by rw [ixv_clamp h1 h2]; congr 1; omega⟩
    · by_cases q2 : b ≤ v
      · exact ⟨b - 1, by omega, by omega, by rw [ixv_clamp h1 h2]; congr 1; omega⟩
      · exact ⟨v, by omega, by omega, by rw [ixv_clamp h1 h2]; congr 1; omega⟩

/-- What Range answers: told by the values of the range alone. -/
theorem range_spec (a b n p : Int) (hn : -9223372036854775808 ≤ n ∧ n ≤ 9223372036854775807) : ∃ st, (∀ k, 4300000 < k → border_Range.f k a b n p = some st) ∧
    (((a < -1048576 ∨ a > 1048576 ∨ b < -1048576 ∨ b > 1048576) ∧ st = (0, 0, false)) ∨ ((-1048576 ≤ a ∧ a ≤ 1048576 ∧ -1048576 ≤ b ∧ b ≤ 1048576) ∧ Sp (Im a b n p) st)) := by
  by_cases ho : a < -1048576 ∨ a > 1048576 ∨ b < -1048576 ∨ b > 1048576
  · refine ⟨(0, 0, false), fun k hk => ?_, .inl ⟨ho, rfl⟩⟩
    obtain ⟨k, rfl⟩ : ∃ m, k = m + 1 := ⟨k - 1, by omega⟩
    unfold border_Range.f
    have hj : border_Range.j0 (k + 1) a b n p true = some (0, 0, false) := by simp only [border_Range.j0, if_true]
    by_cases q1 : a < -1048576
    · rw [if_pos q1]; exact hj
    · rw [if_neg q1]
      by_cases q2 : a > 1048576
      · rw [if_pos q2]; exact hj
      · rw [if_neg q2]
        by_cases q3 : b < -1048576
        · rw [if_pos q3]; exact hj
        · rw [if_neg q3, decide_eq_true (by omega)]; exact hj
  · have hf : ∀ k, border_Range.f k a b n p = border_Range.j0 k a b n p false := by
      intro k
      unfold border_Range.f
      rw [if_neg (by omega), if_neg (by omega), if_neg (by omega), decide_eq_false (by omega)]
    by_cases hab : a ≥ b
    · refine ⟨(0, 0, false), fun k hk => ?_, .inr ⟨by omega, Sp.none (im_empty (by omega))⟩⟩
      obtain ⟨k, rfl⟩ : ∃ m, k = m + 1 := ⟨k - 1, by omega⟩
      rw [hf]
      simp only [border_Range.j0, if_neg Bool.false_ne_true]
      rw [if_pos hab]
    · have hL : ∀ a' b', -9223372036854775808 ≤ a' → b' ≤ 1048577 → b' - a' ≤ 4200000 → ∀ k, 4299990 < k → border_Range.j1 k a' b' n p = some (rg n p (b' - a').toNat a' (0, 0, false)) := by
        intro a' b' h1 h2 h3 k hk
        obtain ⟨k, rfl⟩ : ∃ m, k = m + 1 := ⟨k - 1, by omega⟩
        simp only [border_Range.j1]
        exact range_loop b' n p (by omega) _ k a' 0 0 false rfl (by omega) h1
      have key : ∀ a' b', (∀ k, border_Range.f (k + 1) a b n p = border_Range.j1 k a' b' n p) → -9223372036854775808 ≤ a' → b' ≤ 1048577 → b' - a' ≤ 4200000 → (∀ v, Im a' b' n p v ↔ Im a b n p v) → ∃ st, (∀ k, 4300000 < k → border_Range.f k a b n p = some st) ∧
          (((a < -1048576 ∨ a > 1048576 ∨ b < -1048576 ∨ b > 1048576) ∧ st = (0, 0, false)) ∨ ((-1048576 ≤ a ∧ a ≤ 1048576 ∧ -1048576 ≤ b ∧ b ≤ 1048576) ∧ Sp (Im a b n p) st)) := by
        intro a' b' h0 h1 h2 h3 h4
        refine ⟨_, fun k hk => ?_, .inr ⟨by omega, (rg_im n p a' b').congr h4⟩⟩
        obtain ⟨k, rfl⟩ : ∃ m, k = m + 1 := ⟨k - 1, by omega⟩
        rw [h0]
        exact hL a' b' h1 h2 h3 k (by omega)
      have hnone : ∀ a' b', (n < 1 ∨ n > 128) → ∀ v, Im a' b' n p v ↔ Im a b n p v := fun a' b' h v =>
        ⟨fun h' => absurd h' (im_none (fun i => ixv_none h) v), fun h' => absurd h' (im_none (fun i => ixv_none h) v)⟩
      by_cases q3 : p = 3
      · refine key (max a 0) (min b n) (fun k => ?_) (by omega) (by omega) (by omega) ?_
        · rw [hf]
          simp only [border_Range.j0, if_neg Bool.false_ne_true, mx_max, mn_min]
          rw [if_neg hab, if_pos q3]
        · by_cases hn' : n < 1 ∨ n > 128
          · exact hnone _ _ hn'
          · subst q3
            exact im_const (by omega) (by omega) (by omega) (by omega) (fun j _ _ _ _ => by omega)
      · by_cases q0 : p = 0
        · by_cases hn' : n < 1 ∨ n > 128
          · have hw := wrap64_range (n - 1)
            have hw2 : b - 1 ≤ 1048575 ∧ -9223372036854775808 ≤ b - 1 := by omega
            refine key (min (max a 0) (wrap64 (n - 1))) (min (max (b - 1) 0) (wrap64 (n - 1)) + 1) (fun k => ?_) (by omega) (by omega) (by omega) (hnone _ _ hn')
            rw [hf]
            simp only [border_Range.j0, if_neg Bool.false_ne_true, mx_max, mn_min]
            rw [if_neg hab, if_neg q3, if_pos q0, wrap_in (n := b - 1) (by omega) (by omega), wrap_in (n := min (max (b - 1) 0) (wrap64 (n - 1)) + 1) (by omega) (by omega)]
          · refine key (min (max a 0) (n - 1)) (min (max (b - 1) 0) (n - 1) + 1) (fun k => ?_) (by omega) (by omega) (by omega) ?_
            · rw [hf]
              simp only [border_Range.j0, if_neg Bool.false_ne_true, mx_max, mn_min]
              rw [if_neg hab, if_neg q3, if_pos q0, wrap_in (n := n - 1) (by omega) (by omega), wrap_in (n := b - 1) (by omega) (by omega), wrap_in (n := min (max (b - 1) 0) (n - 1) + 1) (by omega) (by omega)]
            · intro v
              subst q0
              rw [im_clamp (by omega) (by omega) (by omega), im_clamp (by omega) (by omega) (by omega)]
              omega
        · refine key a (min b (a + 256)) (fun k => ?_) (by omega) (by omega) (by omega) ?_
          · rw [hf]
            simp only [border_Range.j0, if_neg Bool.false_ne_true, mx_max, mn_min]
            rw [if_neg hab, if_neg q3, if_neg q0, wrap_in (by omega) (by omega)]
          · by_cases hn' : n < 1 ∨ n > 128
            · exact hnone _ _ hn'
            · exact im_period (by omega) q0 q3 (by omega) (by omega)

theorem sane_eq : tilefarmlaw3_sane.f 2000 = some true := by decide +kernel

/-- From coordinate i on, with what was seen so far. -/
theorem span_loop (n p b lo hi : Int) (ok low high any : Bool) (hb : b ≤ 1000) (d : Nat) : ∀ (k : Nat) (i : Int) (low high any : Bool), (b - i).toNat = d → d + 2002 < k → -1000 ≤ i →
    (∀ j v, i ≤ j → j < b → ixv j n p = some v → lo ≤ v ∧ v ≤ hi) →
    ((ok = true ↔ (any = true ∨ ∃ v, Im i b n p v))) → (ok = true → (low = true ∨ Im i b n p lo) ∧ (high = true ∨ Im i b n p hi)) →
    tilefarmlaw3_BorderSpan.l0 k n p b lo hi ok low high any i = some true := by
  induction d with
  | zero =>
    intro k i low high any hd hk hi0 hv h1 h2
    obtain ⟨k, rfl⟩ : ∃ m, k = m + 1 := ⟨k - 1, by omega⟩
    have hs : tilefarmlaw3_sane.f k = some true := at_rounds tilefarmlaw3_sane.mono (by omega) sane_eq
    have he : ∀ v, ¬ Im i b n p v := im_empty (by omega)
    have h1' : ok = any := by
      rw [Bool.eq_iff_iff, h1]
      exact ⟨fun h => h.elim id (fun ⟨v, h⟩ => absurd h (he v)), .inl⟩
    subst h1'
    simp only [tilefarmlaw3_BorderSpan.l0]
    rw [if_neg (by omega), if_pos (beq_self_eq_true _), hs]
    cases ok with
    | false => rfl
    | true =>
      have h3 := h2 rfl
      have e1 : low = true := h3.1.elim id (fun h => absurd h (he _))
      have e2 : high = true := h3.2.elim id (fun h => absurd h (he _))
      subst e1
      subst e2
      rfl
  | succ d ih =>
    intro k i low high any hd hk hi0 hv h1 h2
    obtain ⟨k, rfl⟩ : ∃ m, k = m + 1 := ⟨k - 1, by omega⟩
    simp only [tilefarmlaw3_BorderSpan.l0, index_eq' (show 0 < k by omega), Option.bind_some]
    rw [if_pos (by omega), wrap_in (by omega) (by omega)]
    have hv' : ∀ j v, i + 1 ≤ j → j < b → ixv j n p = some v → lo ≤ v ∧ v ≤ hi := fun j v g1 g2 g3 => hv j v (by omega) g2 g3
    have him : ∀ v, Im i b n p v ↔ (ixv i n p = some v ∨ Im (i + 1) b n p v) := by
      intro v
      refine ⟨fun ⟨j, g1, g2, g3⟩ => ?_, fun h => ?_⟩
      · by_cases q : j = i
        · subst q; exact .inl g3
        · exact .inr ⟨j, by omega, g2, g3⟩
      · rcases h with h | ⟨j, g1, g2, g3⟩
        · exact ⟨i, by omega, by omega, h⟩
        · exact ⟨j, by omega, g2, g3⟩
    cases e : ixv i n p with
    | none =>
      rw [if_neg (show ¬ (pr none).2 = true by simp [pr])]
      simp only [him, e, reduceCtorEq, false_or] at h1 h2
      exact ih k (i + 1) low high any (by omega) (by omega) (by omega) hv' h1 h2
    | some w =>
      have hw := hv i w (by omega) (by omega) e
      rw [if_pos (show (pr (some w)).2 = true from rfl)]
      have b1 : ¬ (pr (some w)).1 < lo := by show ¬ w < lo; omega
      have b2 : ¬ (pr (some w)).1 > hi := by show ¬ w > hi; omega
      rw [if_neg b1, if_neg b2]
      have key : ∀ low' high' : Bool, (low' = true ↔ (low = true ∨ w = lo)) → (high' = true ↔ (high = true ∨ w = hi)) → tilefarmlaw3_BorderSpan.l0 k n p b lo hi ok low' high' true (i + 1) = some true := by
        intro low' high' hl hh
        refine ih k (i + 1) low' high' true (by omega) (by omega) (by omega) hv' ⟨fun _ => .inl rfl, fun _ => h1.2 (.inr ⟨w, (him w).2 (.inl e)⟩)⟩ (fun hok => ?_)
        have h3 := h2 hok
        rw [hl, hh]
        refine ⟨?_, ?_⟩
        · rcases h3.1 with h | h
          · exact .inl (.inl h)
          · rcases (him lo).1 h with h | h
            · rw [e] at h; cases h; exact .inl (.inr rfl)
            · exact .inr h
        · rcases h3.2 with h | h
          · exact .inl (.inl h)
          · rcases (him hi).1 h with h | h
            · rw [e] at h; cases h; exact .inl (.inr rfl)
            · exact .inr h
      cases low <;> cases high
      · exact key _ _ (by simp [pr]) (by simp [pr])
      · exact key _ _ (by simp [pr]) (by simp [pr])
      · exact key _ _ (by simp [pr]) (by simp [pr])
      · exact key _ _ (by simp [pr]) (by simp [pr])

theorem BorderSpan : tilefarmlaw3_BorderSpan.Pure := by
  intro a0 a1 a2 a3 _ _ _ _
  obtain ⟨K, hK⟩ : ∃ K : Nat, 4400000 < K := ⟨4400001, by omega⟩
  refine ⟨K, ?_⟩
  unfold tilefarmlaw3_BorderSpan.f
  have f1 := Int.emod_nonneg a0 (by omega : (300 : Int) ≠ 0)
  have f2 := Int.emod_lt_of_pos a0 (by omega : (0 : Int) < 300)
  have n1 := Int.emod_nonneg a2 (by omega : (20 : Int) ≠ 0)
  have n2 := Int.emod_lt_of_pos a2 (by omega : (0 : Int) < 20)
  have l1 := Int.emod_nonneg a1 (by omega : (50 : Int) ≠ 0)
  have l2 := Int.emod_lt_of_pos a1 (by omega : (0 : Int) < 50)
  simp only [mod_eq _ 300 (by omega) (by omega), mod_eq _ 20 (by omega) (by omega), mod_eq _ 4 (by omega) (by omega), mod_eq _ 50 (by omega) (by omega), Option.bind_some]
  obtain ⟨a, ha, ha1, ha2⟩ : ∃ a, wrap64 (a0 % 300 - 150) = a ∧ -150 ≤ a ∧ a ≤ 149 := ⟨_, wrap_in (by omega) (by omega), by omega, by omega⟩
  rw [ha, wrap_in (n := a + 1) (by omega) (by omega)]
  obtain ⟨b, hb, hb1, hb2⟩ : ∃ b, wrap64 (a + 1 + a1 % 50) = b ∧ a + 1 ≤ b ∧ b ≤ a + 50 := ⟨_, wrap_in (by omega) (by omega), by omega, by omega⟩
  obtain ⟨n, hn, hn1, hn2⟩ : ∃ n, wrap64 (1 + a2 % 20) = n ∧ 1 ≤ n ∧ n ≤ 20 := ⟨_, wrap_in (by omega) (by omega), by omega, by omega⟩
  rw [hb, hn]
  obtain ⟨⟨lo, hi, ok⟩, h1, h2⟩ := range_spec a b n (a3 % 4) (by omega)
  rw [h1 _ (by omega)]
  simp only [Option.bind_some]
  rcases h2 with ⟨h2, _⟩ | ⟨_, h2⟩
  · omega
  · refine span_loop n (a3 % 4) b lo hi ok false false false (by omega) _ _ a false false false rfl (by omega) (by omega) ?_ ?_ ?_
    · intro j v g1 g2 g3
      rcases h2 with ⟨_, _, _, h⟩ | ⟨_, _, _, h⟩
      · exact absurd ⟨j, g1, g2, g3⟩ (h v)
      · exact h v ⟨j, g1, g2, g3⟩
    · rcases h2 with ⟨h, _, _, h'⟩ | ⟨h, h3, _, _⟩
      · simp only at h
        subst h
        exact ⟨(fun h => by cases h), (fun h => h.elim (fun h => by cases h) (fun ⟨v, h⟩ => absurd h (h' v)))⟩
      · simp only at h
        subst h
        exact ⟨fun _ => .inr ⟨_, h3⟩, fun _ => rfl⟩
    · intro hok
      rcases h2 with ⟨h, _⟩ | ⟨_, h3, h4, _⟩
      · simp only at h
        rw [hok] at h
        cases h
      · exact ⟨.inr h3, .inr h4⟩


end Go.Proofs.Ytagdbpbajkojoaa.Pure

/- Mirroring is symmetric to both edges, clamping is monotone, and wrapping is a shift by the length: for all integers. -/
import Derived.Test.YtagdbpbajkojoaaPBorderMirrorsx2
namespace Go.Proofs.Ytagdbpbajkojoaa.Pure
open Go.RowKit Go.Proofs.Ytagdbpbajkojoaa.PBorderMirrors Go.Proofs.YtagdbpbajkojoaaW.PrintWords Go.Proofs.YtagdbpbajkojoaaW.PrintLast Go.Proofs.YtagdbpbajkojoaaW.PrintMore
set_option linter.unusedVariables false
set_option linter.unusedSimpArgs false

theorem wrap_in {n : Int} (h : -9223372036854775808 ≤ n) (h' : n ≤ 9223372036854775807) : wrap64 n = n := by unfold wrap64; omega

theorem tmod_emod (a n : Int) (h : 0 < n) : (0 ≤ Int.tmod a n ∧ Int.tmod a n = a % n) ∨ (Int.tmod a n < 0 ∧ Int.tmod a n + n = a % n) := by
  have h1 := Int.tmod_eq_emod (a := a) (b := n)
  have h2 := Int.emod_nonneg a (by omega : n ≠ 0)
  have h3 := Int.emod_lt_of_pos a h
  split at h1 <;> omega

theorem mod_eq (a n : Int) (h : 0 < n) (hn : n ≤ 4611686018427387904) : tilefarmgen_Mod.f a n = some (a % n) := by
  have h2 := Int.emod_nonneg a (by omega : n ≠ 0)
  have h3 := Int.emod_lt_of_pos a h
  unfold tilefarmgen_Mod.f
  rw [if_neg (by omega)]
  rcases tmod_emod a n h with ⟨h4, h5⟩ | ⟨h4, h5⟩
  · rw [if_neg (by omega), h5]
  · rw [if_pos h4, wrap_in (by omega) (by omega), h5]

theorem sd_true {p : Prop} [Decidable p] (h : p) : some true = some (decide p) := by rw [decide_eq_true h]
theorem sd_false {p : Prop} [Decidable p] (h : ¬ p) : some false = some (decide p) := by rw [decide_eq_false h]
theorem sd_iff {p q : Prop} [Decidable p] [Decidable q] (h : q ↔ p) : some (decide q) = some (decide p) := by rw [decide_eq_decide.2 h]

theorem mx_max (a b : Int) : mx a b = max a b := by unfold mx; omega
theorem mn_min (a b : Int) : mn a b = min a b := by unfold mn; omega

theorem mul_bd {x y B C : Int} (hx : 0 ≤ x) (hy : 0 ≤ y) (hxB : x ≤ B) (hyB : y ≤ C) : 0 ≤ x * y ∧ x * y ≤ B * C :=
  ⟨Int.mul_nonneg hx hy, Int.mul_le_mul hxB hyB hy (by omega)⟩

theorem dec_iff {p q : Prop} [Decidable p] [Decidable q] (h : p ↔ q) : decide p = decide q := decide_eq_decide.2 h
theorem and_not_dec (p q : Prop) [Decidable p] [Decidable q] : (decide p && !decide q) = decide (p ∧ ¬ q) := by
  by_cases hp : p <;> by_cases hq : q <;> simp [hp, hq]

theorem wrap64_range (n : Int) : -9223372036854775808 ≤ wrap64 n ∧ wrap64 n ≤ 9223372036854775807 := by unfold wrap64; omega


theorem bmod_eq (a n : Int) (h : 0 < n) (hn : n ≤ 4611686018427387904) : border_mod.f a n = some (a % n) := by
  have h2 := Int.emod_nonneg a (by omega : n ≠ 0)
  have h3 := Int.emod_lt_of_pos a h
  unfold border_mod.f
  rw [if_neg (by omega)]
  rcases tmod_emod a n h with ⟨h4, h5⟩ | ⟨h4, h5⟩
  · rw [if_neg (by omega), h5]
  · rw [if_pos h4, wrap_in (by omega) (by omega), h5]

/-- What a coordinate is mapped to. -/
def ixv (i n p : Int) : Option Int :=
  if n < 1 ∨ n > 128 then none
  else if p = 0 then some (min (max i 0) (n - 1))
  else if p = 1 then some (min (i % (2 * n)) (2 * n - 1 - i % (2 * n)))
  else if p = 2 then some (i % n)
  else if p = 3 ∧ 0 ≤ i ∧ i < n then some i
  else none

def pr (v : Option Int) : Int × Bool := match v with
  | some v => (v, true)
  | none => (0, false)

theorem index_eq (k : Nat) (i n p : Int) : border_Index.f (k + 1) i n p = some (pr (ixv i n p)) := by
  unfold border_Index.f ixv
  by_cases h1 : n < 1
  · rw [if_pos h1, if_pos (.inl h1)]
    simp only [border_Index.j0, if_true, pr]
  · rw [if_neg h1]
    by_cases h2 : n > 128
    · rw [if_pos (.inr h2), decide_eq_true h2]
      simp only [border_Index.j0, if_true, pr]
    · rw [if_neg (by omega), decide_eq_false h2]
      have e1 : wrap64 (n - 1) = n - 1 := wrap_in (by omega) (by omega)
      have e2 : wrap64 (2 * n) = 2 * n := wrap_in (by omega) (by omega)
      have e3 : wrap64 (2 * n - 1) = 2 * n - 1 := wrap_in (by omega) (by omega)
      have g1 := Int.emod_nonneg i (by omega : 2 * n ≠ 0)
      have g2 := Int.emod_lt_of_pos i (by omega : 0 < 2 * n)
      simp only [border_Index.j0, if_neg Bool.false_ne_true, e1, e2, e3, bmod_eq i (2 * n) (by omega) (by omega), bmod_eq i n (by omega) (by omega), Option.bind_some, mx_max, mn_min]
      rw [wrap_in (n := 2 * n - 1 - i % (2 * n)) (by omega) (by omega)]
      by_cases q0 : p = 0
      · rw [if_pos q0, if_pos q0]; rfl
      · rw [if_neg q0, if_neg q0]
        by_cases q1 : p = 1
        · rw [if_pos q1, if_pos q1]; rfl
        · rw [if_neg q1, if_neg q1]
          by_cases q2 : p = 2
          · rw [if_pos q2, if_pos q2]; rfl
          · rw [if_neg q2, if_neg q2]
            by_cases q3 : p = 3
            · rw [if_pos q3]
              by_cases c1 : i ≥ 0
              · by_cases c2 : i < n
                · rw [if_pos c1, if_pos c2, if_pos (by omega)]; rfl
                · rw [if_pos c1, if_neg c2, if_neg (by omega)]; rfl
              · rw [if_neg c1, if_neg (by omega)]; rfl
            · rw [if_neg q3, if_neg (fun h => q3 h.1)]; rfl

theorem index_eq' {k : Nat} (hk : 0 < k) (i n p : Int) : border_Index.f k i n p = some (pr (ixv i n p)) := by
  obtain ⟨k, rfl⟩ : ∃ m, k = m + 1 := ⟨k - 1, by omega⟩
  exact index_eq k i n p

theorem ixv_none {i n p : Int} (h : n < 1 ∨ n > 128) : ixv i n p = none := by unfold ixv; rw [if_pos h]
theorem ixv_clamp {i n : Int} (h : 1 ≤ n) (h' : n ≤ 128) : ixv i n 0 = some (min (max i 0) (n - 1)) := by unfold ixv; rw [if_neg (by omega), if_pos rfl]
theorem ixv_mirror {i n : Int} (h : 1 ≤ n) (h' : n ≤ 128) : ixv i n 1 = some (min (i % (2 * n)) (2 * n - 1 - i % (2 * n))) := by unfold ixv; rw [if_neg (by omega), if_neg (by omega), if_pos rfl]
theorem ixv_wrap {i n : Int} (h : 1 ≤ n) (h' : n ≤ 128) : ixv i n 2 = some (i % n) := by unfold ixv; rw [if_neg (by omega), if_neg (by omega), if_neg (by omega), if_pos rfl]
theorem ixv_const {i n : Int} (h : 1 ≤ n) (h' : n ≤ 128) : ixv i n 3 = if 0 ≤ i ∧ i < n then some i else none := by
  unfold ixv; rw [if_neg (by omega), if_neg (by omega), if_neg (by omega), if_neg (by omega)]
  by_cases c : 0 ≤ i ∧ i < n
  · rw [if_pos ⟨rfl, c⟩, if_pos c]
  · rw [if_neg (fun h => c h.2), if_neg c]
theorem ixv_other {i n p : Int} (h : p ≠ 0) (h1 : p ≠ 1) (h2 : p ≠ 2) (h3 : p ≠ 3) : ixv i n p = none := by
  unfold ixv
  by_cases c : n < 1 ∨ n > 128
  · rw [if_pos c]
  · rw [if_neg c, if_neg h, if_neg h1, if_neg h2, if_neg (fun h => h3 h.1)]

/-- The policies 1 and 2 repeat after two lengths. -/
theorem emod_two (i n t : Int) (h : 0 < n) : (i + t * (2 * n)) % n = i % n := by
  rw [show t * (2 * n) = n * (t * 2) by grind]
  exact Int.add_mul_emod_self_left ..
theorem ixv_period {i n p t : Int} (hp : p ≠ 0) (hp3 : p ≠ 3) : ixv (i + t * (2 * n)) n p = ixv i n p := by
  unfold ixv
  by_cases c : n < 1 ∨ n > 128
  · rw [if_pos c, if_pos c]
  · rw [if_neg c, if_neg c, if_neg hp, if_neg hp, show (i + t * (2 * n)) % (2 * n) = i % (2 * n) from Int.add_mul_emod_self_right .., emod_two i n t (by omega)]
    by_cases c1 : p = 1
    · rw [if_pos c1, if_pos c1]
    · rw [if_neg c1, if_neg c1]
      by_cases c2 : p = 2
      · rw [if_pos c2, if_pos c2]
      · rw [if_neg c2, if_neg c2, if_neg (fun h => hp3 h.1), if_neg (fun h => hp3 h.1)]

theorem ixv_bounds {i n p v : Int} (h : ixv i n p = some v) : 0 ≤ v ∧ v < n ∧ 1 ≤ n ∧ n ≤ 128 := by
  unfold ixv at h
  split at h
  · cases h
  · next hn =>
    have g1 := Int.emod_nonneg i (by omega : 2 * n ≠ 0)
    have g2 := Int.emod_lt_of_pos i (by omega : 0 < 2 * n)
    have g3 := Int.emod_nonneg i (by omega : n ≠ 0)
    have g4 := Int.emod_lt_of_pos i (by omega : 0 < n)
    generalize i % (2 * n) = m at *
    generalize i % n = m2 at *
    split at h
    · cases h; omega
    · split at h
      · cases h; omega
      · split at h
        · cases h; omega
        · split at h
          · cases h; omega
          · cases h

theorem sane_eq : tilefarmlaw3_sane.f 2000 = some true := by decide +kernel

theorem mirror_a (c n : Int) (h : 0 < n) : min ((-1 - c) % (2 * n)) (2 * n - 1 - (-1 - c) % (2 * n)) = min (c % (2 * n)) (2 * n - 1 - c % (2 * n)) := by
  have g1 := Int.emod_nonneg c (by omega : 2 * n ≠ 0)
  have g2 := Int.emod_lt_of_pos c (by omega : 0 < 2 * n)
  have g3 : (-1 - c) % (2 * n) = 2 * n - 1 - c % (2 * n) := by
    have e := Int.mul_ediv_add_emod c (2 * n)
    have : -1 - c = (2 * n - 1 - c % (2 * n)) + (2 * n) * (-(c / (2 * n)) - 1) := by grind
    rw [this, Int.add_mul_emod_self_left]
    exact Int.emod_eq_of_lt (by omega) (by omega)
  omega

theorem BorderMirrors : tilefarmlaw3_BorderMirrors.Pure := by
  intro a b _ _
  refine ⟨2000, ?_⟩
  unfold tilefarmlaw3_BorderMirrors.f
  have n1 := Int.emod_nonneg b (by omega : (128 : Int) ≠ 0)
  have n2 := Int.emod_lt_of_pos b (by omega : (0 : Int) < 128)
  have c1 := Int.emod_nonneg a (by omega : (5000 : Int) ≠ 0)
  have c2 := Int.emod_lt_of_pos a (by omega : (0 : Int) < 5000)
  simp only [mod_eq _ 128 (by omega) (by omega), mod_eq _ 5000 (by omega) (by omega), Option.bind_some, index_eq]
  obtain ⟨n, hn, hn1, hn2⟩ : ∃ n, wrap64 (1 + b % 128) = n ∧ 1 ≤ n ∧ n ≤ 128 := ⟨_, wrap_in (by omega) (by omega), by omega, by omega⟩
  obtain ⟨c, hc, hc1, hc2⟩ : ∃ c, wrap64 (a % 5000 - 2500) = c ∧ -2500 ≤ c ∧ c ≤ 2499 := ⟨_, wrap_in (by omega) (by omega), by omega, by omega⟩
  rw [hn, hc, wrap_in (n := -1 - c) (by omega) (by omega), wrap_in (n := 2 * n) (by omega) (by omega), wrap_in (n := 2 * n - 1) (by omega) (by omega), wrap_in (n := 2 * n - 1 - c) (by omega) (by omega), wrap_in (n := c - n) (by omega) (by omega), wrap_in (n := c + 1) (by omega) (by omega)]
  have e1 := ixv_mirror (i := c) hn1 hn2
  have e2 := ixv_mirror (i := -1 - c) hn1 hn2
  rw [mirror_a c n (by omega)] at e2
  have e3 : ixv (2 * n - 1 - c) n 1 = some (min (c % (2 * n)) (2 * n - 1 - c % (2 * n))) := by
    rw [show 2 * n - 1 - c = (-1 - c) + 1 * (2 * n) by omega, ixv_period (by omega) (by omega)]
    exact e2
  have e4 := ixv_wrap (i := c) hn1 hn2
  have e5 : ixv (c - n) n 2 = some (c % n) := by
    rw [ixv_wrap hn1 hn2, show c - n = c + (-1) * n by omega, Int.add_mul_emod_self_right]
  have e6 := ixv_clamp (i := c) hn1 hn2
  have e7 := ixv_clamp (i := c + 1) hn1 hn2
  rw [e1, e2, e3, e4, e5, e6, e7]
  simp only [pr, if_true, sane_eq, Option.bind_some]
  rw [wrap_in (n := min (max c 0) (n - 1) + 1) (by omega) (by omega)]
  by_cases q : min (max (c + 1) 0) (n - 1) = min (max c 0) (n - 1)
  · rw [if_pos q]
  · rw [if_neg q, if_pos (by omega)]


end Go.Proofs.Ytagdbpbajkojoaa.Pure

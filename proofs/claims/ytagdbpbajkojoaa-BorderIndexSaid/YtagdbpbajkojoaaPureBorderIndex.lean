/- Which edges are valid and to what coordinates are mapped is as in the reference: for all integers. -/
import Derived.Test.YtagdbpbajkojoaaPBorderIndexx3
namespace Go.Proofs.Ytagdbpbajkojoaa.Pure
open Go.RowKit Go.Proofs.Ytagdbpbajkojoaa.PBorderIndex Go.Proofs.YtagdbpbajkojoaaW.PrintWords Go.Proofs.YtagdbpbajkojoaaW.PrintLast Go.Proofs.YtagdbpbajkojoaaW.PrintMore
set_option linter.unusedVariables false
set_option linter.unusedSimpArgs false

theorem wrap_in {n : Int} (h : -9223372036854775808 ≤ n) (h' : n ≤ 9223372036854775807) : wrap64 n = n := by unfold wrap64; omega

theorem tmod_emod (a n : Int) (h : 0 < n) : (0 ≤ Int.tmod a n ∧ Int.tmod a n = a % n) ∨ (Int.tmod a n < 0 ∧ Int.tmod a n + n = a % n) := by
  have h1 := Int.tmod_eq_emod (a := a) (b := n)
  have h2 := Int.emod_nonneg a (by omega : n ≠ 0)
  have h3 := Int.emod_lt_of_pos a h
  split at h1 <;> omega

theorem mod_eq (a n : Int) (h : 0 < n) (hn : n ≤ 4611686018427387904) : tilefarmgen_Mod.f a n = some (a % n) := by
  have h2 := Int.emod_nonneg a (by omega : n ≠ 0)
  have h3 := Int.emod_lt_of_pos a h
  unfold tilefarmgen_Mod.f
  rw [if_neg (by omega)]
  rcases tmod_emod a n h with ⟨h4, h5⟩ | ⟨h4, h5⟩
  · rw [if_neg (by omega), h5]
  · rw [if_pos h4, wrap_in (by omega) (by omega), h5]

theorem sd_true {p : Prop} [Decidable p] (h : p) : some true = some (decide p) := by rw [decide_eq_true h]
theorem sd_false {p : Prop} [Decidable p] (h : ¬ p) : some false = some (decide p) := by rw [decide_eq_false h]
theorem sd_iff {p q : Prop} [Decidable p] [Decidable q] (h : q ↔ p) : some (decide q) = some (decide p) := by rw [decide_eq_decide.2 h]

theorem mx_max (a b : Int) : mx a b = max a b := by unfold mx; omega
theorem mn_min (a b : Int) : mn a b = min a b := by unfold mn; omega

theorem mul_bd {x y B C : Int} (hx : 0 ≤ x) (hy : 0 ≤ y) (hxB : x ≤ B) (hyB : y ≤ C) : 0 ≤ x * y ∧ x * y ≤ B * C :=
  ⟨Int.mul_nonneg hx hy, Int.mul_le_mul hxB hyB hy (by omega)⟩

theorem dec_iff {p q : Prop} [Decidable p] [Decidable q] (h : p ↔ q) : decide p = decide q := decide_eq_decide.2 h
theorem and_not_dec (p q : Prop) [Decidable p] [Decidable q] : (decide p && !decide q) = decide (p ∧ ¬ q) := by
  by_cases hp : p <;> by_cases hq : q <;> simp [hp, hq]

theorem wrap64_range (n : Int) : -9223372036854775808 ≤ wrap64 n ∧ wrap64 n ≤ 9223372036854775807 := by unfold wrap64; omega

theorem wf_range {n : Int} (h : (Lit.int .i64 n).wf = true) : -9223372036854775808 ≤ n ∧ n ≤ 9223372036854775807 := by
  simp only [Lit.wf, IntKind.min, IntKind.max, IntKind.signed, IntKind.bits, Bool.and_eq_true, decide_eq_true_eq, if_true] at h
  omega


theorem bmod_eq (a n : Int) (h : 0 < n) (hn : n ≤ 4611686018427387904) : border_mod.f a n = some (a % n) := by
  have h2 := Int.emod_nonneg a (by omega : n ≠ 0)
  have h3 := Int.emod_lt_of_pos a h
  unfold border_mod.f
  rw [if_neg (by omega)]
  rcases tmod_emod a n h with ⟨h4, h5⟩ | ⟨h4, h5⟩
  · rw [if_neg (by omega), h5]
  · rw [if_pos h4, wrap_in (by omega) (by omega), h5]

/-- What a coordinate is mapped to. -/
def ixv (i n p : Int) : Option Int :=
  if n < 1 ∨ n > 128 then none
  else if p = 0 then some (min (max i 0) (n - 1))
  else if p = 1 then some (min (i % (2 * n)) (2 * n - 1 - i % (2 * n)))
  else if p = 2 then some (i % n)
  else if p = 3 ∧ 0 ≤ i ∧ i < n then some i
  else none

def pr (v : Option Int) : Int × Bool := match v with
  | some v => (v, true)
  | none => (0, false)

theorem index_eq (k : Nat) (i n p : Int) : border_Index.f (k + 1) i n p = some (pr (ixv i n p)) := by
  unfold border_Index.f ixv
  by_cases h1 : n < 1
  · rw [if_pos h1, if_pos (.inl h1)]
    simp only [border_Index.j0, if_true, pr]
  · rw [if_neg h1]
    by_cases h2 : n > 128
    · rw [if_pos (.inr h2), decide_eq_true h2]
      simp only [border_Index.j0, if_true, pr]
    · rw [if_neg (by omega), decide_eq_false h2]
      have e1 : wrap64 (n - 1) = n - 1 := wrap_in (by omega) (by omega)
      have e2 : wrap64 (2 * n) = 2 * n := wrap_in (by omega) (by omega)
      have e3 : wrap64 (2 * n - 1) = 2 * n - 1 := wrap_in (by omega) (by omega)
      have g1 := Int.emod_nonneg i (by omega : 2 * n ≠ 0)
      have g2 := Int.emod_lt_of_pos i (by omega : 0 < 2 * n)
      simp only [border_Index.j0, if_neg Bool.false_ne_true, e1, e2, e3, bmod_eq i (2 * n) (by omega) (by omega), bmod_eq i n (by omega) (by omega), Option.bind_some, mx_max, mn_min]
      rw [wrap_in (n := 2 * n - 1 - i % (2 * n)) (by omega) (by omega)]
      by_cases q0 : p = 0
      · rw [if_pos q0, if_pos q0]; rfl
      · rw [if_neg q0, if_neg q0]
        by_cases q1 : p = 1
        · rw [if_pos q1, if_pos q1]; rfl
        · rw [if_neg q1, if_neg q1]
          by_cases q2 : p = 2
          · rw [if_pos q2, if_pos q2]; rfl
          · rw [if_neg q2, if_neg q2]
            by_cases q3 : p = 3
            · rw [if_pos q3]
              by_cases c1 : i ≥ 0
              · by_cases c2 : i < n
                · rw [if_pos c1, if_pos c2, if_pos (by omega)]; rfl
                · rw [if_pos c1, if_neg c2, if_neg (by omega)]; rfl
              · rw [if_neg c1, if_neg (by omega)]; rfl
            · rw [if_neg q3, if_neg (fun h => q3 h.1)]; rfl

theorem index_eq' {k : Nat} (hk : 0 < k) (i n p : Int) : border_Index.f k i n p = some (pr (ixv i n p)) := by
  obtain ⟨k, rfl⟩ : ∃ m, k = m + 1 := ⟨k - 1, by omega⟩
  exact index_eq k i n p

theorem ixv_none {i n p : Int} (h : n < 1 ∨ n > 128) : ixv i n p = none := by unfold ixv; rw [if_pos h]
theorem ixv_clamp {i n : Int} (h : 1 ≤ n) (h' : n ≤ 128) : ixv i n 0 = some (min (max i 0) (n - 1)) := by unfold ixv; rw [if_neg (by omega), if_pos rfl]
theorem ixv_mirror {i n : Int} (h : 1 ≤ n) (h' : n ≤ 128) : ixv i n 1 = some (min (i % (2 * n)) (2 * n - 1 - i % (2 * n))) := by unfold ixv; rw [if_neg (by omega), if_neg (by omega), if_pos rfl]
theorem ixv_wrap {i n : Int} (h : 1 ≤ n) (h' : n ≤ 128) : ixv i n 2 = some (i % n) := by unfold ixv; rw [if_neg (by omega), if_neg (by omega), if_neg (by omega), if_pos rfl]
theorem ixv_const {i n : Int} (h : 1 ≤ n) (h' : n ≤ 128) : ixv i n 3 = if 0 ≤ i ∧ i < n then some i else none := by
  unfold ixv; rw [if_neg (by omega), if_neg (by omega), if_neg (by omega), if_neg (by omega)]
  by_cases c : 0 ≤ i ∧ i < n
  · rw [if_pos ⟨rfl, c⟩, if_pos c]
  · rw [if_neg (fun h => c h.2), if_neg c]
theorem ixv_other {i n p : Int} (h : p ≠ 0) (h1 : p ≠ 1) (h2 : p ≠ 2) (h3 : p ≠ 3) : ixv i n p = none := by
  unfold ixv
  by_cases c : n < 1 ∨ n > 128
  · rw [if_pos c]
  · rw [if_neg c, if_neg h, if_neg h1, if_neg h2, if_neg (fun h => h3 h.1)]

/-- The policies 1 and 2 repeat after two lengths. -/
theorem emod_two (i n t : Int) (h : 0 < n) : (i + t * (2 * n)) % n = i % n := by
  rw [show t * (2 * n) = n * (t * 2) by grind]
  exact Int.add_mul_emod_self_left ..
theorem ixv_period {i n p t : Int} (hp : p ≠ 0) (hp3 : p ≠ 3) : ixv (i + t * (2 * n)) n p = ixv i n p := by
  unfold ixv
  by_cases c : n < 1 ∨ n > 128
  · rw [if_pos c, if_pos c]
  · rw [if_neg c, if_neg c, if_neg hp, if_neg hp, show (i + t * (2 * n)) % (2 * n) = i % (2 * n) from Int.add_mul_emod_self_right .., emod_two i n t (by omega)]
    by_cases c1 : p = 1
    · rw [if_pos c1, if_pos c1]
    · rw [if_neg c1, if_neg c1]
      by_cases c2 : p = 2
      · rw [if_pos c2, if_pos c2]
      · rw [if_neg c2, if_neg c2, if_neg (fun h => hp3 h.1), if_neg (fun h => hp3 h.1)]

theorem ixv_bounds {i n p v : Int} (h : ixv i n p = some v) : 0 ≤ v ∧ v < n ∧ 1 ≤ n ∧ n ≤ 128 := by
  unfold ixv at h
  split at h
  · cases h
  · next hn =>
    have g1 := Int.emod_nonneg i (by omega : 2 * n ≠ 0)
    have g2 := Int.emod_lt_of_pos i (by omega : 0 < 2 * n)
    have g3 := Int.emod_nonneg i (by omega : n ≠ 0)
    have g4 := Int.emod_lt_of_pos i (by omega : 0 < n)
    generalize i % (2 * n) = m at *
    generalize i % n = m2 at *
    split at h
    · cases h; omega
    · split at h
      · cases h; omega
      · split at h
        · cases h; omega
        · split at h
          · cases h; omega
          · cases h

theorem rmod_eq (a n : Int) (h : 0 < n) (hn : n ≤ 4611686018427387904) : tilefarmref3_mod.f a n = some (a % n) := by
  have h2 := Int.emod_nonneg a (by omega : n ≠ 0)
  have h3 := Int.emod_lt_of_pos a h
  unfold tilefarmref3_mod.f
  rw [if_neg (by omega)]
  rcases tmod_emod a n h with ⟨h4, h5⟩ | ⟨h4, h5⟩
  · rw [if_neg (by omega), h5]
  · rw [if_pos h4, wrap_in (by omega) (by omega), h5]

theorem rindex_eq {k : Nat} (hk : 0 < k) (i n p : Int) : tilefarmref3_Index.f k i n p = some (pr (ixv i n p)) := by
  obtain ⟨k, rfl⟩ : ∃ m, k = m + 1 := ⟨k - 1, by omega⟩
  unfold tilefarmref3_Index.f ixv
  by_cases h1 : n < 1
  · rw [if_pos h1, if_pos (.inl h1)]
    simp only [tilefarmref3_Index.j0, if_true, pr]
  · rw [if_neg h1]
    by_cases h2 : n > 128
    · rw [if_pos (.inr h2), decide_eq_true h2]
      simp only [tilefarmref3_Index.j0, if_true, pr]
    · rw [if_neg (by omega), decide_eq_false h2]
      have e1 : wrap64 (n - 1) = n - 1 := wrap_in (by omega) (by omega)
      have e2 : wrap64 (2 * n) = 2 * n := wrap_in (by omega) (by omega)
      have e3 : wrap64 (2 * n - 1) = 2 * n - 1 := wrap_in (by omega) (by omega)
      have g1 := Int.emod_nonneg i (by omega : 2 * n ≠ 0)
      have g2 := Int.emod_lt_of_pos i (by omega : 0 < 2 * n)
      simp only [tilefarmref3_Index.j0, if_neg Bool.false_ne_true, e1, e2, e3, rmod_eq i (2 * n) (by omega) (by omega), rmod_eq i n (by omega) (by omega), Option.bind_some, mx_max, mn_min]
      rw [wrap_in (n := 2 * n - 1 - i % (2 * n)) (by omega) (by omega)]
      by_cases q0 : p = 0
      · rw [if_pos q0, if_pos q0]; rfl
      · rw [if_neg q0, if_neg q0]
        by_cases q1 : p = 1
        · rw [if_pos q1, if_pos q1]
          by_cases c : i % (2 * n) ≥ n
          · rw [if_pos c, Int.min_eq_right (by omega)]; rfl
          · rw [if_neg c, Int.min_eq_left (by omega)]; rfl
        · rw [if_neg q1, if_neg q1]
          by_cases q2 : p = 2
          · rw [if_pos q2, if_pos q2]; rfl
          · rw [if_neg q2, if_neg q2]
            by_cases q3 : p = 3
            · rw [if_pos q3]
              by_cases c1 : i ≥ 0
              · by_cases c2 : i < n
                · rw [if_pos c1, if_pos c2, if_pos (by omega)]; rfl
                · rw [if_pos c1, if_neg c2, if_neg (by omega)]; rfl
              · rw [if_neg c1, if_neg (by omega)]; rfl
            · rw [if_neg q3, if_neg (fun h => q3 h.1)]; rfl


theorem sane_eq : tilefarmlaw3_sane.f 2000 = some true := by decide +kernel

def vld (p f m : Int) : Bool := decide ((p = 3 ∧ 0 ≤ f ∧ f ≤ m) ∨ (0 ≤ p ∧ p < 3 ∧ f = 0))

theorem valid_eq {k : Nat} (hk : 0 < k) (p f m : Int) : border_Valid.f k p f m = some (vld p f m) := by
  obtain ⟨k, rfl⟩ : ∃ n, k = n + 1 := ⟨k - 1, by omega⟩
  have hj : ∀ q : Bool, (q = true ↔ p = 0 ∨ p = 1 ∨ p = 2) → border_Valid.j0 (k + 1) m p q p f = some (vld p f m) := by
    intro q hq
    simp only [border_Valid.j0]
    by_cases c : q = true
    · rw [if_pos c]
      have := hq.1 c
      unfold vld
      congr 1
      rw [Bool.eq_iff_iff]
      simp only [beq_iff_eq, decide_eq_true_eq]
      omega
    · rw [if_neg c]
      have h' : ¬ (p = 0 ∨ p = 1 ∨ p = 2) := fun h => c (hq.2 h)
      unfold vld
      repeat' split
      · exact sd_iff (by omega)
      · exact sd_false (by omega)
      · exact sd_false (by omega)
  unfold border_Valid.f
  by_cases h0 : p = 0
  · rw [if_pos h0]; exact hj _ (by simp [h0])
  · rw [if_neg h0]
    by_cases h1 : p = 1
    · rw [if_pos h1]; exact hj _ (by simp [h1])
    · rw [if_neg h1]; exact hj _ (by simp [h0, h1])

theorem rvalid_eq (p f m : Int) : tilefarmref3_Valid.f p f m = some (vld p f m) := by
  unfold tilefarmref3_Valid.f vld
  repeat' split
  · exact sd_iff (by omega)
  · exact sd_false (by omega)
  · congr 1
    rw [Bool.eq_iff_iff]
    simp only [beq_iff_eq, decide_eq_true_eq]
    omega
  · exact sd_false (by omega)
  · exact sd_false (by omega)

theorem l2_eq (x1 x2 x3 p n : Int) (l28 : List Int) (x29 x30 : Int) (l41 : List Int) (x42 x43 : Int) (xs : List Int) (hx : xs.length ≤ 10) (e f : Int) (d : Nat) : ∀ (k i : Nat), 0 < k → i + d = xs.length →
    tilefarmlaw3_BorderIndex.l2 (k + d + 1) x1 x2 x3 p n l28 x29 x30 l41 x42 x43 xs (xs.length : Int) (i : Int) e f = tilefarmlaw3_BorderIndex.l1 k x1 x2 x3 p l28 x29 x30 l41 x42 (wrap64 (x43 + 1)) e f := by
  induction d with
  | zero =>
    intro k i hk hi
    rw [tilefarmlaw3_BorderIndex.l2, if_neg (by omega)]
  | succ d ih =>
    intro k i hk hi
    rw [show k + (d + 1) + 1 = (k + d + 1) + 1 by omega, tilefarmlaw3_BorderIndex.l2, if_pos (by omega), if_pos (by omega), if_pos (by omega), index_eq' (by omega), rindex_eq (by omega)]
    simp only [Option.bind_some, if_true, bne_self_eq_false, if_neg Bool.false_ne_true]
    rw [wrap_in (n := (i : Int) + 1) (by omega) (by omega)]
    exact ih k (i + 1) hk (by omega)

theorem l1_eq (x1 x2 x3 p : Int) (l28 : List Int) (x29 x30 : Int) (xs : List Int) (hx : xs.length ≤ 10) (e f : Int) (d : Nat) : ∀ (k i : Nat), 0 < k → i + d = xs.length →
    tilefarmlaw3_BorderIndex.l1 (k + 4 * d + 1) x1 x2 x3 p l28 x29 x30 xs (xs.length : Int) (i : Int) e f = tilefarmlaw3_BorderIndex.l0 k x1 x2 x3 l28 x29 (wrap64 (x30 + 1)) e f := by
  induction d with
  | zero =>
    intro k i hk hi
    rw [tilefarmlaw3_BorderIndex.l1, if_neg (by omega), valid_eq (by omega), rvalid_eq]
    simp only [Option.bind_some, bne_self_eq_false, if_neg Bool.false_ne_true, Nat.mul_zero, Nat.add_zero]
  | succ d ih =>
    intro k i hk hi
    rw [show k + 4 * (d + 1) + 1 = ((k + 4 * d + 1) + 2 + 1) + 1 by omega, tilefarmlaw3_BorderIndex.l1, if_pos (by omega), if_pos (by omega), if_pos (by omega), mod_eq _ 40 (by omega) (by omega)]
    simp only [Option.bind_some]
    have h2 := l2_eq x1 x2 x3 p (rd xs i) l28 x29 x30 xs (xs.length : Int) i [x2, wrap64 (x2 % 40 - 15)] (by simp) e f 2 (k + 4 * d + 1) 0 (by omega) rfl
    rw [Int.natCast_zero] at h2
    rw [h2, wrap_in (n := (i : Int) + 1) (by omega) (by omega)]
    exact ih k (i + 1) hk (by omega)

theorem l0_eq (x1 x2 x3 : Int) (xs : List Int) (hx : xs.length ≤ 10) (e f : Int) (d : Nat) : ∀ (k i : Nat), 2000 < k → i + d = xs.length →
    tilefarmlaw3_BorderIndex.l0 (k + 14 * d + 1) x1 x2 x3 xs (xs.length : Int) (i : Int) e f = some true := by
  induction d with
  | zero =>
    intro k i hk hi
    have hs : tilefarmlaw3_sane.f k = some true := at_rounds tilefarmlaw3_sane.mono (by omega) sane_eq
    rw [tilefarmlaw3_BorderIndex.l0, if_neg (by omega), valid_eq (by omega), rvalid_eq]
    simp only [Option.bind_some, beq_self_eq_true, if_true, Nat.mul_zero, Nat.add_zero, hs]
  | succ d ih =>
    intro k i hk hi
    rw [show k + 14 * (d + 1) + 1 = ((k + 14 * d + 1) + 4 * 3 + 1) + 1 by omega, tilefarmlaw3_BorderIndex.l0, if_pos (by omega), if_pos (by omega), if_pos (by omega), mod_eq _ 128 (by omega) (by omega), mod_eq _ 5 (by omega) (by omega)]
    simp only [Option.bind_some]
    have h2 := l1_eq x1 x2 x3 (rd xs i) xs (xs.length : Int) i [x3, wrap64 (1 + x3 % 128), wrap64 (1 + x3 % 5)] (by simp) e f 3 (k + 14 * d + 1) 0 (by omega) rfl
    rw [Int.natCast_zero] at h2
    rw [h2, wrap_in (n := (i : Int) + 1) (by omega) (by omega)]
    exact ih k (i + 1) hk (by omega)

theorem BorderIndex : tilefarmlaw3_BorderIndex.Pure := by
  intro e f m i n p _ _ _ _ _ _
  obtain ⟨K, hK⟩ : ∃ K : Nat, 2000 < K := ⟨2001, by omega⟩
  refine ⟨K + 14 * 3 + 1, ?_⟩
  unfold tilefarmlaw3_BorderIndex.f
  simp only [mod_eq _ 6 (by omega) (by omega), mod_eq _ 4 (by omega) (by omega), Option.bind_some]
  exact l0_eq m i n [p, wrap64 (p % 6 - 1), p % 4] (by simp) e f 3 K 0 hK rfl


end Go.Proofs.Ytagdbpbajkojoaa.Pure

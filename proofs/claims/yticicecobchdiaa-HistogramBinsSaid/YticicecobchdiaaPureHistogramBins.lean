/- Bins are monotone, the ends are in the end bins, and bins that divide the range have equally many values: for all integers. -/
import Derived.Test.YticicecobchdiaaPHistogramBinsx6
namespace Go.Proofs.Yticicecobchdiaa.Pure
open Go.RowKit Go.Proofs.Yticicecobchdiaa.PHistogramBins Go.Proofs.YticicecobchdiaaW.PrintWords Go.Proofs.YticicecobchdiaaW.PrintLast Go.Proofs.YticicecobchdiaaW.PrintMore
set_option linter.unusedVariables false
set_option linter.unusedSimpArgs false

theorem wrap_in {n : Int} (h : -9223372036854775808 ≤ n) (h' : n ≤ 9223372036854775807) : wrap64 n = n := by unfold wrap64; omega

theorem tmod_emod (a n : Int) (h : 0 < n) : (0 ≤ Int.tmod a n ∧ Int.tmod a n = a % n) ∨ (Int.tmod a n < 0 ∧ Int.tmod a n + n = a % n) := by
  have h1 := Int.tmod_eq_emod (a := a) (b := n)
  have h2 := Int.emod_nonneg a (by omega : n ≠ 0)
  have h3 := Int.emod_lt_of_pos a h
  split at h1 <;> omega

theorem mod_eq (a n : Int) (h : 0 < n) (hn : n ≤ 4611686018427387904) : tilefarmgen_Mod.f a n = some (a % n) := by
  have h2 := Int.emod_nonneg a (by omega : n ≠ 0)
  have h3 := Int.emod_lt_of_pos a h
  unfold tilefarmgen_Mod.f
  rw [if_neg (by omega)]
  rcases tmod_emod a n h with ⟨h4, h5⟩ | ⟨h4, h5⟩
  · rw [if_neg (by omega), h5]
  · rw [if_pos h4, wrap_in (by omega) (by omega), h5]

theorem sd_true {p : Prop} [Decidable p] (h : p) : some true = some (decide p) := by rw [decide_eq_true h]
theorem sd_false {p : Prop} [Decidable p] (h : ¬ p) : some false = some (decide p) := by rw [decide_eq_false h]
theorem sd_iff {p q : Prop} [Decidable p] [Decidable q] (h : q ↔ p) : some (decide q) = some (decide p) := by rw [decide_eq_decide.2 h]

theorem mx_max (a b : Int) : mx a b = max a b := by unfold mx; omega
theorem mn_min (a b : Int) : mn a b = min a b := by unfold mn; omega

theorem mul_bd {x y B C : Int} (hx : 0 ≤ x) (hy : 0 ≤ y) (hxB : x ≤ B) (hyB : y ≤ C) : 0 ≤ x * y ∧ x * y ≤ B * C :=
  ⟨Int.mul_nonneg hx hy, Int.mul_le_mul hxB hyB hy (by omega)⟩

theorem dec_iff {p q : Prop} [Decidable p] [Decidable q] (h : p ↔ q) : decide p = decide q := decide_eq_decide.2 h
theorem and_not_dec (p q : Prop) [Decidable p] [Decidable q] : (decide p && !decide q) = decide (p ∧ ¬ q) := by
  by_cases hp : p <;> by_cases hq : q <;> simp [hp, hq]

theorem wrap64_range (n : Int) : -9223372036854775808 ≤ wrap64 n ∧ wrap64 n ≤ 9223372036854775807 := by unfold wrap64; omega

theorem wf_range {n : Int} (h : (Lit.int .i64 n).wf = true) : -9223372036854775808 ≤ n ∧ n ≤ 9223372036854775807 := by
  simp only [Lit.wf, IntKind.min, IntKind.max, IntKind.signed, IntKind.bits, Bool.and_eq_true, decide_eq_true_eq, if_true] at h
  omega


theorem sane_eq : tilefarmlaw12_sane.f 60 = some true := by decide +kernel

theorem bin_eq (v M n : Int) (hv : 0 ≤ v) (hv' : v ≤ M) (hM : 1 ≤ M) (hM' : M ≤ 70000) (hn : 1 ≤ n) (hn' : n ≤ 128) : histogram_Bin.f v M n = some (v * n / (M + 1)) := by
  obtain ⟨b0, b1⟩ := mul_bd (x := v) (y := n) (B := 70000) (C := 128) hv (by omega) (by omega) hn'
  have q0 : 0 ≤ v * n / (M + 1) := Int.ediv_nonneg b0 (by omega)
  have q1 : v * n / (M + 1) ≤ v * n := Int.ediv_le_self _ b0
  unfold histogram_Bin.f histogram_between.f
  rw [if_pos (show M ≥ 1 by omega), if_pos (show v ≥ 0 by omega), if_pos (show n ≥ 1 by omega), decide_eq_true (show M ≤ 4294967296 by omega), decide_eq_true (show v ≤ M by omega), decide_eq_true (show n ≤ 128 by omega)]
  simp only [Option.bind_some, if_true]
  rw [wrap_in (n := M + 1) (by omega) (by omega), if_neg (by omega), wrap_in (n := v * n) (by omega) (by omega), Int.tdiv_eq_ediv_of_nonneg b0, wrap_in (by omega) (by omega)]

theorem HistogramBins : tilefarmlaw12_HistogramBins.Pure := by
  intro a0 a1 a2 a3 w0 w1 w2 w3
  obtain ⟨K, hK⟩ : ∃ K : Nat, 60 ≤ K := ⟨60, Nat.le_refl _⟩
  have hsane : tilefarmlaw12_sane.f K = some true := at_rounds tilefarmlaw12_sane.mono hK sane_eq
  refine ⟨K, ?_⟩
  unfold tilefarmlaw12_HistogramBins.f
  rw [mod_eq a2 _ (by decide) (by decide), mod_eq a3 _ (by decide) (by decide), mod_eq a1 _ (by decide) (by decide)]
  have g0 : 0 ≤ a2 % 70000 ∧ a2 % 70000 < 70000 := by omega
  have g1 : 0 ≤ a3 % 128 ∧ a3 % 128 < 128 := by omega
  have g2 : 0 ≤ a1 % 1000 ∧ a1 % 1000 < 1000 := by omega
  generalize a2 % 70000 = M0 at g0 ⊢
  generalize a3 % 128 = n0 at g1 ⊢
  generalize a1 % 1000 = d at g2 ⊢
  clear w0 w1 w2 w3
  simp only [Option.bind_some]
  rw [wrap_in (n := 1 + M0) (by omega) (by omega), wrap_in (n := 1 + n0) (by omega) (by omega)]
  obtain ⟨M, hM⟩ : ∃ M, 1 + M0 = M := ⟨_, rfl⟩
  obtain ⟨n, hn⟩ : ∃ n, 1 + n0 = n := ⟨_, rfl⟩
  rw [hM, hn, wrap_in (n := M + 1) (by omega) (by omega), mod_eq a0 _ (by omega) (by omega)]
  have g3 : 0 ≤ a0 % (M + 1) ∧ a0 % (M + 1) < M + 1 := ⟨Int.emod_nonneg _ (by omega), Int.emod_lt_of_pos _ (by omega)⟩
  generalize a0 % (M + 1) = a at g3 ⊢
  have hM1 : 1 ≤ M ∧ M ≤ 70000 := by omega
  have hn1 : 1 ≤ n ∧ n ≤ 128 := by omega
  clear g0 g1 hM hn
  simp only [Option.bind_some]
  rw [wrap_in (n := a + d) (by omega) (by omega), mn_min]
  obtain ⟨b, hb⟩ : ∃ b, min (a + d) M = b := ⟨_, rfl⟩
  have hb1 : a ≤ b ∧ b ≤ M := by omega
  rw [hb, bin_eq a M n (by omega) (by omega) hM1.1 hM1.2 hn1.1 hn1.2, bin_eq b M n (by omega) (by omega) hM1.1 hM1.2 hn1.1 hn1.2, bin_eq 0 M n (by omega) (by omega) hM1.1 hM1.2 hn1.1 hn1.2, bin_eq M M n (by omega) (by omega) hM1.1 hM1.2 hn1.1 hn1.2]
  clear hb g2
  simp only [Option.bind_some, Int.zero_mul, Int.zero_ediv, if_true]
  have e0 : 0 ≤ a * n := Int.mul_nonneg g3.1 (by omega)
  have e1 : a * n ≤ b * n := Int.mul_le_mul_of_nonneg_right hb1.1 (by omega)
  have q0 : 0 ≤ a * n / (M + 1) := Int.ediv_nonneg e0 (by omega)
  have q1 : a * n / (M + 1) < n := by
    refine Int.ediv_lt_of_lt_mul (by omega) ?_
    rw [Int.mul_comm n]
    exact Int.mul_lt_mul_of_pos_right (by omega) (by omega)
  have q2 : a * n / (M + 1) ≤ b * n / (M + 1) := Int.ediv_le_ediv (by omega) e1
  rw [if_neg (by omega), if_neg (by omega), if_neg (by omega)]
  have last : (if n = 0 then (none) else (if (Int.tmod (M + 1) n) = 0 then (if (wrap64 (Int.tdiv (M + 1) n)) = 0 then (none) else (if a * n / (M + 1) = (wrap64 (Int.tdiv a (wrap64 (Int.tdiv (M + 1) n)))) then ((tilefarmlaw12_sane.f K).bind fun t204 => (some t204)) else (some false))) else ((tilefarmlaw12_sane.f K).bind fun t205 => (some t205)))) = some true := by
    have hg0 : 0 ≤ (M + 1) / n := Int.ediv_nonneg (by omega) (by omega)
    have hg1 : (M + 1) / n ≤ M + 1 := Int.ediv_le_self _ (by omega)
    have hg2 : n * ((M + 1) / n) + (M + 1) % n = M + 1 := Int.mul_ediv_add_emod _ _
    rw [if_neg (by omega), Int.tmod_eq_emod_of_nonneg (by omega), Int.tdiv_eq_ediv_of_nonneg (by omega), wrap_in (n := (M + 1) / n) (by omega) (by omega), hsane]
    by_cases hd : (M + 1) % n = 0
    · rw [if_pos hd]
      rw [hd] at hg2
      generalize (M + 1) / n = g at hg0 hg1 hg2 ⊢
      have hgp : 0 < g := by
        rcases (by omega : g = 0 ∨ 0 < g) with h | h
        · rw [h, Int.mul_zero] at hg2; omega
        · exact h
      have hag : 0 ≤ a / g := Int.ediv_nonneg g3.1 hg0
      have hag1 : a / g ≤ a := Int.ediv_le_self _ g3.1
      rw [if_neg (by omega), Int.tdiv_eq_ediv_of_nonneg g3.1, wrap_in (n := a / g) (by omega) (by omega), if_pos]
      · rfl
      · rw [show M + 1 = g * n by rw [Int.mul_comm]; omega]
        exact Int.mul_ediv_mul_of_pos_left a g (by omega)
    · rw [if_neg hd]; rfl
  by_cases h1 : M + 1 ≥ n
  · have e2 : M * n / (M + 1) = n - 1 := by
      have : M * n = (M + 1 - n) + (n - 1) * (M + 1) := by
        rw [Int.sub_mul, Int.mul_add, Int.mul_comm n M]; omega
      rw [this, Int.add_mul_ediv_right _ _ (by omega), Int.ediv_eq_zero_of_lt (by omega) (by omega)]; omega
    rw [if_pos h1, e2, wrap_in (n := n - 1) (by omega) (by omega), if_pos rfl]
    exact last
  · rw [if_neg h1]
    exact last


end Go.Proofs.Yticicecobchdiaa.Pure

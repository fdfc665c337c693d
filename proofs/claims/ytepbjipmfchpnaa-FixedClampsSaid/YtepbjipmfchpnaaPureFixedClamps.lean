/- A clamped number is the nearest one from 0 to the greatest value: for all integers. -/
import Derived.Test.YtepbjipmfchpnaaPFixedClampsx2
namespace Go.Proofs.Ytepbjipmfchpnaa.Pure
open Go.RowKit Go.Proofs.Ytepbjipmfchpnaa.PFixedClamps Go.Proofs.YtepbjipmfchpnaaW.PrintWords Go.Proofs.YtepbjipmfchpnaaW.PrintLast Go.Proofs.YtepbjipmfchpnaaW.PrintMore
set_option linter.unusedVariables false
set_option linter.unusedSimpArgs false

theorem wrap_in {n : Int} (h : -9223372036854775808 ≤ n) (h' : n ≤ 9223372036854775807) : wrap64 n = n := by unfold wrap64; omega

theorem tmod_emod (a n : Int) (h : 0 < n) : (0 ≤ Int.tmod a n ∧ Int.tmod a n = a % n) ∨ (Int.tmod a n < 0 ∧ Int.tmod a n + n = a % n) := by
  have h1 := Int.tmod_eq_emod (a := a) (b := n)
  have h2 := Int.emod_nonneg a (by omega : n ≠ 0)
  have h3 := Int.emod_lt_of_pos a h
  split at h1 <;> omega

theorem mod_eq (a n : Int) (h : 0 < n) (hn : n ≤ 4611686018427387904) : tilefarmgen_Mod.f a n = some (a % n) := by
  have h2 := Int.emod_nonneg a (by omega : n ≠ 0)
  have h3 := Int.emod_lt_of_pos a h
  unfold tilefarmgen_Mod.f
  rw [if_neg (by omega)]
  rcases tmod_emod a n h with ⟨h4, h5⟩ | ⟨h4, h5⟩
  · rw [if_neg (by omega), h5]
  · rw [if_pos h4, wrap_in (by omega) (by omega), h5]

theorem sd_true {p : Prop} [Decidable p] (h : p) : some true = some (decide p) := by rw [decide_eq_true h]
theorem sd_false {p : Prop} [Decidable p] (h : ¬ p) : some false = some (decide p) := by rw [decide_eq_false h]
theorem sd_iff {p q : Prop} [Decidable p] [Decidable q] (h : q ↔ p) : some (decide q) = some (decide p) := by rw [decide_eq_decide.2 h]

theorem mx_max (a b : Int) : mx a b = max a b := by unfold mx; omega
theorem mn_min (a b : Int) : mn a b = min a b := by unfold mn; omega

theorem mul_bd {x y B C : Int} (hx : 0 ≤ x) (hy : 0 ≤ y) (hxB : x ≤ B) (hyB : y ≤ C) : 0 ≤ x * y ∧ x * y ≤ B * C :=
  ⟨Int.mul_nonneg hx hy, Int.mul_le_mul hxB hyB hy (by omega)⟩

theorem dec_iff {p q : Prop} [Decidable p] [Decidable q] (h : p ↔ q) : decide p = decide q := decide_eq_decide.2 h
theorem and_not_dec (p q : Prop) [Decidable p] [Decidable q] : (decide p && !decide q) = decide (p ∧ ¬ q) := by
  by_cases hp : p <;> by_cases hq : q <;> simp [hp, hq]

theorem wrap64_range (n : Int) : -9223372036854775808 ≤ wrap64 n ∧ wrap64 n ≤ 9223372036854775807 := by unfold wrap64; omega

theorem wf_range {n : Int} (h : (Lit.int .i64 n).wf = true) : -9223372036854775808 ≤ n ∧ n ≤ 9223372036854775807 := by
  simp only [Lit.wf, IntKind.min, IntKind.max, IntKind.signed, IntKind.bits, Bool.and_eq_true, decide_eq_true_eq, if_true] at h
  omega


theorem sane_eq : tilefarmlaw7_sane.f 10 = some true := by decide +kernel

theorem FixedClamps : tilefarmlaw7_FixedClamps.Pure := by
  intro a0 a1 a2 w0 w1 w2
  refine ⟨11, ?_⟩
  unfold tilefarmlaw7_FixedClamps.f
  rw [mod_eq a1 _ (by decide) (by decide), mod_eq a0 _ (by decide) (by decide)]
  have m0 := Int.emod_nonneg a1 (show (1099511627776 : Int) ≠ 0 by decide)
  have m1 := Int.emod_lt_of_pos a1 (show (0 : Int) < 1099511627776 by decide)
  have n0 := Int.emod_nonneg a0 (show (4398046511104 : Int) ≠ 0 by decide)
  have n1 := Int.emod_lt_of_pos a0 (show (0 : Int) < 4398046511104 by decide)
  generalize a1 % 1099511627776 = m at m0 m1 ⊢
  generalize a0 % 4398046511104 = n at n0 n1 ⊢
  simp only [Option.bind_some, fixed_Clamp.f, mx_max, mn_min]
  rw [wrap_in (n := n - 2199023255552) (by omega) (by omega), wrap_in (n := m + 1) (by omega) (by omega), mod_eq a2 _ (by omega) (by omega)]
  have x0 := Int.emod_nonneg a2 (show m + 1 ≠ 0 by omega)
  have x1 := Int.emod_lt_of_pos a2 (show 0 < m + 1 by omega)
  generalize a2 % (m + 1) = x at x0 x1 ⊢
  obtain ⟨c, hc⟩ : ∃ c, max (min (n - 2199023255552) m) 0 = c := ⟨_, rfl⟩
  simp only [Option.bind_some, hc]
  rw [wrap_in (n := n - 2199023255552 - c) (by omega) (by omega), wrap_in (n := n - 2199023255552 - x) (by omega) (by omega)]
  have key : ∀ d e, (d = n - 2199023255552 - c ∨ d = -(n - 2199023255552 - c)) → 0 ≤ d → e = n - 2199023255552 - x → tilefarmlaw7_FixedClamps.j0 11 m c d e = some true := by
    intro d e hd hd0 he
    simp only [tilefarmlaw7_FixedClamps.j0, fixed_Clamp.f, mx_max, mn_min, sane_eq, Option.bind_some]
    have hcc : max (min c m) 0 = c := by omega
    have hc0 : c ≥ 0 := by omega
    have hcm : c ≤ m := by omega
    simp only [if_pos hc0, if_pos hcm, if_pos hcc]
    split
    · rw [wrap_in (by omega) (by omega), if_pos (by omega)]
    · rw [if_pos (by omega)]
  by_cases h : n - 2199023255552 - c < 0
  · rw [if_pos h, wrap_in (n := -(n - 2199023255552 - c)) (by omega) (by omega)]
    exact key _ _ (.inr rfl) (by omega) rfl
  · rw [if_neg h]
    exact key _ _ (.inl rfl) (by omega) rfl


end Go.Proofs.Ytepbjipmfchpnaa.Pure

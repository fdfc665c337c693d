/- Round shifts, spans and clamped numbers are those of the reference: for all integers. -/
import Derived.Test.YtepbjipmfchpnaaPFixedShiftsx3
namespace Go.Proofs.Ytepbjipmfchpnaa.Pure
open Go.RowKit Go.Proofs.Ytepbjipmfchpnaa.PFixedShifts Go.Proofs.YtepbjipmfchpnaaW.PrintWords Go.Proofs.YtepbjipmfchpnaaW.PrintLast Go.Proofs.YtepbjipmfchpnaaW.PrintMore
set_option linter.unusedVariables false
set_option linter.unusedSimpArgs false

theorem wrap_in {n : Int} (h : -9223372036854775808 ≤ n) (h' : n ≤ 9223372036854775807) : wrap64 n = n := by unfold wrap64; omega

theorem tmod_emod (a n : Int) (h : 0 < n) : (0 ≤ Int.tmod a n ∧ Int.tmod a n = a % n) ∨ (Int.tmod a n < 0 ∧ Int.tmod a n + n = a % n) := by
  have h1 := Int.tmod_eq_emod (a := a) (b := n)
  have h2 := Int.emod_nonneg a (by omega : n ≠ 0)
  have h3 := Int.emod_lt_of_pos a h
  split at h1 <;> omega

theorem mod_eq (a n : Int) (h : 0 < n) (hn : n ≤ 4611686018427387904) : tilefarmgen_Mod.f a n = some (a % n) := by
  have h2 := Int.emod_nonneg a (by omega : n ≠ 0)
  have h3 := Int.emod_lt_of_pos a h
  unfold tilefarmgen_Mod.f
  rw [if_neg (by omega)]
  rcases tmod_emod a n h with ⟨h4, h5⟩ | ⟨h4, h5⟩
  · rw [if_neg (by omega), h5]
  · rw [if_pos h4, wrap_in (by omega) (by omega), h5]

theorem sd_true {p : Prop} [Decidable p] (h : p) : some true = some (decide p) := by rw [decide_eq_true h]
theorem sd_false {p : Prop} [Decidable p] (h : ¬ p) : some false = some (decide p) := by rw [decide_eq_false h]
theorem sd_iff {p q : Prop} [Decidable p] [Decidable q] (h : q ↔ p) : some (decide q) = some (decide p) := by rw [decide_eq_decide.2 h]

theorem mx_max (a b : Int) : mx a b = max a b := by unfold mx; omega
theorem mn_min (a b : Int) : mn a b = min a b := by unfold mn; omega

theorem mul_bd {x y B C : Int} (hx : 0 ≤ x) (hy : 0 ≤ y) (hxB : x ≤ B) (hyB : y ≤ C) : 0 ≤ x * y ∧ x * y ≤ B * C :=
  ⟨Int.mul_nonneg hx hy, Int.mul_le_mul hxB hyB hy (by omega)⟩

theorem dec_iff {p q : Prop} [Decidable p] [Decidable q] (h : p ↔ q) : decide p = decide q := decide_eq_decide.2 h
theorem and_not_dec (p q : Prop) [Decidable p] [Decidable q] : (decide p && !decide q) = decide (p ∧ ¬ q) := by
  by_cases hp : p <;> by_cases hq : q <;> simp [hp, hq]

theorem wrap64_range (n : Int) : -9223372036854775808 ≤ wrap64 n ∧ wrap64 n ≤ 9223372036854775807 := by unfold wrap64; omega

theorem wf_range {n : Int} (h : (Lit.int .i64 n).wf = true) : -9223372036854775808 ≤ n ∧ n ≤ 9223372036854775807 := by
  simp only [Lit.wf, IntKind.min, IntKind.max, IntKind.signed, IntKind.bits, Bool.and_eq_true, decide_eq_true_eq, if_true] at h
  omega


/-! Round shifts and clamped numbers are those of the reference. -/
def shifted (D n : Int) : Int := if wrap64 (wrap64 (Int.tdiv n D) * D) > n then wrap64 (wrap64 (Int.tdiv n D) - 1) else wrap64 (Int.tdiv n D)

theorem tdiv_facts (n D : Int) (h : 0 < D) : ∃ t m, Int.tdiv n D = t ∧ D * t + m = n ∧ (0 ≤ m ∧ m = n % D ∨ m < 0 ∧ m + D = n % D) :=
  ⟨_, _, rfl, Int.mul_tdiv_add_tmod n D, tmod_emod n D h⟩

theorem shift_one {D n : Int} (hD : 1 ≤ D) (hD' : D ≤ 16777216) (h : -35184372088832 ≤ n) (h' : n ≤ 35184372088832) : shifted D n = n / D := by
  obtain ⟨t, m, e, e2, e3⟩ := tdiv_facts n D (by omega)
  have r0 := Int.emod_nonneg n (show D ≠ 0 by omega)
  have r1 := Int.emod_lt_of_pos n (show 0 < D by omega)
  have q := Int.mul_ediv_add_emod n D
  have c : t * D = D * t := Int.mul_comm ..
  have ht : -35184388866048 ≤ t ∧ t ≤ 35184388866048 := by
    rcases Int.le_total 0 t with g | g
    · have := Int.mul_le_mul_of_nonneg_left hD g
      omega
    · have := Int.mul_le_mul_of_nonpos_left g hD
      omega
  unfold shifted
  rw [e, wrap_in (n := t) (by omega) (by omega), wrap_in (n := t * D) (by omega) (by omega)]
  rcases e3 with ⟨g1, g2⟩ | ⟨g1, g2⟩
  · rw [if_neg (show ¬ t * D > n by omega)]
    exact Int.eq_of_mul_eq_mul_left (show D ≠ 0 by omega) (show D * t = D * (n / D) by omega)
  · rw [if_pos (show t * D > n by omega), wrap_in (n := t - 1) (by omega) (by omega)]
    refine Int.eq_of_mul_eq_mul_left (show D ≠ 0 by omega) ?_
    rw [Int.mul_sub, Int.mul_one]
    omega

theorem core (k : Nat) (a s H D : Int) (f1 : wrap64 (s - 1) = s - 1) (f2 : IntKind.u64.wrap (s - 1) = s - 1) (f3 : IntKind.u64.wrap s = s) (f4 : shl .i64 1 (s - 1) = H) (f5 : shl .i64 1 s = D) (f6 : (2 : Int) ^ min s.toNat 64 = D)
    (hs : 1 ≤ s) (hH : 0 ≤ H) (hH' : H ≤ 16777216) (hD : D ≠ 0) (h0 : a ≥ (-17592186044416)) (h1 : a ≤ 17592186044416) (hd : ∀ n, -35184372088832 ≤ n → n ≤ 35184372088832 → shifted D n = n / D) :
    (if s = 0 then (some a) else (if 0 ≤ (wrap64 (s - 1)) then (if 0 ≤ s then (some (shr .i64 (wrap64 (a + (shl .i64 1 (wrap64 (s - 1))))) s)) else (none)) else (none))) = some ((a + H) / D) ∧
    (if s = 0 then (some a) else (if 0 ≤ (IntKind.u64.wrap (wrap64 (s - 1))) then (if 0 ≤ (IntKind.u64.wrap (s)) then (if (shl .i64 1 (IntKind.u64.wrap (s))) = 0 then (none) else (if (wrap64 ((wrap64 (Int.tdiv (wrap64 (a + (shl .i64 1 (IntKind.u64.wrap (wrap64 (s - 1)))))) (shl .i64 1 (IntKind.u64.wrap (s))))) * (shl .i64 1 (IntKind.u64.wrap (s))))) > (wrap64 (a + (shl .i64 1 (IntKind.u64.wrap (wrap64 (s - 1)))))) then (some (wrap64 ((wrap64 (Int.tdiv (wrap64 (a + (shl .i64 1 (IntKind.u64.wrap (wrap64 (s - 1)))))) (shl .i64 1 (IntKind.u64.wrap (s))))) - 1))) else (some (wrap64 (Int.tdiv (wrap64 (a + (shl .i64 1 (IntKind.u64.wrap (wrap64 (s - 1)))))) (shl .i64 1 (IntKind.u64.wrap (s)))))))) else (none)) else (none))) = some ((a + H) / D) := by
  have hw : wrap64 (a + H) = a + H := wrap_in (by omega) (by omega)
  simp only [f1, f2, f3, f4, f5, hw, if_neg (show ¬ s = 0 by omega), if_pos (show 0 ≤ s - 1 by omega), if_pos (show 0 ≤ s by omega), if_neg hD]
  constructor
  · unfold shr
    rw [show IntKind.i64.bits = 64 from rfl, f6]
  · have := hd (a + H) (by omega) (by omega)
    unfold shifted at this
    rw [← this]
    split <;> rfl

theorem shift_eq (k : Nat) (a s : Int) : ∃ v, fixed_Shift.f (k + 1) a s = some v ∧ tilefarmref7_Shift.f (k + 1) a s = some v := by
  unfold fixed_Shift.f tilefarmref7_Shift.f fixed_sum.f tilefarmref7_Acc.f tilefarmref7_IsShift.f
  by_cases h0 : a ≥ (-17592186044416)
  · by_cases h1 : a ≤ 17592186044416
    · simp only [if_pos h0, decide_eq_true h1, Option.bind_some, if_true]
      by_cases s0 : s < 0
      · refine ⟨0, ?_, ?_⟩
        · simp only [if_pos s0, fixed_Shift.j0, if_true]
        · simp only [if_neg (show ¬ s ≥ 0 by omega), Option.bind_some, tilefarmref7_Shift.j0, Bool.not_false, if_true]
      · by_cases s1 : s > 24
        · refine ⟨0, ?_, ?_⟩
          · simp only [if_neg s0, decide_eq_true s1, fixed_Shift.j0, if_true]
          · simp only [if_pos (show s ≥ 0 by omega), decide_eq_false (show ¬ s ≤ 24 by omega), Option.bind_some, tilefarmref7_Shift.j0, Bool.not_false, if_true]
        · simp only [if_neg s0, decide_eq_false s1, if_pos (show s ≥ 0 by omega), decide_eq_true (show s ≤ 24 by omega), Option.bind_some, fixed_Shift.j0, tilefarmref7_Shift.j0, Bool.not_true, Bool.false_eq_true, if_false]
          by_cases s2 : s = 0
          · subst s2; exact ⟨a, by rw [if_pos rfl], by rw [if_pos rfl]⟩
          · rcases (by omega : s = 1 ∨ s = 2 ∨ s = 3 ∨ s = 4 ∨ s = 5 ∨ s = 6 ∨ s = 7 ∨ s = 8 ∨ s = 9 ∨ s = 10 ∨ s = 11 ∨ s = 12 ∨ s = 13 ∨ s = 14 ∨ s = 15 ∨ s = 16 ∨ s = 17 ∨ s = 18 ∨ s = 19 ∨ s = 20 ∨ s = 21 ∨ s = 22 ∨ s = 23 ∨ s = 24) with rfl | rfl | rfl | rfl | rfl | rfl | rfl | rfl | rfl | rfl | rfl | rfl | rfl | rfl | rfl | rfl | rfl | rfl | rfl | rfl | rfl | rfl | rfl | rfl
            · exact ⟨_, core k a 1 1 2 (by decide +kernel) (by decide +kernel) (by decide +kernel) (by decide +kernel) (by decide +kernel) (by decide +kernel) (by decide) (by decide) (by decide) (by decide) h0 h1 (fun n h h' => shift_one (by decide) (by decide) h h')⟩
            · exact ⟨_, core k a 2 2 4 (by decide +kernel) (by decide +kernel) (by decide +kernel) (by decide +kernel) (by decide +kernel) (by decide +kernel) (by decide) (by decide) (by decide) (by decide) h0 h1 (fun n h h' => shift_one (by decide) (by decide) h h')⟩
            · exact ⟨_, core k a 3 4 8 (by decide +kernel) (by decide +kernel) (by decide +kernel) (by decide +kernel) (by decide +kernel) (by decide +kernel) (by decide) (by decide) (by decide) (by decide) h0 h1 (fun n h h' => shift_one (by decide) (by decide) h h')⟩
            · exact ⟨_, core k a 4 8 16 (by decide +kernel) (by decide +kernel) (by decide +kernel) (by decide +kernel) (by decide +kernel) (by decide +kernel) (by decide) (by decide) (by decide) (by decide) h0 h1 (fun n h h' => shift_one (by decide) (by decide) h h')⟩
            · exact ⟨_, core k a 5 16 32 (by decide +kernel) (by decide +kernel) (by decide +kernel) (by decide +kernel) (by decide +kernel) (by decide +kernel) (by decide) (by decide) (by decide) (by decide) h0 h1 (fun n h h' => shift_one (by decide) (by decide) h h')⟩
            · exact ⟨_, core k a 6 32 64 (by decide +kernel) (by decide +kernel) (by decide +kernel) (by decide +kernel) (by decide +kernel) (by decide +kernel) (by decide) (by decide) (by decide) (by decide) h0 h1 (fun n h h' => shift_one (by decide) (by decide) h h')⟩
            · exact ⟨_, core k a 7 64 128 (by decide +kernel) (by decide +kernel) (by decide +kernel) (by decide +kernel) (by decide +kernel) (by decide +kernel) (by decide) (by decide) (by decide) (by decide) h0 h1 (fun n h h' => shift_one (by decide) (by decide) h h')⟩
            · exact ⟨_, core k a 8 128 256 (by decide +kernel) (by decide +kernel) (by decide +kernel) (by decide +kernel) (by decide +kernel) (by decide +kernel) (by decide) (by decide) (by decide) (by decide) h0 h1 (fun n h h' => shift_one (by decide) (by decide) h h')⟩
            · exact ⟨_, core k a 9 256 512 (by decide +kernel) (by decide +kernel) (by decide +kernel) (by decide +kernel) (by decide +kernel) (by decide +kernel) (by decide) (by decide) (by decide) (by decide) h0 h1 (fun n h h' => shift_one (by decide) (by decide) h h')⟩
            · exact ⟨_, core k a 10 512 1024 (by decide +kernel) (by decide +kernel) (by decide +kernel) (by decide +kernel) (by decide +kernel) (by decide +kernel) (by decide) (by decide) (by decide) (by decide) h0 h1 (fun n h h' => shift_one (by decide) (by decide) h h')⟩
            · exact ⟨_, core k a 11 1024 2048 (by decide +kernel) (by decide +kernel) (by decide +kernel) (by decide +kernel) (by decide +kernel) (by decide +kernel) (by decide) (by decide) (by decide) (by decide) h0 h1 (fun n h h' => shift_one (by decide) (by decide) h h')⟩
            · exact ⟨_, core k a 12 2048 4096 (by decide +kernel) (by decide +kernel) (by decide +kernel) (by decide +kernel) (by decide +kernel) (by decide +kernel) (by decide) (by decide) (by decide) (by decide) h0 h1 (fun n h h' => shift_one (by decide) (by decide) h h')⟩
            · exact ⟨_, core k a 13 4096 8192 (by decide +kernel) (by decide +kernel) (by decide +kernel) (by decide +kernel) (by decide +kernel) (by decide +kernel) (by decide) (by decide) (by decide) (by decide) h0 h1 (fun n h h' => shift_one (by decide) (by decide) h h')⟩
            · exact ⟨_, core k a 14 8192 16384 (by decide +kernel) (by decide +kernel) (by decide +kernel) (by decide +kernel) (by decide +kernel) (by decide +kernel) (by decide) (by decide) (by decide) (by decide) h0 h1 (fun n h h' => shift_one (by decide) (by decide) h h')⟩
            · exact ⟨_, core k a 15 16384 32768 (by decide +kernel) (by decide +kernel) (by decide +kernel) (by decide +kernel) (by decide +kernel) (by decide +kernel) (by decide) (by decide) (by decide) (by decide) h0 h1 (fun n h h' => shift_one (by decide) (by decide) h h')⟩
            · exact ⟨_, core k a 16 32768 65536 (by decide +kernel) (by decide +kernel) (by decide +kernel) (by decide +kernel) (by decide +kernel) (by decide +kernel) (by decide) (by decide) (by decide) (by decide) h0 h1 (fun n h h' => shift_one (by decide) (by decide) h h')⟩
            · exact ⟨_, core k a 17 65536 131072 (by decide +kernel) (by decide +kernel) (by decide +kernel) (by decide +kernel) (by decide +kernel) (by decide +kernel) (by decide) (by decide) (by decide) (by decide) h0 h1 (fun n h h' => shift_one (by decide) (by decide) h h')⟩
            · exact ⟨_, core k a 18 131072 262144 (by decide +kernel) (by decide +kernel) (by decide +kernel) (by decide +kernel) (by decide +kernel) (by decide +kernel) (by decide) (by decide) (by decide) (by decide) h0 h1 (fun n h h' => shift_one (by decide) (by decide) h h')⟩
            · exact ⟨_, core k a 19 262144 524288 (by decide +kernel) (by decide +kernel) (by decide +kernel) (by decide +kernel) (by decide +kernel) (by decide +kernel) (by decide) (by decide) (by decide) (by decide) h0 h1 (fun n h h' => shift_one (by decide) (by decide) h h')⟩
            · exact ⟨_, core k a 20 524288 1048576 (by decide +kernel) (by decide +kernel) (by decide +kernel) (by decide +kernel) (by decide +kernel) (by decide +kernel) (by decide) (by decide) (by decide) (by decide) h0 h1 (fun n h h' => shift_one (by decide) (by decide) h h')⟩
            · exact ⟨_, core k a 21 1048576 2097152 (by decide +kernel) (by decide +kernel) (by decide +kernel) (by decide +kernel) (by decide +kernel) (by decide +kernel) (by decide) (by decide) (by decide) (by decide) h0 h1 (fun n h h' => shift_one (by decide) (by decide) h h')⟩
            · exact ⟨_, core k a 22 2097152 4194304 (by decide +kernel) (by decide +kernel) (by decide +kernel) (by decide +kernel) (by decide +kernel) (by decide +kernel) (by decide) (by decide) (by decide) (by decide) h0 h1 (fun n h h' => shift_one (by decide) (by decide) h h')⟩
            · exact ⟨_, core k a 23 4194304 8388608 (by decide +kernel) (by decide +kernel) (by decide +kernel) (by decide +kernel) (by decide +kernel) (by decide +kernel) (by decide) (by decide) (by decide) (by decide) h0 h1 (fun n h h' => shift_one (by decide) (by decide) h h')⟩
            · exact ⟨_, core k a 24 8388608 16777216 (by decide +kernel) (by decide +kernel) (by decide +kernel) (by decide +kernel) (by decide +kernel) (by decide +kernel) (by decide) (by decide) (by decide) (by decide) h0 h1 (fun n h h' => shift_one (by decide) (by decide) h h')⟩
    · simp only [if_pos h0, decide_eq_false h1, Option.bind_some, Bool.false_eq_true, if_false]
      exact ⟨0, by simp only [fixed_Shift.j0, if_true], by simp only [tilefarmref7_Shift.j0, if_true]⟩
  · simp only [if_neg h0, Option.bind_some, Bool.false_eq_true, if_false]
    exact ⟨0, by simp only [fixed_Shift.j0, if_true], by simp only [tilefarmref7_Shift.j0, if_true]⟩

theorem span_eq (k : Nat) (a b s : Int) : ∃ p, fixed_Span.f (k + 1) a b s = some p ∧ tilefarmref7_Span.f (k + 1) a b s = some p := by
  obtain ⟨u, hu, hu'⟩ := shift_eq k a s
  obtain ⟨v, hv, hv'⟩ := shift_eq k b s
  exact ⟨(u, v), by simp only [fixed_Span.f, hu, hv, Option.bind_some], by simp only [tilefarmref7_Span.f, hu', hv', Option.bind_some]⟩


theorem sane_eq : tilefarmlaw7_sane.f 10 = some true := by decide +kernel

theorem clamp_eq (k : Nat) (v m : Int) : tilefarmref7_Clamp.f (k + 1) v m = some (max (min v m) 0) := by
  unfold tilefarmref7_Clamp.f
  simp only [tilefarmref7_Clamp.j0]
  split
  · rw [if_pos trivial]; congr 1; omega
  · by_cases h : m < 0
    · rw [if_pos (decide_eq_true h)]; congr 1; omega
    · rw [if_neg (by rw [decide_eq_false h]; decide)]
      split <;> congr 1 <;> omega

theorem l1_spec (x1 x2 x3 x10 : Int) (l : List Int) (c i : Int) (ys : List Int) (hy : ys.length ≤ 100) (R : Option Bool) (K : Nat)
    (hR : ∀ k, K ≤ k → tilefarmlaw7_FixedShifts.l0 k x1 x2 x3 l c (wrap64 (i + 1)) = R) (d : Nat) :
    ∀ (k j : Nat), j + d = ys.length → K + d + 2 ≤ k → tilefarmlaw7_FixedShifts.l1 k x1 x2 x3 x10 l c i ys (ys.length : Int) (j : Int) = R := by
  induction d with
  | zero =>
    intro k j hj hk
    obtain ⟨k, rfl⟩ : ∃ m, k = (m + 1) + 1 := ⟨k - 2, by omega⟩
    simp only [tilefarmlaw7_FixedShifts.l1]
    rw [if_neg (by omega), mod_eq _ _ (by decide) (by decide)]
    simp only [Option.bind_some, fixed_Clamp.f, mx_max, mn_min, clamp_eq, if_true]
    exact hR _ (by omega)
  | succ d ih =>
    intro k j hj hk
    obtain ⟨k, rfl⟩ : ∃ m, k = (m + 1) + 1 := ⟨k - 2, by omega⟩
    have e1 : wrap64 ((j : Int) + 1) = ((j + 1 : Nat) : Int) := by rw [wrap_in (by omega) (by omega)]; omega
    simp only [tilefarmlaw7_FixedShifts.l1]
    obtain ⟨p, hp, hp'⟩ := span_eq k x10 x1 (rd ys (j : Int))
    obtain ⟨v, hv, hv'⟩ := shift_eq k x10 (rd ys (j : Int))
    rw [if_pos (by omega), if_pos (by omega), if_pos (by omega)]
    simp only [hp, hp', hv, hv', Option.bind_some, if_true, e1]
    exact ih (k + 1) (j + 1) (by omega) (by omega)

theorem l0_spec (x1 x2 x3 : Int) (l : List Int) (hl : l.length ≤ 100) (d : Nat) :
    ∀ (k i : Nat), i + d = l.length → 100 + 10 * d ≤ k → tilefarmlaw7_FixedShifts.l0 k x1 x2 x3 l (l.length : Int) (i : Int) = some true := by
  induction d with
  | zero =>
    intro k i hi hk
    obtain ⟨k, rfl⟩ : ∃ m, k = (m + 10) + 1 := ⟨k - 11, by omega⟩
    have hs : tilefarmlaw7_sane.f (k + 10) = some true := at_rounds tilefarmlaw7_sane.mono (by omega) sane_eq
    simp only [tilefarmlaw7_FixedShifts.l0]
    rw [if_neg (by omega), hs]
    rfl
  | succ d ih =>
    intro k i hi hk
    obtain ⟨k, rfl⟩ : ∃ m, k = m + 1 := ⟨k - 1, by omega⟩
    have e1 : wrap64 ((i : Int) + 1) = ((i + 1 : Nat) : Int) := by rw [wrap_in (by omega) (by omega)]; omega
    simp only [tilefarmlaw7_FixedShifts.l0]
    rw [if_pos (by omega), if_pos (by omega), if_pos (by omega), mod_eq _ _ (by decide) (by decide)]
    simp only [Option.bind_some]
    refine l1_spec x1 x2 x3 _ l _ (i : Int) [x2, x2 % 25, 1] (by simp) (some true) (100 + 10 * d) (fun k hk => ?_) 3 k 0 (by simp) (by omega)
    rw [e1]
    exact ih k (i + 1) (by omega) hk

theorem FixedShifts : tilefarmlaw7_FixedShifts.Pure := by
  intro a0 a1 a2 a3 w0 w1 w2 w3
  obtain ⟨K, hK⟩ : ∃ K : Nat, 1000 ≤ K := ⟨1000, Nat.le_refl _⟩
  refine ⟨K, ?_⟩
  unfold tilefarmlaw7_FixedShifts.f
  rw [mod_eq a0 _ (by decide) (by decide), mod_eq a1 _ (by decide) (by decide)]
  simp only [Option.bind_some]
  exact l0_spec a1 a2 a3 _ (by simp) 4 K 0 (by simp) (by omega)


end Go.Proofs.Ytepbjipmfchpnaa.Pure

/- Classes, parts and the order of float64 values are those of the reference: for all bits. -/
import Derived.Test.YtoamkepelnphaaaPIeeeReadsx5
import Derived.Test.YtoamkepelnphaaaWSized
namespace Go.Proofs.Ytoamkepelnphaaa.Pure
open Go.RowKit Go.Proofs.Ytoamkepelnphaaa.PIeeeReads Go.Proofs.YtoamkepelnphaaaW.PrintWords Go.Proofs.YtoamkepelnphaaaW.PrintLast Go.Proofs.YtoamkepelnphaaaW.PrintMore
set_option linter.unusedVariables false
set_option linter.unusedSimpArgs false

theorem wrap_in {n : Int} (h : -9223372036854775808 ≤ n) (h' : n ≤ 9223372036854775807) : wrap64 n = n := by unfold wrap64; omega

theorem tmod_emod (a n : Int) (h : 0 < n) : (0 ≤ Int.tmod a n ∧ Int.tmod a n = a % n) ∨ (Int.tmod a n < 0 ∧ Int.tmod a n + n = a % n) := by
  have h1 := Int.tmod_eq_emod (a := a) (b := n)
  have h2 := Int.emod_nonneg a (by omega : n ≠ 0)
  have h3 := Int.emod_lt_of_pos a h
  split at h1 <;> omega

theorem mod_eq (a n : Int) (h : 0 < n) (hn : n ≤ 4611686018427387904) : tilefarmgen_Mod.f a n = some (a % n) := by
  have h2 := Int.emod_nonneg a (by omega : n ≠ 0)
  have h3 := Int.emod_lt_of_pos a h
  unfold tilefarmgen_Mod.f
  rw [if_neg (by omega)]
  rcases tmod_emod a n h with ⟨h4, h5⟩ | ⟨h4, h5⟩
  · rw [if_neg (by omega), h5]
  · rw [if_pos h4, wrap_in (by omega) (by omega), h5]

theorem sd_true {p : Prop} [Decidable p] (h : p) : some true = some (decide p) := by rw [decide_eq_true h]
theorem sd_false {p : Prop} [Decidable p] (h : ¬ p) : some false = some (decide p) := by rw [decide_eq_false h]
theorem sd_iff {p q : Prop} [Decidable p] [Decidable q] (h : q ↔ p) : some (decide q) = some (decide p) := by rw [decide_eq_decide.2 h]

theorem mx_max (a b : Int) : mx a b = max a b := by unfold mx; omega
theorem mn_min (a b : Int) : mn a b = min a b := by unfold mn; omega

theorem mul_bd {x y B C : Int} (hx : 0 ≤ x) (hy : 0 ≤ y) (hxB : x ≤ B) (hyB : y ≤ C) : 0 ≤ x * y ∧ x * y ≤ B * C :=
  ⟨Int.mul_nonneg hx hy, Int.mul_le_mul hxB hyB hy (by omega)⟩

theorem dec_iff {p q : Prop} [Decidable p] [Decidable q] (h : p ↔ q) : decide p = decide q := decide_eq_decide.2 h
theorem and_not_dec (p q : Prop) [Decidable p] [Decidable q] : (decide p && !decide q) = decide (p ∧ ¬ q) := by
  by_cases hp : p <;> by_cases hq : q <;> simp [hp, hq]

theorem wrap64_range (n : Int) : -9223372036854775808 ≤ wrap64 n ∧ wrap64 n ≤ 9223372036854775807 := by unfold wrap64; omega

theorem wf_range {n : Int} (h : (Lit.int .i64 n).wf = true) : -9223372036854775808 ≤ n ∧ n ≤ 9223372036854775807 := by
  simp only [Lit.wf, IntKind.min, IntKind.max, IntKind.signed, IntKind.bits, Bool.and_eq_true, decide_eq_true_eq, if_true] at h
  omega


theorem next_spec (l : List Int) (s n : Int) (hs : 0 ≤ s) (hl : l.length ≤ 4611686018427387904) (h : 0 < n) (hn : n ≤ 4611686018427387904) :
    ∃ r s', tilefarmgen_Tape_Next.f l s n = some (r, s') ∧ 0 ≤ r ∧ r < n ∧ 0 ≤ s' := by
  unfold tilefarmgen_Tape_Next.f
  rw [if_neg (by omega)]
  by_cases h1 : s ≥ (l.length : Int)
  · rw [if_pos h1]; exact ⟨_, _, rfl, by omega, by omega, hs⟩
  · have e1 : wrap64 (s + 1) = s + 1 := wrap_in (by omega) (by omega)
    have e2 : wrap64 (s + 1 - 1) = s := by rw [wrap_in (by omega) (by omega)]; omega
    rw [if_neg h1]
    simp only [e1, e2]
    rw [if_pos hs, if_pos (by omega), mod_eq _ _ h hn]
    exact ⟨_, _, rfl, Int.emod_nonneg _ (by omega), Int.emod_lt_of_pos _ h, by omega⟩


theorem u64_wrap {n : Int} (h : 0 ≤ n) (h' : n < 18446744073709551616) : IntKind.u64.wrap n = n := by
  simp only [IntKind.wrap, IntKind.bits, IntKind.signed, Bool.false_and, Bool.false_eq_true, if_false]
  omega
theorem u64_and {x : Int} (i : Nat) (hi : i ≤ 64) (h : 0 ≤ x) (h' : x < 18446744073709551616) : Go.bits .and .u64 x (2 ^ i - 1) = x % 2 ^ i :=
  Go.bits_mask .u64 64 (by decide) (fun n h h' => u64_wrap h h') i hi x h h'
theorem u64_andNot (x : Int) : Go.bits .andNot .u64 x 9223372036854775808 = Go.bits .and .u64 x 9223372036854775807 := by
  have e : ~~~(BitVec.ofInt 64 9223372036854775808) = BitVec.ofInt 64 9223372036854775807 := by decide +kernel
  unfold Go.bits
  show IntKind.u64.wrap (((BitVec.ofInt 64 x) &&& ~~~(BitVec.ofInt 64 9223372036854775808)).toNat : Int) = IntKind.u64.wrap (((BitVec.ofInt 64 x) &&& (BitVec.ofInt 64 9223372036854775807)).toNat : Int)
  rw [e]
theorem u64_flip {x : Int} (h : 0 ≤ x) (h' : x < 18446744073709551616) :
    ∃ y, Go.bits .xor .u64 x 9223372036854775808 = y ∧ 0 ≤ y ∧ y < 18446744073709551616 ∧ y % 9223372036854775808 = x % 9223372036854775808 ∧ y / 9223372036854775808 = 1 - x / 9223372036854775808 := by
  obtain ⟨a, rfl⟩ := Int.eq_ofNat_of_zero_le h
  have ha : a < 2 ^ 64 := by omega
  have h1 : (a ^^^ 9223372036854775808) % 2 ^ 63 = a % 2 ^ 63 := by rw [Nat.xor_mod_two_pow]; simp
  have h2 : (a ^^^ 9223372036854775808) / 2 ^ 63 = a / 2 ^ 63 ^^^ 1 := by rw [Nat.xor_div_two_pow]
  have h3 : a ^^^ 9223372036854775808 < 2 ^ 64 := Nat.xor_lt_two_pow ha (by decide)
  have h4 : a / 2 ^ 63 ^^^ 1 = 1 - a / 2 ^ 63 := by
    rcases (by omega : a / 2 ^ 63 = 0 ∨ a / 2 ^ 63 = 1) with e | e <;> rw [e] <;> rfl
  rw [h4] at h2
  refine ⟨((a ^^^ 9223372036854775808 : Nat) : Int), ?_, by omega, by omega, by omega, by omega⟩
  unfold Go.bits
  show IntKind.u64.wrap (((BitVec.ofInt 64 (a : Int)) ^^^ (BitVec.ofInt 64 9223372036854775808)).toNat : Int) = _
  rw [show (9223372036854775808 : Int) = ((9223372036854775808 : Nat) : Int) from rfl, BitVec.ofInt_natCast, BitVec.ofInt_natCast, BitVec.toNat_xor, BitVec.toNat_ofNat, BitVec.toNat_ofNat, Nat.mod_eq_of_lt ha, Nat.mod_eq_of_lt (by decide : 9223372036854775808 < 2 ^ 64)]
  exact u64_wrap (by omega) (by omega)

theorem rd_mem (l : List Int) (i : Nat) (h : i < l.length) : rd l (i : Int) ∈ l := by
  simp [rd, h]

theorem pick_spec (l : List Int) (s : Int) (xs : List Int) (hs : 0 ≤ s) (hl : l.length ≤ 4611686018427387904) (h : 0 < xs.length) (hx : xs.length ≤ 100) :
    ∃ v s', tilefarmgen_Tape_Pick.f l s xs = some (v, s') ∧ v ∈ xs ∧ 0 ≤ s' := by
  obtain ⟨r, s', h1, h2, h3, h4⟩ := next_spec l s (xs.length : Int) hs hl (by omega) (by omega)
  refine ⟨rd xs r, s', ?_, ?_, h4⟩
  · unfold tilefarmgen_Tape_Pick.f
    rw [h1]
    simp only [Option.bind_some]
    rw [if_pos h2, if_pos h3]
  · obtain ⟨n, rfl⟩ := Int.eq_ofNat_of_zero_le h2
    exact rd_mem xs n (by omega)

theorem u64_range (n : Int) : 0 ≤ IntKind.u64.wrap n ∧ IntKind.u64.wrap n < 18446744073709551616 := by
  simp only [IntKind.wrap, IntKind.bits, IntKind.signed, Bool.false_and, Bool.false_eq_true, if_false]
  omega

theorem bits_range (op : BinOp) (x y : Int) : 0 ≤ Go.bits op .u64 x y ∧ Go.bits op .u64 x y < 18446744073709551616 := by
  unfold Go.bits; exact u64_range _

theorem tbits_spec (l : List Int) (s : Int) (hs : 0 ≤ s) (hl : l.length ≤ 4611686018427387904) :
    ∃ v s', tilefarmgen_Tape_Bits.f l s = some (v, s') ∧ (0 ≤ v ∧ v < 18446744073709551616) ∧ 0 ≤ s' := by
  unfold tilefarmgen_Tape_Bits.f
  obtain ⟨r, s1, h1, h2, h3, h4⟩ := next_spec l s 2 hs hl (by decide) (by decide)
  rw [h1]
  simp only [Option.bind_some]
  obtain ⟨r2, s2, g1, g2, g3, g4⟩ := next_spec l s1 9 h4 hl (by decide) (by decide)
  rw [g1]
  simp only [Option.bind_some]
  split
  · exact ⟨_, _, rfl, u64_range _, g4⟩
  · split
    · obtain ⟨v, s3, e1, _, e2⟩ := pick_spec l s2 [1, 2, 2251799813685248, 4503599627370495] g4 hl (by simp) (by simp)
      rw [e1]
      exact ⟨_, _, rfl, bits_range _ _ _, e2⟩
    · split
      · obtain ⟨v, s3, e1, _, e2⟩ := pick_spec l s2 [0, 1, 2251799813685248] g4 hl (by simp) (by simp)
        rw [e1]
        exact ⟨_, _, rfl, bits_range _ _ _, e2⟩
      · split
        · obtain ⟨v, s3, e1, _, e2⟩ := pick_spec l s2 [1023, 1022, 1024, 1038, 1037, 960, 963] g4 hl (by simp) (by simp)
          rw [e1]
          exact ⟨_, _, rfl, bits_range _ _ _, e2⟩
        · split
          · obtain ⟨r3, s3, e1, e2, e3, e4⟩ := next_spec l s2 10 g4 hl (by decide) (by decide)
            rw [e1]
            simp only [Option.bind_some]
            obtain ⟨r4, s4, f1, f2, f3, f4⟩ := next_spec l s3 1048576 e4 hl (by decide) (by decide)
            rw [f1]
            exact ⟨_, _, rfl, bits_range _ _ _, f4⟩
          · obtain ⟨r3, s3, e1, e2, e3, e4⟩ := next_spec l s2 30 g4 hl (by decide) (by decide)
            rw [e1]
            simp only [Option.bind_some]
            obtain ⟨r4, s4, f1, f2, f3, f4⟩ := next_spec l s3 256 e4 hl (by decide) (by decide)
            rw [f1]
            exact ⟨_, _, rfl, bits_range _ _ _, f4⟩

/-- The class of the bits without the sign. -/
def CL (n : Int) : Int := if n / 4503599627370496 = 2047 then (if n % 4503599627370496 = 0 then 3 else 4) else if n / 4503599627370496 = 0 then (if n % 4503599627370496 = 0 then 0 else 1) else 2

theorem fields_eq {a : Int} (h : 0 ≤ a) (h' : a < 18446744073709551616) :
    tilefarmref6_fields.f a = some (decide (a / 9223372036854775808 = 1), a % 9223372036854775808 / 4503599627370496, a % 9223372036854775808 % 4503599627370496) := by
  unfold tilefarmref6_fields.f
  have h1 := u64_and (x := a / 4503599627370496) 11 (by decide) (by omega) (by omega)
  have h2 := u64_and (x := a) 52 (by decide) h h'
  rw [show ((2 : Int) ^ 11 - 1) = 2047 from rfl] at h1
  rw [show ((2 : Int) ^ 52 - 1) = 4503599627370495 from rfl] at h2
  rw [h1, h2]
  congr 1
  refine Prod.ext ?_ (Prod.ext ?_ ?_)
  · rfl
  · show wrap64 (a / 4503599627370496 % 2 ^ 11) = _
    rw [wrap_in (by omega) (by omega)]; show a / 4503599627370496 % 2 ^ 11 = a % 9223372036854775808 / 4503599627370496; omega
  · show wrap64 (a % 2 ^ 52) = _
    rw [wrap_in (by omega) (by omega)]; show a % 2 ^ 52 = a % 9223372036854775808 % 4503599627370496; omega

theorem split_eq {a : Int} (h : 0 ≤ a) (h' : a < 18446744073709551616) :
    ieee_split.f a = some (decide (a / 9223372036854775808 = 1), a % 9223372036854775808 / 4503599627370496, a % 9223372036854775808 % 4503599627370496) :=
  fields_eq h h'

theorem class_eq (k : Nat) {a : Int} (h : 0 ≤ a) (h' : a < 18446744073709551616) :
    ieee_Class.f (k + 1) a = some (CL (a % 9223372036854775808)) ∧ tilefarmref6_Class.f (k + 1) a = some (CL (a % 9223372036854775808)) := by
  have e0 : 0 ≤ a % 9223372036854775808 / 4503599627370496 := by omega
  have e1 : 0 ≤ a % 9223372036854775808 % 4503599627370496 := by omega
  unfold ieee_Class.f tilefarmref6_Class.f CL
  rw [split_eq h h', fields_eq h h']
  generalize a % 9223372036854775808 / 4503599627370496 = e at e0 ⊢
  generalize a % 9223372036854775808 % 4503599627370496 = f at e1 ⊢
  simp only [Option.bind_some, ieee_Class.j0, tilefarmref6_Class.j0]
  constructor
  · by_cases h1 : e = 2047 <;> by_cases h2 : f = 0 <;> by_cases h3 : e = 0 <;> simp [h1, h2, h3]
  · by_cases h1 : e = 2047
    · by_cases h2 : f = 0 <;> simp [h1, h2]
    · by_cases h3 : e = 0
      · subst h3
        by_cases h2 : f = 0
        · subst h2; simp
        · have : f > 0 := by omega
          simp [h2, this]
      · have : e > 0 := by omega
        simp [h1, h3, this]

theorem loop_eq : ∀ k sg e m, tilefarmref6_Parts.l0 k sg e m = ieee_Parts.l0 k sg e m
  | 0, _, _, _ => rfl
  | k + 1, sg, e, m => by
    simp only [tilefarmref6_Parts.l0, ieee_Parts.l0, loop_eq k]

/-- The loop that halves: an odd number comes out, and the exponent grows by as much. -/
theorem loop_spec : ∀ (d : Nat) (m e : Int), 0 < m → m < 2 ^ d → d ≤ 60 → -2000 ≤ e → e + d ≤ 2000 → ∃ m' e', (0 < m' ∧ m' ≤ m ∧ m' % 2 = 1 ∧ e ≤ e' ∧ e' ≤ e + d) ∧ ∀ k sg, d + 1 ≤ k → ieee_Parts.l0 k sg e m = some (if sg = true then -m' else m', e', true) := by
  intro d
  induction d with
  | zero => intro m e h h' _ _ _; exfalso; simp at h'; omega
  | succ d ih =>
    intro m e h h' hd he he'
    have hp : (2 : Int) ^ (d + 1) = 2 * 2 ^ d := by rw [Int.pow_succ]; omega
    have hq : (2 : Int) ^ (d + 1) ≤ 2 ^ 60 := by
      have := Nat.pow_le_pow_right (show 0 < 2 by decide) hd
      exact_mod_cast this
    have hr : (2 : Int) ^ 60 = 1152921504606846976 := rfl
    have ht : Int.tmod m 2 = m % 2 := Int.tmod_eq_emod_of_nonneg (by omega)
    have hv : Int.tdiv m 2 = m / 2 := Int.tdiv_eq_ediv_of_nonneg (by omega)
    by_cases h2 : m % 2 = 0
    · obtain ⟨m', e', ⟨q1, q2, q3, q4, q5⟩, hk⟩ := ih (m / 2) (e + 1) (by omega) (by omega) (by omega) (by omega) (by omega)
      refine ⟨m', e', ⟨q1, by omega, q3, by omega, by omega⟩, fun k sg hk' => ?_⟩
      obtain ⟨k, rfl⟩ : ∃ j, k = j + 1 := ⟨k - 1, by omega⟩
      simp only [ieee_Parts.l0]
      rw [if_pos (by rw [ht]; exact h2), hv, wrap_in (n := e + 1) (by omega) (by omega), wrap_in (n := m / 2) (by omega) (by omega)]
      exact hk k sg (by omega)
    · refine ⟨m, e, ⟨h, by omega, by omega, by omega, by omega⟩, fun k sg hk' => ?_⟩
      obtain ⟨k, rfl⟩ : ∃ j, k = j + 1 := ⟨k - 1, by omega⟩
      simp only [ieee_Parts.l0]
      rw [if_neg (by rw [ht]; exact h2), wrap_in (by omega) (by omega)]
      split <;> rfl

/-- The parts: the same in both programs, and for both signs. -/
theorem parts_spec (n : Int) (hn : 0 ≤ n) (hn' : n < 9223372036854775808) : ∃ (m e : Int) (ok : Bool),
    ((CL n ≤ 2) ↔ ok = true) ∧ (CL n = 0 ↔ ok = true ∧ m = 0) ∧ (m = 0 ∧ e = 0 ∨ ok = true ∧ 0 < m ∧ m < 9007199254740992 ∧ m % 2 = 1 ∧ -1074 ≤ e ∧ e ≤ 1100) ∧
    ∀ k a, 70 ≤ k → 0 ≤ a → a < 18446744073709551616 → a % 9223372036854775808 = n →
      ieee_Parts.f k a = some (if a / 9223372036854775808 = 1 then -m else m, e, ok) ∧ tilefarmref6_Parts.f k a = some (if a / 9223372036854775808 = 1 then -m else m, e, ok) := by
  have main : ∀ (m0 e0 : Int), 0 < m0 → m0 < 2 ^ 53 → -1074 ≤ e0 → e0 ≤ 972 → (n / 4503599627370496 ≠ 2047) → (n / 4503599627370496 = 0 → n % 4503599627370496 ≠ 0) →
      (m0 = if n / 4503599627370496 = 0 then n % 4503599627370496 else n % 4503599627370496 + 4503599627370496) → (e0 = if n / 4503599627370496 = 0 then -1074 else n / 4503599627370496 - 1075) → ∃ (m e : Int) (ok : Bool),
      ((CL n ≤ 2) ↔ ok = true) ∧ (CL n = 0 ↔ ok = true ∧ m = 0) ∧ (m = 0 ∧ e = 0 ∨ ok = true ∧ 0 < m ∧ m < 9007199254740992 ∧ m % 2 = 1 ∧ -1074 ≤ e ∧ e ≤ 1100) ∧
      ∀ k a, 70 ≤ k → 0 ≤ a → a < 18446744073709551616 → a % 9223372036854775808 = n →
        ieee_Parts.f k a = some (if a / 9223372036854775808 = 1 then -m else m, e, ok) ∧ tilefarmref6_Parts.f k a = some (if a / 9223372036854775808 = 1 then -m else m, e, ok) := by
    intro m0 e0 hm hm' he he' c1 c2 em ee
    obtain ⟨m, e, ⟨q1, q2, q3, q4, q5⟩, hk⟩ := loop_spec 53 m0 e0 hm hm' (by decide) (by omega) (by omega)
    have h53 : (2 : Int) ^ 53 = 9007199254740992 := rfl
    have hc : CL n = if n / 4503599627370496 = 0 then 1 else 2 := by
      unfold CL
      rw [if_neg c1]
      by_cases h : n / 4503599627370496 = 0
      · rw [if_pos h, if_pos h, if_neg (c2 h)]
      · rw [if_neg h, if_neg h]
    refine ⟨m, e, true, ⟨fun _ => rfl, fun _ => by rw [hc]; split <;> decide⟩, ⟨fun h => ?_, fun h => ?_⟩, .inr ⟨rfl, q1, by omega, q3, by omega, by omega⟩, fun k a hk' h h' ha => ?_⟩
    · exfalso; rw [hc] at h; split at h <;> exact absurd h (by decide)
    · exfalso; omega
    · obtain ⟨k, rfl⟩ : ∃ j, k = j + 1 + 1 := ⟨k - 2, by omega⟩
      have hkA := hk (k + 1) (decide (a / 9223372036854775808 = 1)) (by omega)
      simp only [decide_eq_true_eq] at hkA
      unfold ieee_Parts.f tilefarmref6_Parts.f
      rw [split_eq h h', fields_eq h h', (class_eq (k + 1) h h').1, (class_eq (k + 1) h h').2, ha, hc]
      simp only [Option.bind_some, ieee_Parts.j0, tilefarmref6_Parts.j0, loop_eq]
      have n1 : 0 ≤ n / 4503599627370496 := by omega
      have n2 : 0 ≤ n % 4503599627370496 := by omega
      have n3 : n % 4503599627370496 < 4503599627370496 := by omega
      have n4 : n / 4503599627370496 < 2048 := by omega
      generalize n / 4503599627370496 = x at c1 c2 em ee n1 n4 ⊢
      generalize n % 4503599627370496 = f at c2 em ee n2 n3 ⊢
      by_cases h : x = 0
      · subst h
        rw [if_pos rfl] at em ee
        subst em ee
        simp only [if_true, show ¬ ((1 : Int) = 0) by decide, show ¬ ((1 : Int) > 2) by decide, show ¬ ((0 : Int) > 0) by decide, if_false, if_neg (show ¬ m0 = 0 by omega), show wrap64 (1 - 1075) = -1074 from by decide +kernel]
        exact ⟨hkA, hkA⟩
      · rw [if_neg h] at em ee
        have w1 : wrap64 (x - 1075) = e0 := by rw [wrap_in (by omega) (by omega), ee]
        have w2 : wrap64 (f + 4503599627370496) = m0 := by rw [wrap_in (by omega) (by omega), em]
        simp only [if_neg h, show ¬ ((2 : Int) = 0) by decide, show ¬ ((2 : Int) = 1) by decide, show ¬ ((2 : Int) > 2) by decide, if_true, if_false, if_pos (show x > 0 by omega), w1, w2, if_neg (show ¬ m0 = 0 by omega)]
        exact ⟨hkA, hkA⟩
  by_cases c1 : n / 4503599627370496 = 2047
  · refine ⟨0, 0, false, ⟨fun h => ?_, fun h => by cases h⟩, ⟨fun h => ?_, fun h => by cases h.1⟩, .inl ⟨rfl, rfl⟩, fun k a hk' h h' ha => ?_⟩
    · unfold CL at h; rw [if_pos c1] at h; split at h <;> exact absurd h (by decide)
    · unfold CL at h; rw [if_pos c1] at h; split at h <;> exact absurd h (by decide)
    · obtain ⟨k, rfl⟩ : ∃ j, k = j + 1 + 1 := ⟨k - 2, by omega⟩
      unfold ieee_Parts.f tilefarmref6_Parts.f
      rw [split_eq h h', (class_eq (k + 1) h h').1, (class_eq (k + 1) h h').2, ha]
      have hc : CL n = 3 ∨ CL n = 4 := by unfold CL; rw [if_pos c1]; split <;> simp
      rcases hc with hc | hc <;> rw [hc] <;> simp
  · by_cases c2 : n / 4503599627370496 = 0
    · by_cases c3 : n % 4503599627370496 = 0
      · have hc : CL n = 0 := by unfold CL; rw [if_neg c1, if_pos c2, if_pos c3]
        refine ⟨0, 0, true, ⟨fun _ => rfl, fun _ => by rw [hc]; decide⟩, ⟨fun _ => ⟨rfl, rfl⟩, fun _ => hc⟩, .inl ⟨rfl, rfl⟩, fun k a hk' h h' ha => ?_⟩
        obtain ⟨k, rfl⟩ : ∃ j, k = j + 1 + 1 := ⟨k - 2, by omega⟩
        unfold ieee_Parts.f tilefarmref6_Parts.f
        rw [split_eq h h', fields_eq h h', (class_eq (k + 1) h h').1, (class_eq (k + 1) h h').2, ha, hc, c2, c3]
        simp [tilefarmref6_Parts.j0]
      · exact main (n % 4503599627370496) (-1074) (by omega) (by omega) (by omega) (by omega) c1 (fun _ => c3) (by rw [if_pos c2]) (by rw [if_pos c2])
    · exact main (n % 4503599627370496 + 4503599627370496) (n / 4503599627370496 - 1075) (by omega) (by omega) (by omega) (by omega) c1 (fun h => absurd h c2) (by rw [if_neg c2]) (by rw [if_neg c2])

theorem sane_eq : tilefarmlaw6_sane.f 100 = some true := by decide +kernel

theorem order_eq (a : Int) : ieee_order.f a = tilefarmref6_key.f a := by
  unfold ieee_order.f tilefarmref6_key.f
  rw [u64_andNot]

theorem order_some (a : Int) : ∃ v, tilefarmref6_key.f a = some v := by
  unfold tilefarmref6_key.f; split <;> exact ⟨_, rfl⟩

theorem cmp_eq (k : Nat) {a b : Int} (h : 0 ≤ a) (h' : a < 18446744073709551616) (g : 0 ≤ b) (g' : b < 18446744073709551616) :
    ∃ v, ieee_Compare.f (k + 1) a b = some v ∧ tilefarmref6_Compare.f (k + 1) a b = some v := by
  unfold ieee_Compare.f tilefarmref6_Compare.f
  rw [(class_eq k h h').1, (class_eq k h h').2, (class_eq k g g').1, (class_eq k g g').2]
  simp only [Option.bind_some]
  obtain ⟨u, hu⟩ := order_some a
  obtain ⟨v, hv⟩ := order_some b
  have key : ∀ t, ∃ v, ieee_Compare.j0 (k + 1) a b t = some v ∧ tilefarmref6_Compare.j0 (k + 1) a b t = some v := by
    intro t
    simp only [ieee_Compare.j0, tilefarmref6_Compare.j0, order_eq, hu, hv, Option.bind_some]
    split
    · exact ⟨_, rfl, rfl⟩
    · split
      · exact ⟨_, rfl, rfl⟩
      · split <;> exact ⟨_, rfl, rfl⟩
  split <;> exact key _

theorem u64_wf {n : Int} (h : (Lit.int .u64 n).wf = true) : 0 ≤ n ∧ n < 18446744073709551616 := by
  simp only [Lit.wf, IntKind.min, IntKind.max, IntKind.signed, IntKind.bits, Bool.and_eq_true, decide_eq_true_eq, Bool.false_eq_true, if_false] at h
  omega

theorem l1_spec (l : List Int) (hl : l.length ≤ 100) (hx : ∀ x ∈ l, 0 ≤ x ∧ x < 18446744073709551616) (i : Nat) (hi : i < l.length) (K : Nat) (R : Option Bool)
    (hR : ∀ k, K ≤ k → tilefarmlaw6_IeeeReads.l0 k l (wrap64 ((i : Int) + 1)) = R) (d : Nat) :
    ∀ (k j : Nat), j + d = l.length → K + d + 2 ≤ k → tilefarmlaw6_IeeeReads.l1 k l (i : Int) (j : Int) = R := by
  have hi' := hx _ (rd_mem l i hi)
  induction d with
  | zero =>
    intro k j hj hk
    obtain ⟨k, rfl⟩ : ∃ m, k = m + 1 := ⟨k - 1, by omega⟩
    simp only [tilefarmlaw6_IeeeReads.l1]
    rw [if_neg (by omega)]
    exact hR _ (by omega)
  | succ d ih =>
    intro k j hj hk
    obtain ⟨k, rfl⟩ : ∃ m, k = (m + 1) + 1 := ⟨k - 2, by omega⟩
    have e1 : wrap64 ((j : Int) + 1) = ((j + 1 : Nat) : Int) := by rw [wrap_in (by omega) (by omega)]; omega
    have hj' := hx _ (rd_mem l j (by omega))
    obtain ⟨v, h1, h2⟩ := cmp_eq k hi'.1 hi'.2 hj'.1 hj'.2
    simp only [tilefarmlaw6_IeeeReads.l1]
    rw [if_pos (by omega), if_pos (by omega), if_pos (by omega), if_pos (by omega), h1, h2, e1]
    simp only [Option.bind_some, if_true, bne_self_eq_false, Bool.false_eq_true, if_false]
    exact ih (k + 1) (j + 1) (by omega) (by omega)

theorem l0_spec (l : List Int) (hl : l.length ≤ 100) (hx : ∀ x ∈ l, 0 ≤ x ∧ x < 18446744073709551616) (d : Nat) :
    ∀ (k i : Nat), i + d = l.length → 200 + 200 * d ≤ k → tilefarmlaw6_IeeeReads.l0 k l (i : Int) = some true := by
  induction d with
  | zero =>
    intro k i hi hk
    obtain ⟨k, rfl⟩ : ∃ m, k = (m + 100) + 1 := ⟨k - 101, by omega⟩
    have hs : tilefarmlaw6_sane.f (k + 100) = some true := at_rounds tilefarmlaw6_sane.mono (by omega) sane_eq
    simp only [tilefarmlaw6_IeeeReads.l0]
    rw [if_neg (by omega), hs]
    rfl
  | succ d ih =>
    intro k i hi hk
    obtain ⟨k, rfl⟩ : ∃ m, k = (m + 1) + 1 := ⟨k - 2, by omega⟩
    have e1 : wrap64 ((i : Int) + 1) = ((i + 1 : Nat) : Int) := by rw [wrap_in (by omega) (by omega)]; omega
    have hi' := hx _ (rd_mem l i (by omega))
    obtain ⟨m, e, ok, _, _, _, hp⟩ := parts_spec (rd l (i : Int) % 9223372036854775808) (by omega) (by omega)
    obtain ⟨p1, p2⟩ := hp (k + 1) _ (by omega) hi'.1 hi'.2 rfl
    obtain ⟨q1, q2⟩ := class_eq k hi'.1 hi'.2
    simp only [tilefarmlaw6_IeeeReads.l0]
    rw [if_pos (by omega), if_pos (by omega), p1, p2, q1, q2]
    simp only [Option.bind_some, if_true, bne_self_eq_false, Bool.false_eq_true, if_false, tilefarmlaw6_IeeeReads.j1]
    refine l1_spec l hl hx i (by omega) (200 + 200 * d) (some true) (fun k hk => ?_) l.length k 0 (by omega) (by omega)
    rw [e1]
    exact ih k (i + 1) (by omega) hk

theorem IeeeReads : tilefarmlaw6_IeeeReads.Pure := by
  intro l a b hm hm2 hx ha hb
  have hl : l.length ≤ 4611686018427387904 := by omega
  obtain ⟨K, hK⟩ : ∃ K : Nat, 5000 ≤ K := ⟨5000, Nat.le_refl _⟩
  refine ⟨K, ?_⟩
  unfold tilefarmlaw6_IeeeReads.f tilefarmgen_New.f
  simp only [Option.bind_some]
  obtain ⟨v1, s1, e1, r1, t1⟩ := tbits_spec l 0 (by decide) hl
  rw [e1]
  simp only [Option.bind_some]
  obtain ⟨v2, s2, e2, r2, t2⟩ := tbits_spec l s1 t1 hl
  rw [e2]
  simp only [Option.bind_some]
  obtain ⟨v3, s3, e3, r3, t3⟩ := tbits_spec l s2 t2 hl
  rw [e3]
  simp only [Option.bind_some]
  refine l0_spec _ (by simp) ?_ 7 K 0 (by simp) (by omega)
  intro x hx
  simp only [List.mem_cons, List.not_mem_nil, or_false] at hx
  rcases hx with rfl | rfl | rfl | rfl | rfl | rfl | rfl
  · exact u64_wf ha
  · exact u64_wf hb
  · exact r1
  · exact r2
  · exact r3
  · exact bits_range _ _ _
  · exact bits_range _ _ _


end Go.Proofs.Ytoamkepelnphaaa.Pure
namespace Go.Proofs.Ytoamkepelnphaaa
open Go.ChangeShapes Go.WideShapes
/-- The print's own word, under the name that the printed row uses. -/
theorem PrintWords.sized_ints {H : Type} {enc : TypeId × Value → H} {P : Program} {W : World} {base : Nat} {spare : Nat → Bool} {held : Bool} {t e : TypeId} {k : IntKind} {a : Option Addr} {len cap : Nat} {d : DataW H} {ps : List MemPlace} {ts : List TypeId} {ds : List (DataW H)} {j : Nat}
    (hsz : (DataW.weightsEach P ts ds).all (· ≤ reachBytes) = true) (ht : ts[j]? = some t) (hd : ds[j]? = some d) (hu : P.underlying t = some (.slice e)) (he : P.underlying e = some (.int k)) (hc : P.cellsOf e = 1) {B : Nat} (hB : P.bytesOf e = B)
    (h : DataW.Trod enc P W base spare held t (.slice a len cap) d ps) : len * B ≤ 140737488351232 :=
  Go.Proofs.YtoamkepelnphaaaW.PrintWords.sized_ints hsz ht hd hu he hc hB h
end Go.Proofs.Ytoamkepelnphaaa

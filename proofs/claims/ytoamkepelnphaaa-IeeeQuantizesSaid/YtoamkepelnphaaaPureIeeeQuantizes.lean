/- Quantized weights are those of the reference: for every tape, every list and every shift. -/
import Derived.Test.YtoamkepelnphaaaPIeeeQuantizesx7
import Derived.Test.YtoamkepelnphaaaWSized
namespace Go.Proofs.Ytoamkepelnphaaa.Pure
open Go.RowKit Go.Proofs.Ytoamkepelnphaaa.PIeeeQuantizes Go.Proofs.YtoamkepelnphaaaW.PrintWords Go.Proofs.YtoamkepelnphaaaW.PrintLast Go.Proofs.YtoamkepelnphaaaW.PrintMore
set_option linter.unusedVariables false
set_option linter.unusedSimpArgs false

theorem wrap_in {n : Int} (h : -9223372036854775808 ≤ n) (h' : n ≤ 9223372036854775807) : wrap64 n = n := by unfold wrap64; omega

theorem tmod_emod (a n : Int) (h : 0 < n) : (0 ≤ Int.tmod a n ∧ Int.tmod a n = a % n) ∨ (Int.tmod a n < 0 ∧ Int.tmod a n + n = a % n) := by
  have h1 := Int.tmod_eq_emod (a := a) (b := n)
  have h2 := Int.emod_nonneg a (by omega : n ≠ 0)
  have h3 := Int.emod_lt_of_pos a h
  split at h1 <;> omega

theorem mod_eq (a n : Int) (h : 0 < n) (hn : n ≤ 4611686018427387904) : tilefarmgen_Mod.f a n = some (a % n) := by
  have h2 := Int.emod_nonneg a (by omega : n ≠ 0)
  have h3 := Int.emod_lt_of_pos a h
  unfold tilefarmgen_Mod.f
  rw [if_neg (by omega)]
  rcases tmod_emod a n h with ⟨h4, h5⟩ | ⟨h4, h5⟩
  · rw [if_neg (by omega), h5]
  · rw [if_pos h4, wrap_in (by omega) (by omega), h5]

theorem sd_true {p : Prop} [Decidable p] (h : p) : some true = some (decide p) := by rw [decide_eq_true h]
theorem sd_false {p : Prop} [Decidable p] (h : ¬ p) : some false = some (decide p) := by rw [decide_eq_false h]
theorem sd_iff {p q : Prop} [Decidable p] [Decidable q] (h : q ↔ p) : some (decide q) = some (decide p) := by rw [decide_eq_decide.2 h]

theorem mx_max (a b : Int) : mx a b = max a b := by unfold mx; omega
theorem mn_min (a b : Int) : mn a b = min a b := by unfold mn; omega

theorem mul_bd {x y B C : Int} (hx : 0 ≤ x) (hy : 0 ≤ y) (hxB : x ≤ B) (hyB : y ≤ C) : 0 ≤ x * y ∧ x * y ≤ B * C :=
  ⟨Int.mul_nonneg hx hy, Int.mul_le_mul hxB hyB hy (by omega)⟩

theorem dec_iff {p q : Prop} [Decidable p] [Decidable q] (h : p ↔ q) : decide p = decide q := decide_eq_decide.2 h
theorem and_not_dec (p q : Prop) [Decidable p] [Decidable q] : (decide p && !decide q) = decide (p ∧ ¬ q) := by
  by_cases hp : p <;> by_cases hq : q <;> simp [hp, hq]

theorem wrap64_range (n : Int) : -9223372036854775808 ≤ wrap64 n ∧ wrap64 n ≤ 9223372036854775807 := by unfold wrap64; omega

theorem wf_range {n : Int} (h : (Lit.int .i64 n).wf = true) : -9223372036854775808 ≤ n ∧ n ≤ 9223372036854775807 := by
  simp only [Lit.wf, IntKind.min, IntKind.max, IntKind.signed, IntKind.bits, Bool.and_eq_true, decide_eq_true_eq, if_true] at h
  omega


theorem next_spec (l : List Int) (s n : Int) (hs : 0 ≤ s) (hl : l.length ≤ 4611686018427387904) (h : 0 < n) (hn : n ≤ 4611686018427387904) :
    ∃ r s', tilefarmgen_Tape_Next.f l s n = some (r, s') ∧ 0 ≤ r ∧ r < n ∧ 0 ≤ s' := by
  unfold tilefarmgen_Tape_Next.f
  rw [if_neg (by omega)]
  by_cases h1 : s ≥ (l.length : Int)
  · rw [if_pos h1]; exact ⟨_, _, rfl, by omega, by omega, hs⟩
  · have e1 : wrap64 (s + 1) = s + 1 := wrap_in (by omega) (by omega)
    have e2 : wrap64 (s + 1 - 1) = s := by rw [wrap_in (by omega) (by omega)]; omega
    rw [if_neg h1]
    simp only [e1, e2]
    rw [if_pos hs, if_pos (by omega), mod_eq _ _ h hn]
    exact ⟨_, _, rfl, Int.emod_nonneg _ (by omega), Int.emod_lt_of_pos _ h, by omega⟩


theorem u64_wrap {n : Int} (h : 0 ≤ n) (h' : n < 18446744073709551616) : IntKind.u64.wrap n = n := by
  simp only [IntKind.wrap, IntKind.bits, IntKind.signed, Bool.false_and, Bool.false_eq_true, if_false]
  omega
theorem u64_and {x : Int} (i : Nat) (hi : i ≤ 64) (h : 0 ≤ x) (h' : x < 18446744073709551616) : Go.bits .and .u64 x (2 ^ i - 1) = x % 2 ^ i :=
  Go.bits_mask .u64 64 (by decide) (fun n h h' => u64_wrap h h') i hi x h h'
theorem u64_andNot (x : Int) : Go.bits .andNot .u64 x 9223372036854775808 = Go.bits .and .u64 x 9223372036854775807 := by
  have e : ~~~(BitVec.ofInt 64 9223372036854775808) = BitVec.ofInt 64 9223372036854775807 := by decide +kernel
  unfold Go.bits
  show IntKind.u64.wrap (((BitVec.ofInt 64 x) &&& ~~~(BitVec.ofInt 64 9223372036854775808)).toNat : Int) = IntKind.u64.wrap (((BitVec.ofInt 64 x) &&& (BitVec.ofInt 64 9223372036854775807)).toNat : Int)
  rw [e]
theorem u64_flip {x : Int} (h : 0 ≤ x) (h' : x < 18446744073709551616) :
    ∃ y, Go.bits .xor .u64 x 9223372036854775808 = y ∧ 0 ≤ y ∧ y < 18446744073709551616 ∧ y % 9223372036854775808 = x % 9223372036854775808 ∧ y / 9223372036854775808 = 1 - x / 9223372036854775808 := by
  obtain ⟨a, rfl⟩ := Int.eq_ofNat_of_zero_le h
  have ha : a < 2 ^ 64 := by omega
  have h1 : (a ^^^ 9223372036854775808) % 2 ^ 63 = a % 2 ^ 63 := by rw [Nat.xor_mod_two_pow]; simp
  have h2 : (a ^^^ 9223372036854775808) / 2 ^ 63 = a / 2 ^ 63 ^^^ 1 := by rw [Nat.xor_div_two_pow]
  have h3 : a ^^^ 9223372036854775808 < 2 ^ 64 := Nat.xor_lt_two_pow ha (by decide)
  have h4 : a / 2 ^ 63 ^^^ 1 = 1 - a / 2 ^ 63 := by
    rcases (by omega : a / 2 ^ 63 = 0 ∨ a / 2 ^ 63 = 1) with e | e <;> rw [e] <;> rfl
  rw [h4] at h2
  refine ⟨((a ^^^ 9223372036854775808 : Nat) : Int), ?_, by omega, by omega, by omega, by omega⟩
  unfold Go.bits
  show IntKind.u64.wrap (((BitVec.ofInt 64 (a : Int)) ^^^ (BitVec.ofInt 64 9223372036854775808)).toNat : Int) = _
  rw [show (9223372036854775808 : Int) = ((9223372036854775808 : Nat) : Int) from rfl, BitVec.ofInt_natCast, BitVec.ofInt_natCast, BitVec.toNat_xor, BitVec.toNat_ofNat, BitVec.toNat_ofNat, Nat.mod_eq_of_lt ha, Nat.mod_eq_of_lt (by decide : 9223372036854775808 < 2 ^ 64)]
  exact u64_wrap (by omega) (by omega)

theorem rd_mem (l : List Int) (i : Nat) (h : i < l.length) : rd l (i : Int) ∈ l := by
  simp [rd, h]

theorem pick_spec (l : List Int) (s : Int) (xs : List Int) (hs : 0 ≤ s) (hl : l.length ≤ 4611686018427387904) (h : 0 < xs.length) (hx : xs.length ≤ 100) :
    ∃ v s', tilefarmgen_Tape_Pick.f l s xs = some (v, s') ∧ v ∈ xs ∧ 0 ≤ s' := by
  obtain ⟨r, s', h1, h2, h3, h4⟩ := next_spec l s (xs.length : Int) hs hl (by omega) (by omega)
  refine ⟨rd xs r, s', ?_, ?_, h4⟩
  · unfold tilefarmgen_Tape_Pick.f
    rw [h1]
    simp only [Option.bind_some]
    rw [if_pos h2, if_pos h3]
  · obtain ⟨n, rfl⟩ := Int.eq_ofNat_of_zero_le h2
    exact rd_mem xs n (by omega)

theorem u64_range (n : Int) : 0 ≤ IntKind.u64.wrap n ∧ IntKind.u64.wrap n < 18446744073709551616 := by
  simp only [IntKind.wrap, IntKind.bits, IntKind.signed, Bool.false_and, Bool.false_eq_true, if_false]
  omega

theorem bits_range (op : BinOp) (x y : Int) : 0 ≤ Go.bits op .u64 x y ∧ Go.bits op .u64 x y < 18446744073709551616 := by
  unfold Go.bits; exact u64_range _

theorem tbits_spec (l : List Int) (s : Int) (hs : 0 ≤ s) (hl : l.length ≤ 4611686018427387904) :
    ∃ v s', tilefarmgen_Tape_Bits.f l s = some (v, s') ∧ (0 ≤ v ∧ v < 18446744073709551616) ∧ 0 ≤ s' := by
  unfold tilefarmgen_Tape_Bits.f
  obtain ⟨r, s1, h1, h2, h3, h4⟩ := next_spec l s 2 hs hl (by decide) (by decide)
  rw [h1]
  simp only [Option.bind_some]
  obtain ⟨r2, s2, g1, g2, g3, g4⟩ := next_spec l s1 9 h4 hl (by decide) (by decide)
  rw [g1]
  simp only [Option.bind_some]
  split
  · exact ⟨_, _, rfl, u64_range _, g4⟩
  · split
    · obtain ⟨v, s3, e1, _, e2⟩ := pick_spec l s2 [1, 2, 2251799813685248, 4503599627370495] g4 hl (by simp) (by simp)
      rw [e1]
      exact ⟨_, _, rfl, bits_range _ _ _, e2⟩
    · split
      · obtain ⟨v, s3, e1, _, e2⟩ := pick_spec l s2 [0, 1, 2251799813685248] g4 hl (by simp) (by simp)
        rw [e1]
        exact ⟨_, _, rfl, bits_range _ _ _, e2⟩
      · split
        · obtain ⟨v, s3, e1, _, e2⟩ := pick_spec l s2 [1023, 1022, 1024, 1038, 1037, 960, 963] g4 hl (by simp) (by simp)
          rw [e1]
          exact ⟨_, _, rfl, bits_range _ _ _, e2⟩
        · split
          · obtain ⟨r3, s3, e1, e2, e3, e4⟩ := next_spec l s2 10 g4 hl (by decide) (by decide)
            rw [e1]
            simp only [Option.bind_some]
            obtain ⟨r4, s4, f1, f2, f3, f4⟩ := next_spec l s3 1048576 e4 hl (by decide) (by decide)
            rw [f1]
            exact ⟨_, _, rfl, bits_range _ _ _, f4⟩
          · obtain ⟨r3, s3, e1, e2, e3, e4⟩ := next_spec l s2 30 g4 hl (by decide) (by decide)
            rw [e1]
            simp only [Option.bind_some]
            obtain ⟨r4, s4, f1, f2, f3, f4⟩ := next_spec l s3 256 e4 hl (by decide) (by decide)
            rw [f1]
            exact ⟨_, _, rfl, bits_range _ _ _, f4⟩

/-- The class of the bits without the sign. -/
def CL (n : Int) : Int := if n / 4503599627370496 = 2047 then (if n % 4503599627370496 = 0 then 3 else 4) else if n / 4503599627370496 = 0 then (if n % 4503599627370496 = 0 then 0 else 1) else 2

theorem fields_eq {a : Int} (h : 0 ≤ a) (h' : a < 18446744073709551616) :
    tilefarmref6_fields.f a = some (decide (a / 9223372036854775808 = 1), a % 9223372036854775808 / 4503599627370496, a % 9223372036854775808 % 4503599627370496) := by
  unfold tilefarmref6_fields.f
  have h1 := u64_and (x := a / 4503599627370496) 11 (by decide) (by omega) (by omega)
  have h2 := u64_and (x := a) 52 (by decide) h h'
  rw [show ((2 : Int) ^ 11 - 1) = 2047 from rfl] at h1
  rw [show ((2 : Int) ^ 52 - 1) = 4503599627370495 from rfl] at h2
  rw [h1, h2]
  congr 1
  refine Prod.ext ?_ (Prod.ext ?_ ?_)
  · rfl
  · show wrap64 (a / 4503599627370496 % 2 ^ 11) = _
    rw [wrap_in (by omega) (by omega)]; show a / 4503599627370496 % 2 ^ 11 = a % 9223372036854775808 / 4503599627370496; omega
  · show wrap64 (a % 2 ^ 52) = _
    rw [wrap_in (by omega) (by omega)]; show a % 2 ^ 52 = a % 9223372036854775808 % 4503599627370496; omega

theorem split_eq {a : Int} (h : 0 ≤ a) (h' : a < 18446744073709551616) :
    ieee_split.f a = some (decide (a / 9223372036854775808 = 1), a % 9223372036854775808 / 4503599627370496, a % 9223372036854775808 % 4503599627370496) :=
  fields_eq h h'

theorem class_eq (k : Nat) {a : Int} (h : 0 ≤ a) (h' : a < 18446744073709551616) :
    ieee_Class.f (k + 1) a = some (CL (a % 9223372036854775808)) ∧ tilefarmref6_Class.f (k + 1) a = some (CL (a % 9223372036854775808)) := by
  have e0 : 0 ≤ a % 9223372036854775808 / 4503599627370496 := by omega
  have e1 : 0 ≤ a % 9223372036854775808 % 4503599627370496 := by omega
  unfold ieee_Class.f tilefarmref6_Class.f CL
  rw [split_eq h h', fields_eq h h']
  generalize a % 9223372036854775808 / 4503599627370496 = e at e0 ⊢
  generalize a % 9223372036854775808 % 4503599627370496 = f at e1 ⊢
  simp only [Option.bind_some, ieee_Class.j0, tilefarmref6_Class.j0]
  constructor
  · by_cases h1 : e = 2047 <;> by_cases h2 : f = 0 <;> by_cases h3 : e = 0 <;> simp [h1, h2, h3]
  · by_cases h1 : e = 2047
    · by_cases h2 : f = 0 <;> simp [h1, h2]
    · by_cases h3 : e = 0
      · subst h3
        by_cases h2 : f = 0
        · subst h2; simp
        · have : f > 0 := by omega
          simp [h2, this]
      · have : e > 0 := by omega
        simp [h1, h3, this]

theorem loop_eq : ∀ k sg e m, tilefarmref6_Parts.l0 k sg e m = ieee_Parts.l0 k sg e m
  | 0, _, _, _ => rfl
  | k + 1, sg, e, m => by
    simp only [tilefarmref6_Parts.l0, ieee_Parts.l0, loop_eq k]

/-- The loop that halves: an odd number comes out, and the exponent grows by as much. -/
theorem loop_spec : ∀ (d : Nat) (m e : Int), 0 < m → m < 2 ^ d → d ≤ 60 → -2000 ≤ e → e + d ≤ 2000 → ∃ m' e', (0 < m' ∧ m' ≤ m ∧ m' % 2 = 1 ∧ e ≤ e' ∧ e' ≤ e + d) ∧ ∀ k sg, d + 1 ≤ k → ieee_Parts.l0 k sg e m = some (if sg = true then -m' else m', e', true) := by
  intro d
  induction d with
  | zero => intro m e h h' _ _ _; exfalso; simp at h'; omega
  | succ d ih =>
    intro m e h h' hd he he'
    have hp : (2 : Int) ^ (d + 1) = 2 * 2 ^ d := by rw [Int.pow_succ]; omega
    have hq : (2 : Int) ^ (d + 1) ≤ 2 ^ 60 := by
      have := Nat.pow_le_pow_right (show 0 < 2 by decide) hd
      exact_mod_cast this
    have hr : (2 : Int) ^ 60 = 1152921504606846976 := rfl
    have ht : Int.tmod m 2 = m % 2 := Int.tmod_eq_emod_of_nonneg (by omega)
    have hv : Int.tdiv m 2 = m / 2 := Int.tdiv_eq_ediv_of_nonneg (by omega)
    by_cases h2 : m % 2 = 0
    · obtain ⟨m', e', ⟨q1, q2, q3, q4, q5⟩, hk⟩ := ih (m / 2) (e + 1) (by omega) (by omega) (by omega) (by omega) (by omega)
      refine ⟨m', e', ⟨q1, by omega, q3, by omega, by omega⟩, fun k sg hk' => ?_⟩
      obtain ⟨k, rfl⟩ : ∃ j, k = j + 1 := ⟨k - 1, by omega⟩
      simp only [ieee_Parts.l0]
      rw [if_pos (by rw [ht]; exact h2), hv, wrap_in (n := e + 1) (by omega) (by omega), wrap_in (n := m / 2) (by omega) (by omega)]
      exact hk k sg (by omega)
    · refine ⟨m, e, ⟨h, by omega, by omega, by omega, by omega⟩, fun k sg hk' => ?_⟩
      obtain ⟨k, rfl⟩ : ∃ j, k = j + 1 := ⟨k - 1, by omega⟩
      simp only [ieee_Parts.l0]
      rw [if_neg (by rw [ht]; exact h2), wrap_in (by omega) (by omega)]
      split <;> rfl

/-- The parts: the same in both programs, and for both signs. -/
theorem parts_spec (n : Int) (hn : 0 ≤ n) (hn' : n < 9223372036854775808) : ∃ (m e : Int) (ok : Bool),
    ((CL n ≤ 2) ↔ ok = true) ∧ (CL n = 0 ↔ ok = true ∧ m = 0) ∧ (m = 0 ∧ e = 0 ∨ ok = true ∧ 0 < m ∧ m < 9007199254740992 ∧ m % 2 = 1 ∧ -1074 ≤ e ∧ e ≤ 1100) ∧
    ∀ k a, 70 ≤ k → 0 ≤ a → a < 18446744073709551616 → a % 9223372036854775808 = n →
      ieee_Parts.f k a = some (if a / 9223372036854775808 = 1 then -m else m, e, ok) ∧ tilefarmref6_Parts.f k a = some (if a / 9223372036854775808 = 1 then -m else m, e, ok) := by
  have main : ∀ (m0 e0 : Int), 0 < m0 → m0 < 2 ^ 53 → -1074 ≤ e0 → e0 ≤ 972 → (n / 4503599627370496 ≠ 2047) → (n / 4503599627370496 = 0 → n % 4503599627370496 ≠ 0) →
      (m0 = if n / 4503599627370496 = 0 then n % 4503599627370496 else n % 4503599627370496 + 4503599627370496) → (e0 = if n / 4503599627370496 = 0 then -1074 else n / 4503599627370496 - 1075) → ∃ (m e : Int) (ok : Bool),
      ((CL n ≤ 2) ↔ ok = true) ∧ (CL n = 0 ↔ ok = true ∧ m = 0) ∧ (m = 0 ∧ e = 0 ∨ ok = true ∧ 0 < m ∧ m < 9007199254740992 ∧ m % 2 = 1 ∧ -1074 ≤ e ∧ e ≤ 1100) ∧
      ∀ k a, 70 ≤ k → 0 ≤ a → a < 18446744073709551616 → a % 9223372036854775808 = n →
        ieee_Parts.f k a = some (if a / 9223372036854775808 = 1 then -m else m, e, ok) ∧ tilefarmref6_Parts.f k a = some (if a / 9223372036854775808 = 1 then -m else m, e, ok) := by
    intro m0 e0 hm hm' he he' c1 c2 em ee
    obtain ⟨m, e, ⟨q1, q2, q3, q4, q5⟩, hk⟩ := loop_spec 53 m0 e0 hm hm' (by decide) (by omega) (by omega)
    have h53 : (2 : Int) ^ 53 = 9007199254740992 := rfl
    have hc : CL n = if n / 4503599627370496 = 0 then 1 else 2 := by
      unfold CL
      rw [if_neg c1]
      by_cases h : n / 4503599627370496 = 0
      · rw [if_pos h, if_pos h, if_neg (c2 h)]
      · rw [if_neg h, if_neg h]
    refine ⟨m, e, true, ⟨fun _ => rfl, fun _ => by rw [hc]; split <;> decide⟩, ⟨fun h => ?_, fun h => ?_⟩, .inr ⟨rfl, q1, by omega, q3, by omega, by omega⟩, fun k a hk' h h' ha => ?_⟩
    · exfalso; rw [hc] at h; split at h <;> exact absurd h (by decide)
    · exfalso; omega
    · obtain ⟨k, rfl⟩ : ∃ j, k = j + 1 + 1 := ⟨k - 2, by omega⟩
      have hkA := hk (k + 1) (decide (a / 9223372036854775808 = 1)) (by omega)
      simp only [decide_eq_true_eq] at hkA
      unfold ieee_Parts.f tilefarmref6_Parts.f
      rw [split_eq h h', fields_eq h h', (class_eq (k + 1) h h').1, (class_eq (k + 1) h h').2, ha, hc]
      simp only [Option.bind_some, ieee_Parts.j0, tilefarmref6_Parts.j0, loop_eq]
      have n1 : 0 ≤ n / 4503599627370496 := by omega
      have n2 : 0 ≤ n % 4503599627370496 := by omega
      have n3 : n % 4503599627370496 < 4503599627370496 := by omega
      have n4 : n / 4503599627370496 < 2048 := by omega
      generalize n / 4503599627370496 = x at c1 c2 em ee n1 n4 ⊢
      generalize n % 4503599627370496 = f at c2 em ee n2 n3 ⊢
      by_cases h : x = 0
      · subst h
        rw [if_pos rfl] at em ee
        subst em ee
        simp only [if_true, show ¬ ((1 : Int) = 0) by decide, show ¬ ((1 : Int) > 2) by decide, show ¬ ((0 : Int) > 0) by decide, if_false, if_neg (show ¬ m0 = 0 by omega), show wrap64 (1 - 1075) = -1074 from by decide +kernel]
        exact ⟨hkA, hkA⟩
      · rw [if_neg h] at em ee
        have w1 : wrap64 (x - 1075) = e0 := by rw [wrap_in (by omega) (by omega), ee]
        have w2 : wrap64 (f + 4503599627370496) = m0 := by rw [wrap_in (by omega) (by omega), em]
        simp only [if_neg h, show ¬ ((2 : Int) = 0) by decide, show ¬ ((2 : Int) = 1) by decide, show ¬ ((2 : Int) > 2) by decide, if_true, if_false, if_pos (show x > 0 by omega), w1, w2, if_neg (show ¬ m0 = 0 by omega)]
        exact ⟨hkA, hkA⟩
  by_cases c1 : n / 4503599627370496 = 2047
  · refine ⟨0, 0, false, ⟨fun h => ?_, fun h => by cases h⟩, ⟨fun h => ?_, fun h => by cases h.1⟩, .inl ⟨rfl, rfl⟩, fun k a hk' h h' ha => ?_⟩
    · unfold CL at h; rw [if_pos c1] at h; split at h <;> exact absurd h (by decide)
    · unfold CL at h; rw [if_pos c1] at h; split at h <;> exact absurd h (by decide)
    · obtain ⟨k, rfl⟩ : ∃ j, k = j + 1 + 1 := ⟨k - 2, by omega⟩
      unfold ieee_Parts.f tilefarmref6_Parts.f
      rw [split_eq h h', (class_eq (k + 1) h h').1, (class_eq (k + 1) h h').2, ha]
      have hc : CL n = 3 ∨ CL n = 4 := by unfold CL; rw [if_pos c1]; split <;> simp
      rcases hc with hc | hc <;> rw [hc] <;> simp
  · by_cases c2 : n / 4503599627370496 = 0
    · by_cases c3 : n % 4503599627370496 = 0
      · have hc : CL n = 0 := by unfold CL; rw [if_neg c1, if_pos c2, if_pos c3]
        refine ⟨0, 0, true, ⟨fun _ => rfl, fun _ => by rw [hc]; decide⟩, ⟨fun _ => ⟨rfl, rfl⟩, fun _ => hc⟩, .inl ⟨rfl, rfl⟩, fun k a hk' h h' ha => ?_⟩
        obtain ⟨k, rfl⟩ : ∃ j, k = j + 1 + 1 := ⟨k - 2, by omega⟩
        unfold ieee_Parts.f tilefarmref6_Parts.f
        rw [split_eq h h', fields_eq h h', (class_eq (k + 1) h h').1, (class_eq (k + 1) h h').2, ha, hc, c2, c3]
        simp [tilefarmref6_Parts.j0]
      · exact main (n % 4503599627370496) (-1074) (by omega) (by omega) (by omega) (by omega) c1 (fun _ => c3) (by rw [if_pos c2]) (by rw [if_pos c2])
    · exact main (n % 4503599627370496 + 4503599627370496) (n / 4503599627370496 - 1075) (by omega) (by omega) (by omega) (by omega) c1 (fun h => absurd h c2) (by rw [if_neg c2]) (by rw [if_neg c2])

def FIN (v : Int) : Int × Int := if v > 32767 then (0, 3) else (v, 0)

theorem fin2 (k : Nat) (p : Prop) [Decidable p] (M v : Int) (hM : M < 0 ↔ p) (hv : 0 ≤ v) :
    ieee_Scale.j2 (k + 1) M v = some (if p then -(FIN v).1 else (FIN v).1, (FIN v).2) := by
  simp only [ieee_Scale.j2, FIN]
  by_cases h : v > 32767
  · simp [h]
  · simp only [if_neg h]
    by_cases hp : p
    · rw [if_pos (hM.2 hp), if_pos hp, wrap_in (by omega) (by omega)]
    · rw [if_neg (fun x => hp (hM.1 x)), if_neg hp]

theorem i64_and {x : Int} (i : Nat) (hi : i ≤ 63) (h : 0 ≤ x) (h' : x < 9223372036854775808) : Go.bits .and .i64 x (2 ^ i - 1) = x % 2 ^ i :=
  Go.bits_mask .i64 63 (by decide) (fun n h h' => by rw [Go.IntKind.wrap_i64]; omega) i hi x h h'

/-- A power of two, as the shifts tell it. -/
theorem pow_facts (t : Int) (h : 0 ≤ t) (h' : t ≤ 60) : 1 ≤ (2 : Int) ^ t.toNat ∧ (2 : Int) ^ t.toNat ≤ 1152921504606846976 ∧ min t.toNat 64 = t.toNat := by
  have h1 : 2 ^ t.toNat ≤ 2 ^ 60 := Nat.pow_le_pow_right (by decide) (by omega)
  have h2 : 1 ≤ 2 ^ t.toNat := Nat.one_le_two_pow
  have e : (2 : Int) ^ t.toNat = ((2 ^ t.toNat : Nat) : Int) := by rw [Int.natCast_pow]; rfl
  rw [show (2 : Nat) ^ 60 = 1152921504606846976 from rfl] at h1
  rw [e]
  generalize 2 ^ t.toNat = q at h1 h2 ⊢
  omega

theorem shl_one (t : Int) (h : 0 ≤ t) (h' : t ≤ 60) : shl .i64 1 t = 2 ^ t.toNat := by
  obtain ⟨h1, h2, h3⟩ := pow_facts t h h'
  unfold shl
  rw [show IntKind.i64.bits = 64 from rfl, h3, Int.one_mul, Go.IntKind.wrap_i64]
  omega

theorem shr_pow (x t : Int) (h : 0 ≤ t) (h' : t ≤ 60) : shr .i64 x t = x / 2 ^ t.toNat := by
  unfold shr
  rw [show IntKind.i64.bits = 64 from rfl, (pow_facts t h h').2.2]

theorem shl_pow (x t : Int) (h : 0 ≤ t) (h' : t ≤ 60) (hx : 0 ≤ x * 2 ^ t.toNat) (hx' : x * 2 ^ t.toNat < 9223372036854775808) : shl .i64 x t = x * 2 ^ t.toNat := by
  unfold shl
  rw [show IntKind.i64.bits = 64 from rfl, (pow_facts t h h').2.2, Go.IntKind.wrap_i64]
  omega

/-- The scaled magnitude: the nearest integer, halves to even. -/
def SC (m E : Int) : Int × Int :=
  if m = 0 then (0, 0) else if E > 15 then (0, 3) else if E ≥ 0 then FIN (m * 2 ^ E.toNat) else if E < -60 then (0, 0)
  else FIN (if m % 2 ^ (-E).toNat > 2 ^ (-E - 1).toNat then m / 2 ^ (-E).toNat + 1 else if m % 2 ^ (-E).toNat = 2 ^ (-E - 1).toNat then (if m / 2 ^ (-E).toNat % 2 = 1 then m / 2 ^ (-E).toNat + 1 else m / 2 ^ (-E).toNat) else m / 2 ^ (-E).toNat)

theorem sc_ieee (k : Nat) (p : Prop) [Decidable p] (m E M : Int) (hm : 0 ≤ m) (hm' : m < 9007199254740992) (hE : -2000 ≤ E) (hE' : E ≤ 2000) (h0 : m = 0 → 0 ≤ E ∧ E ≤ 24) (hM : M = if p then -m else m) :
    (if E > 16 then (ieee_Scale.j0 (k + 3) M E m (decide (m > 0))) else (ieee_Scale.j0 (k + 3) M E m false)) = some (if p then -(SC m E).1 else (SC m E).1, (SC m E).2) := by
  by_cases z : m = 0
  · subst z
    obtain ⟨e0, e1⟩ := h0 rfl
    have hM0 : M = 0 := by rw [hM]; split <;> rfl
    subst hM0
    have hsh : ¬ (0 : Int) > shr .i64 32767 E := by
      rw [shr_pow _ _ (by omega) (by omega)]
      have := Int.ediv_nonneg (show (0 : Int) ≤ 32767 by decide) (show (0 : Int) ≤ 2 ^ E.toNat by have := (pow_facts E (by omega) (by omega)).1; omega)
      omega
    have hs0 : shl .i64 0 E = 0 := by unfold shl; rw [Int.zero_mul]; rfl
    have hd : decide ((0 : Int) > 0) = false := by decide
    have hf : ieee_Scale.j2 (k + 1) 0 0 = some (0, 0) := by simp [ieee_Scale.j2]
    simp only [hd, ieee_Scale.j0, ieee_Scale.j1, Bool.false_eq_true, if_false, if_pos (show E ≥ 0 by omega), if_pos (show 0 ≤ E by omega), decide_eq_false hsh, hs0, hf, SC, if_true, Int.neg_zero, ite_self]
  · have hlt : M < 0 ↔ p := by
      rw [hM]
      by_cases hp : p
      · rw [if_pos hp]; exact ⟨fun _ => hp, fun _ => by omega⟩
      · rw [if_neg hp]; exact ⟨fun h => by omega, fun h => absurd h hp⟩
    by_cases c1 : E > 16
    · have hSC : SC m E = (0, 3) := by unfold SC; rw [if_neg z, if_pos (by omega)]
      rw [if_pos c1, hSC, decide_eq_true (show m > 0 by omega)]
      simp [ieee_Scale.j0]
    · rw [if_neg c1]
      by_cases c2 : E ≥ 0
      · simp only [ieee_Scale.j0, Bool.false_eq_true, if_false, if_pos c2, if_pos (show 0 ≤ E from c2)]
        rw [shr_pow _ _ (by omega) (by omega)]
        obtain ⟨q1, q2, q3⟩ := pow_facts E (by omega) (by omega)
        have hq : m ≤ 32767 / 2 ^ E.toNat ↔ m * 2 ^ E.toNat ≤ 32767 := Int.le_ediv_iff_mul_le (by omega)
        by_cases c3 : m > 32767 / 2 ^ E.toNat
        · rw [decide_eq_true c3]
          have hSC : SC m E = (0, 3) := by
            unfold SC
            rw [if_neg z]
            by_cases c4 : E > 15
            · rw [if_pos c4]
            · rw [if_neg c4, if_pos c2]
              unfold FIN
              rw [if_pos (by have := mt hq.2 (by omega); omega)]
          rw [hSC]
          simp [ieee_Scale.j1]
        · rw [decide_eq_false c3]
          have hle : m * 2 ^ E.toNat ≤ 32767 := hq.1 (by omega)
          have hge : 0 ≤ m * 2 ^ E.toNat := Int.mul_nonneg hm (by omega)
          have hE15 : ¬ E > 15 := by
            intro h
            have : E = 16 := by omega
            subst this
            have : (2 : Int) ^ (16 : Int).toNat = 65536 := rfl
            rw [this] at hle
            omega
          have hSC : SC m E = FIN (m * 2 ^ E.toNat) := by
            unfold SC
            rw [if_neg z, if_neg hE15, if_pos c2]
          simp only [ieee_Scale.j1, Bool.false_eq_true, if_false, if_pos c2, if_pos (show 0 ≤ E from c2)]
          rw [shl_pow _ _ (by omega) (by omega) hge (by omega), hSC]
          exact fin2 _ p M _ hlt hge
      · simp only [ieee_Scale.j0, ieee_Scale.j1, Bool.false_eq_true, if_false, if_neg c2]
        by_cases c3 : E < -60
        · have hSC : SC m E = FIN 0 := by unfold SC; rw [if_neg z, if_neg (by omega), if_neg c2, if_pos c3]; rfl
          rw [if_pos c3, hSC]
          exact fin2 _ p M 0 hlt (by decide)
        · have hSC : SC m E = FIN (if m % 2 ^ (-E).toNat > 2 ^ (-E - 1).toNat then m / 2 ^ (-E).toNat + 1 else if m % 2 ^ (-E).toNat = 2 ^ (-E - 1).toNat then (if m / 2 ^ (-E).toNat % 2 = 1 then m / 2 ^ (-E).toNat + 1 else m / 2 ^ (-E).toNat) else m / 2 ^ (-E).toNat) := by
            unfold SC; rw [if_neg z, if_neg (by omega), if_neg c2, if_neg c3]
          rw [if_neg c3, hSC, wrap_in (n := -E) (by omega) (by omega), wrap_in (n := -E - 1) (by omega) (by omega), if_pos (by omega), if_pos (by omega),
            shl_one (-E) (by omega) (by omega), shl_one (-E - 1) (by omega) (by omega), shr_pow _ _ (by omega) (by omega)]
          obtain ⟨q1, q2, q3⟩ := pow_facts (-E) (by omega) (by omega)
          rw [wrap_in (n := 2 ^ (-E).toNat - 1) (by omega) (by omega), i64_and (-E).toNat (by omega) (by omega) (by omega)]
          have b0 : 0 ≤ m / 2 ^ (-E).toNat := Int.ediv_nonneg hm (by omega)
          have b1 : m / 2 ^ (-E).toNat ≤ m := Int.ediv_le_self _ hm
          rw [Int.tmod_eq_emod_of_nonneg b0, wrap_in (n := m / 2 ^ (-E).toNat + 1) (by omega) (by omega)]
          generalize m / 2 ^ (-E).toNat = q at b0 b1 ⊢
          generalize m % 2 ^ (-E).toNat = r
          by_cases d1 : r > 2 ^ (-E - 1).toNat
          · simp only [if_pos d1]
            exact fin2 _ p M _ hlt (by omega)
          · simp only [if_neg d1]
            by_cases d2 : r = 2 ^ (-E - 1).toNat
            · simp only [if_pos d2]
              by_cases d3 : q % 2 = 1
              · simp only [if_pos d3]
                exact fin2 _ p M _ hlt (by omega)
              · simp only [if_neg d3]
                exact fin2 _ p M _ hlt (by omega)
            · simp only [if_neg d2]
              exact fin2 _ p M _ hlt (by omega)

/-- The scaled value of bits whose parts are told. -/
theorem scale_ieee (k : Nat) (a s m e : Int) (ok : Bool) (hs : -9223372036854775808 ≤ s) (hs' : s ≤ 9223372036854775807)
    (hme : m = 0 ∧ e = 0 ∨ ok = true ∧ 0 < m ∧ m < 9007199254740992 ∧ m % 2 = 1 ∧ -1074 ≤ e ∧ e ≤ 1100)
    (hp : ieee_Parts.f (k + 3) a = some (if a / 9223372036854775808 = 1 then -m else m, e, ok)) :
    ieee_Scale.f (k + 3) a s = if 0 ≤ s ∧ s ≤ 24 then (if ok = true then some (if a / 9223372036854775808 = 1 then -(SC m (e + s)).1 else (SC m (e + s)).1, (SC m (e + s)).2) else some (0, 1)) else some (0, 2) := by
  unfold ieee_Scale.f ieee_shiftable.f
  by_cases hs0 : 0 ≤ s ∧ s ≤ 24
  · rw [if_pos hs0, if_pos (show s ≥ 0 by omega), decide_eq_true (show s ≤ 24 by omega)]
    simp only [Option.bind_some, if_true, hp]
    cases ok with
    | false => simp
    | true =>
      have w : mx (if a / 9223372036854775808 = 1 then -m else m) (wrap64 (-(if a / 9223372036854775808 = 1 then -m else m))) = m := by
        rw [mx_max]
        split
        · rw [wrap_in (by omega) (by omega)]; omega
        · rw [wrap_in (by omega) (by omega)]; omega
      simp only [if_true, w, wrap_in (n := e + s) (by omega) (by omega)]
      exact sc_ieee k _ m (e + s) _ (by omega) (by omega) (by omega) (by omega) (by omega) rfl
  · rw [if_neg hs0]
    by_cases h1 : s ≥ 0
    · have h2 : ¬ s ≤ 24 := by omega
      simp [h1, h2]
    · simp [h1]

theorem fin3 (k : Nat) (p : Prop) [Decidable p] (b : Bool) (v : Int) (hM : b = true ↔ p) (hv : 0 ≤ v) :
    tilefarmref6_Scale.j3 (k + 1) b v = some (if p then -(FIN v).1 else (FIN v).1, (FIN v).2) := by
  simp only [tilefarmref6_Scale.j3, FIN]
  by_cases h : v > 32767
  · simp [h]
  · simp only [if_neg h]
    by_cases hp : p
    · rw [if_pos (hM.2 hp), if_pos hp, wrap_in (by omega) (by omega)]
    · rw [if_neg (fun x => hp (hM.1 x)), if_neg hp]

theorem sc_ref (k : Nat) (p : Prop) [Decidable p] (m e s M : Int) (hm : 0 ≤ m) (hm' : m < 9007199254740992) (hE : -2000 ≤ e + s) (hE' : e + s ≤ 2000) (h0 : m = 0 → 0 ≤ e + s ∧ e + s ≤ 24) (hM : M = if p then -m else m) :
    (if M < 0 then (tilefarmref6_Scale.j1 (k + 3) s (wrap64 (-M)) e (decide (M < 0))) else (tilefarmref6_Scale.j1 (k + 3) s M e (decide (M < 0)))) = some (if p then -(SC m (e + s)).1 else (SC m (e + s)).1, (SC m (e + s)).2) := by
  have hE2 : wrap64 (e + s) = e + s := wrap_in (by omega) (by omega)
  by_cases z : m = 0
  · subst z
    have hM0 : M = 0 := by rw [hM]; split <;> rfl
    subst hM0
    simp [tilefarmref6_Scale.j1, tilefarmref6_Scale.j2, SC]
  · have hlt : M < 0 ↔ p := by
      rw [hM]
      by_cases hp : p
      · rw [if_pos hp]; exact ⟨fun _ => hp, fun _ => by omega⟩
      · rw [if_neg hp]; exact ⟨fun h => by omega, fun h => absurd h hp⟩
    have key : ∀ b, (b = true ↔ p) → tilefarmref6_Scale.j1 (k + 3) s m e b = some (if p then -(SC m (e + s)).1 else (SC m (e + s)).1, (SC m (e + s)).2) := by
      intro b hb
      simp only [tilefarmref6_Scale.j1, hE2, if_neg z]
      generalize e + s = E at hE hE' ⊢
      by_cases c0 : E < -60
      · have hSC : SC m E = (0, 0) := by unfold SC; rw [if_neg z, if_neg (by omega), if_neg (by omega), if_pos c0]
        rw [hSC, decide_eq_true c0]
        simp [tilefarmref6_Scale.j2]
      · rw [decide_eq_false c0]
        simp only [tilefarmref6_Scale.j2, Bool.false_eq_true, if_false]
        by_cases c1 : E > 15
        · have hSC : SC m E = (0, 3) := by unfold SC; rw [if_neg z, if_pos c1]
          rw [hSC, if_pos c1]
          simp
        · rw [if_neg c1]
          by_cases c2 : E ≥ 0
          · have hSC : SC m E = FIN (m * 2 ^ E.toNat) := by unfold SC; rw [if_neg z, if_neg c1, if_pos c2]
            obtain ⟨q1, q2, q3⟩ := pow_facts E (by omega) (by omega)
            have q4 : (2 : Int) ^ E.toNat ≤ 32768 := by
              have h1 : 2 ^ E.toNat ≤ 2 ^ 15 := Nat.pow_le_pow_right (by decide) (by omega)
              have e : (2 : Int) ^ E.toNat = ((2 ^ E.toNat : Nat) : Int) := by rw [Int.natCast_pow]; rfl
              rw [show (2 : Nat) ^ 15 = 32768 from rfl] at h1
              rw [e]
              generalize 2 ^ E.toNat = q at h1 ⊢
              omega
            rw [if_pos c2, hSC, u64_wrap (n := E) (by omega) (by omega)]
            by_cases c3 : m > 32767
            · rw [if_pos c3]
              have : m * 1 ≤ m * 2 ^ E.toNat := Int.mul_le_mul_of_nonneg_left q1 hm
              have hF : FIN (m * 2 ^ E.toNat) = (0, 3) := by unfold FIN; rw [if_pos (by omega)]
              rw [hF]
              simp
            · rw [if_neg c3, if_pos (show 0 ≤ E from c2)]
              obtain ⟨b1, b2⟩ := mul_bd (x := m) (y := 2 ^ E.toNat) (B := 32767) (C := 32768) hm (by omega) (by omega) q4
              rw [shl_pow _ _ (by omega) (by omega) b1 (by omega)]
              exact fin3 _ p b _ hb b1
          · have hSC : SC m E = FIN (if m % 2 ^ (-E).toNat > 2 ^ (-E - 1).toNat then m / 2 ^ (-E).toNat + 1 else if m % 2 ^ (-E).toNat = 2 ^ (-E - 1).toNat then (if m / 2 ^ (-E).toNat % 2 = 1 then m / 2 ^ (-E).toNat + 1 else m / 2 ^ (-E).toNat) else m / 2 ^ (-E).toNat) := by
              unfold SC; rw [if_neg z, if_neg c1, if_neg c2, if_neg c0]
            obtain ⟨q1, q2, q3⟩ := pow_facts (-E) (by omega) (by omega)
            have b0 : 0 ≤ m / 2 ^ (-E).toNat := Int.ediv_nonneg hm (by omega)
            have b1 : m / 2 ^ (-E).toNat ≤ m := Int.ediv_le_self _ hm
            have b2 : m / 2 ^ (-E).toNat * 2 ^ (-E).toNat + m % 2 ^ (-E).toNat = m := by rw [Int.mul_comm]; exact Int.mul_ediv_add_emod m _
            have b3 : 0 ≤ m % 2 ^ (-E).toNat := Int.emod_nonneg _ (by omega)
            have b4 : 0 ≤ m / 2 ^ (-E).toNat * 2 ^ (-E).toNat := Int.mul_nonneg b0 (by omega)
            rw [if_neg c2, hSC, wrap_in (n := -E) (by omega) (by omega), wrap_in (n := -E - 1) (by omega) (by omega), u64_wrap (n := -E) (by omega) (by omega), u64_wrap (n := -E - 1) (by omega) (by omega), if_pos (by omega), if_pos (by omega),
              shl_one (-E - 1) (by omega) (by omega), shr_pow _ _ (by omega) (by omega), shl_pow _ _ (by omega) (by omega) b4 (by omega)]
            rw [show m - m / 2 ^ (-E).toNat * 2 ^ (-E).toNat = m % 2 ^ (-E).toNat by omega, wrap_in (n := m % 2 ^ (-E).toNat) (by omega) (by omega)]
            rw [Int.tmod_eq_emod_of_nonneg b0, wrap_in (n := m / 2 ^ (-E).toNat + 1) (by omega) (by omega)]
            clear b2 b4
            generalize m / 2 ^ (-E).toNat = q at b0 b1 ⊢
            generalize m % 2 ^ (-E).toNat = r
            by_cases d1 : r > 2 ^ (-E - 1).toNat
            · simp only [if_pos d1]
              exact fin3 _ p b _ hb (by omega)
            · simp only [if_neg d1]
              by_cases d2 : r = 2 ^ (-E - 1).toNat
              · simp only [if_pos d2]
                by_cases d3 : q % 2 = 1
                · simp only [if_pos d3]
                  exact fin3 _ p b _ hb (by omega)
                · simp only [if_neg d3]
                  exact fin3 _ p b _ hb (by omega)
              · simp only [if_neg d2]
                exact fin3 _ p b _ hb (by omega)
    by_cases hp : p
    · have e1 : wrap64 (-M) = m := by rw [hM, if_pos hp, wrap_in (by omega) (by omega)]; omega
      rw [if_pos (hlt.2 hp), e1]
      exact key _ (by rw [decide_eq_true_eq]; exact hlt)
    · have e1 : M = m := by rw [hM, if_neg hp]
      rw [if_neg (fun h => hp (hlt.1 h))]
      have := key (decide (M < 0)) (by rw [decide_eq_true_eq]; exact hlt)
      rw [← this, e1]

theorem scale_ref (k : Nat) (a s m e : Int) (ok : Bool) (hs : -9223372036854775808 ≤ s) (hs' : s ≤ 9223372036854775807)
    (hme : m = 0 ∧ e = 0 ∨ ok = true ∧ 0 < m ∧ m < 9007199254740992 ∧ m % 2 = 1 ∧ -1074 ≤ e ∧ e ≤ 1100)
    (hp : tilefarmref6_Parts.f (k + 3) a = some (if a / 9223372036854775808 = 1 then -m else m, e, ok)) :
    tilefarmref6_Scale.f (k + 4) a s = if 0 ≤ s ∧ s ≤ 24 then (if ok = true then some (if a / 9223372036854775808 = 1 then -(SC m (e + s)).1 else (SC m (e + s)).1, (SC m (e + s)).2) else some (0, 1)) else some (0, 2) := by
  unfold tilefarmref6_Scale.f
  by_cases hs0 : 0 ≤ s ∧ s ≤ 24
  · rw [if_pos hs0, if_neg (show ¬ s < 0 by omega), decide_eq_false (show ¬ s > 24 by omega)]
    simp only [tilefarmref6_Scale.j0, Bool.false_eq_true, if_false, hp, Option.bind_some]
    cases ok with
    | false => simp
    | true =>
      simp only [if_true]
      exact sc_ref k _ m e s _ (by omega) (by omega) (by omega) (by omega) (by omega) rfl
  · rw [if_neg hs0]
    by_cases h1 : s < 0
    · simp [h1, tilefarmref6_Scale.j0]
    · have h2 : s > 24 := by omega
      simp [h1, h2, tilefarmref6_Scale.j0]

theorem scale_eq (k : Nat) (hk : 100 ≤ k) (a s : Int) (h : 0 ≤ a) (h' : a < 18446744073709551616) (hs : -9223372036854775808 ≤ s) (hs' : s ≤ 9223372036854775807) :
    ∃ v, ieee_Scale.f k a s = some v ∧ tilefarmref6_Scale.f k a s = some v := by
  obtain ⟨m, e, ok, _, _, hme, hp⟩ := parts_spec (a % 9223372036854775808) (by omega) (by omega)
  obtain ⟨k, rfl⟩ : ∃ j, k = j + 4 := ⟨k - 4, by omega⟩
  rw [scale_ieee (k + 1) a s m e ok hs hs' hme (hp (k + 4) a (by omega) h h' rfl).1, scale_ref k a s m e ok hs hs' hme (hp (k + 3) a (by omega) h h' rfl).2]
  split
  · split <;> exact ⟨_, rfl, rfl⟩
  · exact ⟨_, rfl, rfl⟩

theorem sane_eq : tilefarmlaw6_sane.f 100 = some true := by decide +kernel

theorem u64_wf {n : Int} (h : (Lit.int .u64 n).wf = true) : 0 ≤ n ∧ n < 18446744073709551616 := by
  simp only [Lit.wf, IntKind.min, IntKind.max, IntKind.signed, IntKind.bits, Bool.and_eq_true, decide_eq_true_eq, Bool.false_eq_true, if_false] at h
  omega

theorem fin_range (v : Int) (hv : 0 ≤ v) : 0 ≤ (FIN v).1 ∧ (FIN v).1 ≤ 32767 := by
  unfold FIN
  split
  · exact ⟨by decide, by decide⟩
  · exact ⟨hv, by omega⟩

theorem sc_range (m E : Int) (hm0 : 0 ≤ m) : 0 ≤ (SC m E).1 ∧ (SC m E).1 ≤ 32767 := by
  unfold SC
  split
  · exact ⟨by decide, by decide⟩
  · split
    · exact ⟨by decide, by decide⟩
    · split
      · exact fin_range _ (Int.mul_nonneg hm0 (Int.pow_nonneg (by decide)))
      · split
        · exact ⟨by decide, by decide⟩
        · have : 0 ≤ m / 2 ^ (-E).toNat := Int.ediv_nonneg hm0 (Int.pow_nonneg (by decide))
          generalize m / 2 ^ (-E).toNat = q at this ⊢
          apply fin_range
          split
          · omega
          · split
            · split <;> omega
            · omega

theorem scale_b (k : Nat) (hk : 100 ≤ k) (a s : Int) (h : 0 ≤ a ∧ a < 18446744073709551616) (hs : -9223372036854775808 ≤ s) (hs' : s ≤ 9223372036854775807) :
    ∃ v, ieee_Scale.f k a s = some v ∧ tilefarmref6_Scale.f k a s = some v ∧ -32767 ≤ v.1 ∧ v.1 ≤ 32767 := by
  obtain ⟨m, e, ok, _, _, hme, hp⟩ := parts_spec (a % 9223372036854775808) (by omega) (by omega)
  obtain ⟨k, rfl⟩ : ∃ j, k = j + 4 := ⟨k - 4, by omega⟩
  have hr := sc_range m (e + s) (by omega)
  rw [scale_ieee (k + 1) a s m e ok hs hs' hme (hp (k + 4) a (by omega) h.1 h.2 rfl).1, scale_ref k a s m e ok hs hs' hme (hp (k + 3) a (by omega) h.1 h.2 rfl).2]
  clear hp hme
  generalize (SC m (e + s)).1 = x at hr ⊢
  by_cases c : 0 ≤ s ∧ s ≤ 24
  · rw [if_pos c]
    by_cases c2 : ok = true
    · rw [if_pos c2]
      exact ⟨_, rfl, rfl, by show -32767 ≤ (if a / 9223372036854775808 = 1 then -x else x); split <;> omega, by show (if a / 9223372036854775808 = 1 then -x else x) ≤ 32767; split <;> omega⟩
    · rw [if_neg c2]; exact ⟨_, rfl, rfl, by decide, by decide⟩
  · rw [if_neg c]; exact ⟨_, rfl, rfl, by decide, by decide⟩

theorem idx {i n L : Nat} (h : i + (n + 1) = L) : i + 1 + n = L ∧ i < L := by omega
theorem next_i {i L : Nat} (h : i < L) (hL : L ≤ 8) : wrap64 ((i : Int) + 1) = ((i + 1 : Nat) : Int) ∧ (i : Int) ≤ 8 ∧ (i : Int) < (L : Int) ∧ 0 ≤ (i : Int) := by
  refine ⟨?_, by omega, by omega, by omega⟩
  rw [wrap_in (by omega) (by omega)]; omega

theorem rd_pre (xs ys : List Int) (j : Int) (h : 0 ≤ j) (h' : j < (xs.length : Int)) : rd (xs ++ ys) j = rd xs j := by
  obtain ⟨n, rfl⟩ := Int.eq_ofNat_of_zero_le h
  have : n < xs.length := by omega
  simp [rd, List.getD, List.getElem?_append_left this]

theorem set_at (xs : List Int) (n : Nat) (v : Int) : (xs ++ List.replicate (n + 1) 0).set xs.length v = (xs ++ [v]) ++ List.replicate n 0 := by
  rw [List.set_append_right _ _ (Nat.le_refl _), Nat.sub_self, List.replicate_succ, List.set_cons_zero, List.append_assoc, List.singleton_append]

theorem sums {d s v i : Int} (hi : i ≤ 8) (hi0 : 0 ≤ i) (h1 : -32767 * i ≤ s) (h2 : s ≤ 32767 * i) (hd : 0 ≤ d) (hd' : d ≤ 16777216) (hv : -32767 ≤ v) (hv' : v ≤ 32767) :
    wrap64 (s + v) = s + v ∧ wrap64 (d - s - v) = d - (s + v) ∧ -32767 * (i + 1) ≤ s + v ∧ s + v ≤ 32767 * (i + 1) := by
  refine ⟨wrap_in (by omega) (by omega), ?_, by omega, by omega⟩
  rw [wrap_in (by omega) (by omega)]; omega

theorem last_step {d s i L : Int} (hL : L ≤ 8) (hL0 : 0 < L) (hi : i = L) (h1 : -32767 * i ≤ s) (h2 : s ≤ 32767 * i) (hd : 0 ≤ d) (hd' : d ≤ 16777216) :
    wrap64 (-(d - s)) = -(d - s) ∧ wrap64 (d - s) = d - s ∧ wrap64 (-L) = -L ∧ (max (d - s) (-(d - s)) > L ↔ d - s > L ∨ d - s < -L) :=
  ⟨wrap_in (by omega) (by omega), wrap_in (by omega) (by omega), wrap_in (by omega) (by omega), by omega⟩

theorem fuel {n k : Nat} (h : n + 1 + 110 ≤ k + 1) : 100 ≤ k ∧ n + 110 ≤ k := by omega
theorem fuel0 {k : Nat} (h : 0 + 110 ≤ k) : ∃ m, k = m + 1 + 1 := ⟨k - 2, by omega⟩
theorem fuel1 {n k : Nat} (h : n + 1 + 110 ≤ k) : ∃ m, k = m + 1 := ⟨k - 1, by omega⟩
theorem i64s {s : Int} (h : 0 ≤ s) (h' : s ≤ 24) : -9223372036854775808 ≤ s ∧ s ≤ 9223372036854775807 := by omega
theorem lens {i n X L : Nat} {b : Int} (hX : X = i) (h : i < L) (hL : L ≤ 8) (b2 : b = 0 ∨ b < (i : Int)) : X < 17592186044416 ∧ (i : Int) < ((X + (n + 1) : Nat) : Int) ∧ b < ((X + 1 : Nat) : Int) ∧ b < ((X + (n + 1) : Nat) : Int) ∧ b < (i : Int) + 1 ∧ (i : Int) < (i : Int) + 1 := by omega
theorem len0 {i X L : Nat} {b : Int} (hX : X = i) (h : i + 0 = L) (hL : L ≤ 8) (hL0 : 0 < L) (b2 : b = 0 ∨ b < (i : Int)) : (i : Int) = (L : Int) ∧ b < (X : Int) ∧ ¬ (i : Int) < (L : Int) ∧ X ≤ 8 ∧ (L : Int) ≤ 8 ∧ 0 < (L : Int) := by omega
theorem not_both {y : Int} (h : y > 32767) : ¬ y < -32767 := by omega

theorem q_loop (l : List Int) (hl0 : 0 < l.length) (hl : l.length ≤ 8) (hx : ∀ x ∈ l, 0 ≤ x ∧ x < 18446744073709551616) (s : Int) (hs : 0 ≤ s) (hs' : s ≤ 24) (d : Int) (hd : 0 ≤ d) (hd' : d ≤ 16777216) (hsh : shl .i64 1 (IntKind.u64.wrap s) = d) (n : Nat) :
    ∀ (k i : Nat) (xs : List Int) (sm b : Int), i + n = l.length → n + 110 ≤ k → xs.length = i → -32767 * (i : Int) ≤ sm → sm ≤ 32767 * i → 0 ≤ b → (b = 0 ∨ b < (i : Int)) →
      ∃ v, ieee_Quantize.l0 k l s xs (d - sm) b l (l.length : Int) (i : Int) = some v ∧ tilefarmref6_Quantize.l0 k l s (xs ++ List.replicate n 0) sm b (i : Int) = some v ∧ v.1.length ≤ 8 := by
  induction n with
  | zero =>
    intro k i xs sm b hi hk hxs s1 s2 b1 b2
    obtain ⟨k, rfl⟩ := fuel0 hk
    obtain ⟨hiL, hb, hlast, hlen8, hL8, hL0⟩ := len0 hxs hi hl hl0 b2
    obtain ⟨w1, w2, w3, w4⟩ := last_step (L := (l.length : Int)) hL8 hL0 hiL s1 s2 hd hd'
    have hu : 0 ≤ IntKind.u64.wrap s := (u64_range s).1
    clear s1 s2 hi hk hx hd hd' hs hs' hiL hL8 hL0 b2 hl0
    simp only [ieee_Quantize.l0, tilefarmref6_Quantize.l0, List.replicate_zero, List.append_nil]
    rw [if_neg hlast, if_neg hlast, if_pos hu, hsh, w1, w2, w3, mx_max]
    have fin : ∀ t, t = true ∨ t = false → tilefarmref6_Quantize.j3 (k + 1) xs b (d - sm) t = if t = true then some (([] : List Int), 10) else (if (rd (xs.set b.toNat (wrap64 (rd xs b + (d - sm)))) b) < -32767 then some (([] : List Int), 3) else (if (rd (xs.set b.toNat (wrap64 (rd xs b + (d - sm)))) b) > 32767 then some (([] : List Int), 3) else some (xs.set b.toNat (wrap64 (rd xs b + (d - sm))), 0))) := by
      intro t ht
      simp only [tilefarmref6_Quantize.j3]
      rcases ht with rfl | rfl
      · rfl
      · rw [if_neg (show ¬ (false = true) by decide), if_neg (show ¬ (false = true) by decide), if_pos b1, if_pos hb, Option.bind_some]
        generalize rd (xs.set b.toNat (wrap64 (rd xs b + (d - sm)))) b = y
        by_cases c1 : y > 32767
        · rw [if_pos c1, if_neg (not_both c1), if_pos c1]
        · rw [if_neg c1]
          by_cases c2 : y < -32767
          · rw [if_pos c2, if_pos c2]
          · rw [if_neg c2, if_neg c2, if_neg c1]
    by_cases c1 : max (d - sm) (-(d - sm)) > (l.length : Int)
    · rw [if_pos c1]
      refine ⟨_, rfl, ?_, by decide⟩
      by_cases c2 : d - sm > (l.length : Int)
      · rw [if_pos c2, fin _ (.inl rfl), if_pos rfl]
      · have c3 : d - sm < -(l.length : Int) := by rcases w4.1 c1 with h | h; exact absurd h c2; exact h
        rw [if_neg c2, decide_eq_true c3, fin _ (.inl rfl), if_pos rfl]
    · have c2 : ¬ d - sm > (l.length : Int) := fun h => c1 (w4.2 (.inl h))
      have c3 : ¬ d - sm < -(l.length : Int) := fun h => c1 (w4.2 (.inr h))
      rw [if_neg c1, if_pos b1, if_pos hb, Option.bind_some, if_neg c2, decide_eq_false c3, fin _ (.inr rfl), if_neg (show ¬ (false = true) by decide)]
      generalize hy : xs.set b.toNat (wrap64 (rd xs b + (d - sm))) = ys
      have hlen : ys.length ≤ 8 := by rw [← hy, List.length_set]; exact hlen8
      by_cases c4 : rd ys b < -32767
      · rw [if_pos c4]; exact ⟨_, rfl, rfl, by decide⟩
      · rw [if_neg c4]
        by_cases c5 : rd ys b > 32767
        · rw [if_pos c5]; exact ⟨_, rfl, rfl, by decide⟩
        · rw [if_neg c5]; exact ⟨_, rfl, rfl, hlen⟩
  | succ n ih =>
    intro k i xs sm b hi hk hxs s1 s2 b1 b2
    obtain ⟨k, rfl⟩ := fuel1 hk
    obtain ⟨hidx, hlt⟩ := idx hi
    obtain ⟨e1, hi8, hI, hP⟩ := next_i hlt hl
    obtain ⟨hk100, hk'⟩ := fuel hk
    obtain ⟨v, v1, v2, v3, v4⟩ := scale_b k hk100 (rd l (i : Int)) s (hx _ (rd_mem l i hlt)) (i64s hs hs').1 (i64s hs hs').2
    obtain ⟨hlen, n2, n3, n4, n5, n6⟩ := lens (n := n) hxs hlt hl b2
    have hlen2 : (i : Int) < ((xs ++ List.replicate (n + 1) 0).length : Int) := by rw [List.length_append, List.length_replicate]; exact n2
    have hb2 : b < (((xs ++ [v.1]) : List Int).length : Int) := by rw [List.length_append, List.length_singleton]; exact n3
    have hb3 : b < ((xs ++ List.replicate (n + 1) 0).length : Int) := by rw [List.length_append, List.length_replicate]; exact n4
    obtain ⟨w1, w2, w3, w4⟩ := sums hi8 hP s1 s2 hd hd' v3 v4
    have hset : (xs ++ List.replicate (n + 1) 0).set ((i : Int)).toNat v.1 = (xs ++ [v.1]) ++ List.replicate n 0 := by
      rw [Int.toNat_natCast, ← hxs]; exact set_at xs n v.1
    have hrd : rd ((xs ++ [v.1]) ++ List.replicate n 0) b = rd (xs ++ [v.1]) b := rd_pre _ _ b b1 hb2
    have hc : ((i + 1 : Nat) : Int) = (i : Int) + 1 := Int.natCast_succ i
    simp only [ieee_Quantize.l0, tilefarmref6_Quantize.l0]
    rw [if_pos hI, if_pos hP, if_pos hI, v1, v2, if_pos hI, if_pos hP, Option.bind_some, Option.bind_some, Option.bind_some, Option.bind_some]
    by_cases c0 : v.2 = 0
    · rw [if_pos c0, if_pos c0, if_pos hlen, if_pos hlen2, hset, if_pos b1, if_pos hb2, if_pos b1, if_pos hb3, hrd, e1, w1, w2]
      by_cases c1 : v.1 > rd (xs ++ [v.1]) b
      · rw [if_pos c1, if_pos c1]
        exact ih k (i + 1) (xs ++ [v.1]) (sm + v.1) (i : Int) hidx hk' (by rw [List.length_append, hxs]; rfl) (by rw [hc]; exact w3) (by rw [hc]; exact w4) hP (.inr (by rw [hc]; exact n6))
      · rw [if_neg c1, if_neg c1]
        exact ih k (i + 1) (xs ++ [v.1]) (sm + v.1) b hidx hk' (by rw [List.length_append, hxs]; rfl) (by rw [hc]; exact w3) (by rw [hc]; exact w4) b1 (.inr (by rw [hc]; exact n5))
    · rw [if_neg c0, if_neg c0]
      exact ⟨([], v.2), rfl, rfl, Nat.zero_le _⟩

theorem shl_shift {s : Int} (h : 0 ≤ s) (h' : s ≤ 24) : IntKind.u64.wrap s = s ∧ 0 ≤ shl .i64 1 s ∧ shl .i64 1 s ≤ 16777216 := by
  refine ⟨u64_wrap h (by omega), ?_, ?_⟩
  · rw [shl_one s h (by omega)]; exact Int.pow_nonneg (by decide)
  · rw [shl_one s h (by omega)]
    have h1 : 2 ^ s.toNat ≤ 2 ^ 24 := Nat.pow_le_pow_right (by decide) (by omega)
    have e : (2 : Int) ^ s.toNat = ((2 ^ s.toNat : Nat) : Int) := by rw [Int.natCast_pow]; rfl
    rw [show (2 : Nat) ^ 24 = 16777216 from rfl] at h1
    rw [e]
    generalize 2 ^ s.toNat = q at h1 ⊢
    omega

theorem quant_eq (k : Nat) (hk : 200 ≤ k) (l : List Int) (hll : l.length ≤ 35184372088832) (hx : ∀ x ∈ l, 0 ≤ x ∧ x < 18446744073709551616) (s : Int) :
    ∃ v, ieee_Quantize.f k l s = some v ∧ tilefarmref6_Quantize.f k l s = some v ∧ v.1.length ≤ 8 := by
  obtain ⟨k, rfl⟩ : ∃ m, k = m + 1 + 1 := ⟨k - 2, by omega⟩
  have hk1 : l.length + 110 ≤ k + 1 ∨ ¬ l.length ≤ 8 := by omega
  have hk0 : l.length + 110 ≤ k ∨ ¬ l.length ≤ 8 := by omega
  clear hk
  unfold ieee_Quantize.f ieee_shiftable.f tilefarmref6_Quantize.f
  by_cases c0 : s < 0
  · rw [if_pos c0, if_neg (show ¬ s ≥ 0 by omega), Option.bind_some, if_neg (show ¬ (false = true) by decide)]
    refine ⟨([], 2), rfl, ?_, Nat.zero_le _⟩
    simp only [tilefarmref6_Quantize.j0]; rw [if_pos trivial]
  · rw [if_neg c0, if_pos (show s ≥ 0 by omega), Option.bind_some]
    by_cases c1 : s > 24
    · rw [decide_eq_false (show ¬ s ≤ 24 by omega), if_neg (show ¬ (false = true) by decide), decide_eq_true c1]
      refine ⟨([], 2), rfl, ?_, Nat.zero_le _⟩
      simp only [tilefarmref6_Quantize.j0]; rw [if_pos trivial]
    · rw [decide_eq_true (show s ≤ 24 by omega), if_pos rfl, decide_eq_false c1]
      simp only [tilefarmref6_Quantize.j0, Bool.false_eq_true, if_false]
      have err : tilefarmref6_Quantize.j1 k l s true = some ([], 5) → True := fun _ => trivial
      by_cases c2 : (l.length : Int) = 0
      · rw [if_pos c2, if_pos c2]
        obtain ⟨j, rfl⟩ : ∃ j, k = j + 1 := ⟨k - 1, by omega⟩
        refine ⟨([], 5), ?_, ?_, Nat.zero_le _⟩
        · simp only [ieee_Quantize.j0]; rw [if_pos trivial]
        · simp only [tilefarmref6_Quantize.j1]; rw [if_pos trivial]
      · rw [if_neg c2, if_neg c2]
        by_cases c3 : (l.length : Int) > 8
        · rw [decide_eq_true c3]
          refine ⟨([], 5), ?_, ?_, Nat.zero_le _⟩
          · simp only [ieee_Quantize.j0]; rw [if_pos trivial]
          · simp only [tilefarmref6_Quantize.j1]; rw [if_pos trivial]
        · rw [decide_eq_false c3]
          have h8 : l.length ≤ 8 := by omega
          have h0 : 0 < l.length := by omega
          have hk : l.length + 110 ≤ k := by omega
          obtain ⟨g1, g2, g3⟩ := shl_shift (s := s) (by omega) (by omega)
          obtain ⟨v, q1, q2, q3⟩ := q_loop l h0 h8 hx s (by omega) (by omega) (shl .i64 1 s) g2 g3 (by rw [g1]) l.length k 0 [] 0 0 (by omega) hk rfl (by decide) (by decide) (by decide) (.inl rfl)
          have q0 : ieee_Quantize.l0 (k + 1) l s [] (shl .i64 1 s) 0 l (l.length : Int) 0 = some v := by
            have := (ieee_Quantize.mono_l k).2 _ _ _ _ _ _ _ _ _ q1
            rw [Int.sub_zero] at this
            exact this
          have q2' : tilefarmref6_Quantize.l0 k l s (List.replicate (l.length : Int).toNat 0) 0 0 0 = some v := q2
          refine ⟨v, ?_, ?_, q3⟩
          · simp only [ieee_Quantize.j0, Bool.false_eq_true, if_false]
            rw [if_pos (show 0 ≤ s by omega)]
            exact q0
          · simp only [tilefarmref6_Quantize.j1, Bool.false_eq_true, if_false]
            rw [if_pos (show 0 ≤ (l.length : Int) by omega), if_pos (show (l.length : Int).toNat ≤ 35184372088832 by omega)]
            exact q2'

theorem same_loop (xs : List Int) (h8 : xs.length ≤ 8) (n : Nat) : ∀ (k i : Nat), i + n = xs.length → n + 1 ≤ k → tilefarmref4_Same.l0 k xs xs (i : Int) = some true := by
  induction n with
  | zero =>
    intro k i hi hk
    obtain ⟨k, rfl⟩ : ∃ m, k = m + 1 := ⟨k - 1, by omega⟩
    simp only [tilefarmref4_Same.l0]
    rw [if_neg (by omega)]
  | succ n ih =>
    intro k i hi hk
    obtain ⟨k, rfl⟩ : ∃ m, k = m + 1 := ⟨k - 1, by omega⟩
    obtain ⟨hidx, hlt⟩ := idx hi
    obtain ⟨e1, hi8, hI, hP⟩ := next_i hlt h8
    simp only [tilefarmref4_Same.l0]
    rw [if_pos hI, if_pos hP, if_pos hI, if_pos trivial, e1]
    exact ih k (i + 1) hidx (by omega)

theorem same_eq (k : Nat) (hk : 20 ≤ k) (xs : List Int) (h8 : xs.length ≤ 8) : tilefarmref4_Same.f k xs xs = some true := by
  unfold tilefarmref4_Same.f
  rw [if_pos rfl]
  exact same_loop xs h8 xs.length k 0 (by omega) (by omega)

theorem lit1 : ∀ x ∈ ([4599676419421066581, 4599676419421066581, 4599676419421066581] : List Int), 0 ≤ x ∧ x < 18446744073709551616 := by decide
theorem lit2 : ∀ x ∈ ([4602678819172646912, 4602678819172646912] : List Int), 0 ≤ x ∧ x < 18446744073709551616 := by decide
theorem lit3 : ∀ x ∈ ([13812540057145311232, 4607745368753438720, 13812540057145311232] : List Int), 0 ≤ x ∧ x < 18446744073709551616 := by decide

theorem third_o (l : List Int) (s : Int) (hs : 0 ≤ s) (hl : l.length ≤ 4611686018427387904) :
    ∃ bt, tilefarmgen_Tape_Third.f l s = some bt ∧ (∀ x ∈ bt.1, 0 ≤ x ∧ x < 18446744073709551616) ∧ bt.1.length ≤ 3 ∧ 0 ≤ bt.2 := by
  unfold tilefarmgen_Tape_Third.f
  obtain ⟨r, s1, h1, h2, h3, h4⟩ := next_spec l s 4 hs hl (by decide) (by decide)
  rw [h1, Option.bind_some]
  by_cases c0 : (r, s1).1 = 0
  · rw [if_pos c0]; exact ⟨_, rfl, lit1, (by show 3 ≤ 3; decide), h4⟩
  · rw [if_neg c0]
    by_cases c1 : (r, s1).1 = 1
    · rw [if_pos c1]; exact ⟨_, rfl, lit2, (by show 2 ≤ 3; decide), h4⟩
    · rw [if_neg c1]
      by_cases c2 : (r, s1).1 = 2
      · rw [if_pos c2]; exact ⟨_, rfl, lit3, (by show 3 ≤ 3; decide), h4⟩
      · rw [if_neg c2]
        obtain ⟨v1, t1, e1, r1, g1⟩ := tbits_spec l s1 h4 hl
        obtain ⟨v2, t2, e2, r2, g2⟩ := tbits_spec l t1 g1 hl
        refine ⟨([v1, v2], t2), ?_, ?_, (by show 2 ≤ 3; decide), g2⟩
        · show (tilefarmgen_Tape_Bits.f l s1).bind _ = _
          rw [e1, Option.bind_some]
          show (tilefarmgen_Tape_Bits.f l t1).bind _ = _
          rw [e2, Option.bind_some]
        · intro x hx
          simp only [List.mem_cons, List.not_mem_nil, or_false] at hx
          rcases hx with rfl | rfl
          · exact r1
          · exact r2

theorem next_o (l : List Int) (s n : Int) (hs : 0 ≤ s) (hl : l.length ≤ 4611686018427387904) (h : 0 < n) (hn : n ≤ 4611686018427387904) :
    ∃ bt, tilefarmgen_Tape_Next.f l s n = some bt ∧ 0 ≤ bt.1 ∧ bt.1 < n ∧ 0 ≤ bt.2 := by
  obtain ⟨r, s', h1, h2, h3, h4⟩ := next_spec l s n hs hl h hn
  exact ⟨(r, s'), h1, h2, h3, h4⟩

theorem tail_eq (k : Nat) (hk : 200 ≤ k) (x : List Int) (hl : x.length ≤ 35184372088832) (hx : ∀ y ∈ x, 0 ≤ y ∧ y < 18446744073709551616) (s : Int) (R : Option Bool) :
    ((ieee_Quantize.f k x s).bind fun bt226 => ((tilefarmref6_Quantize.f k x s).bind fun bt230 => ((tilefarmref4_Same.f k bt226.1 bt230.1).bind fun t234 => (if t234 = true then (if bt226.2 = bt230.2 then R else (some false)) else (some false))))) = R := by
  obtain ⟨v, v1, v2, v3⟩ := quant_eq k hk x hl hx s
  rw [v1, v2, Option.bind_some, Option.bind_some, same_eq k (by omega) v.1 v3, Option.bind_some, if_pos rfl, if_pos rfl]

theorem law_loop (tl : List Int) (htl : tl.length ≤ 4611686018427387904) (x1 : List Int) (hl : x1.length ≤ 35184372088832) (hx : ∀ y ∈ x1, 0 ≤ y ∧ y < 18446744073709551616) (x2 : Int) (n : Nat) :
    ∀ (k : Nat) (i p : Int), i + n = 6 → 0 ≤ i → n + 300 ≤ k → 0 ≤ p → tilefarmlaw6_IeeeQuantizes.l0 k x1 x2 i tl p = some true := by
  induction n with
  | zero =>
    intro k i p hi h0 hk hp
    obtain ⟨k, rfl⟩ : ∃ m, k = m + 1 := ⟨k - 1, by omega⟩
    have hs : tilefarmlaw6_sane.f k = some true := at_rounds tilefarmlaw6_sane.mono (by omega) sane_eq
    simp only [tilefarmlaw6_IeeeQuantizes.l0]
    rw [if_neg (by omega), hs]
    rfl
  | succ n ih =>
    intro k i p hi h0 hk hp
    obtain ⟨k, rfl⟩ : ∃ m, k = m + 1 := ⟨k - 1, by omega⟩
    have hk2 : 200 ≤ k := by omega
    have hi5 : i < 6 := by omega
    have e1 : wrap64 (i + 1) = i + 1 := wrap_in (by omega) (by omega)
    have again : ∀ q, 0 ≤ q → tilefarmlaw6_IeeeQuantizes.l0 k x1 x2 (i + 1) tl q = some true := fun q hq => ih k (i + 1) q (by omega) (by omega) (by omega) hq
    clear ih hi hk h0
    obtain ⟨a, a1, a2, a3, a4⟩ := third_o tl p hp htl
    obtain ⟨b, b1, b2, b3, b4⟩ := next_o tl a.2 26 a4 htl (by decide) (by decide)
    simp only [tilefarmlaw6_IeeeQuantizes.l0]
    rw [if_pos hi5, a1, Option.bind_some, b1, Option.bind_some]
    simp only [e1]
    by_cases z3 : i = 5
    · rw [if_pos z3]; exact (tail_eq k hk2 x1 hl hx _ _).trans (again _ b4)
    · rw [if_neg z3]; exact (tail_eq k hk2 a.1 (Nat.le_trans a3 (by decide)) a2 _ _).trans (again _ b4)

theorem IeeeQuantizes : tilefarmlaw6_IeeeQuantizes.Pure := by
  intro l l1 a2 hm hm2 hx hm3 hm4 hx2 w2
  have hl : l.length ≤ 4611686018427387904 := by omega
  have hl1 : l1.length ≤ 35184372088832 := by omega
  have hy : ∀ y ∈ l1, 0 ≤ y ∧ y < 18446744073709551616 := fun y h => u64_wf (hx2 y h)
  clear hm hm2 hx hm3 hm4 hx2 w2
  obtain ⟨K, hK⟩ : ∃ K : Nat, 400 ≤ K := ⟨400, Nat.le_refl _⟩
  refine ⟨K, ?_⟩
  unfold tilefarmlaw6_IeeeQuantizes.f tilefarmgen_New.f
  rw [Option.bind_some]
  exact law_loop l hl l1 hl1 hy a2 6 K 0 0 (by decide) (by decide) (by omega) (by decide)


end Go.Proofs.Ytoamkepelnphaaa.Pure
namespace Go.Proofs.Ytoamkepelnphaaa
open Go.ChangeShapes Go.WideShapes
/-- The print's own word, under the name that the printed row uses. -/
theorem PrintWords.sized_ints {H : Type} {enc : TypeId × Value → H} {P : Program} {W : World} {base : Nat} {spare : Nat → Bool} {held : Bool} {t e : TypeId} {k : IntKind} {a : Option Addr} {len cap : Nat} {d : DataW H} {ps : List MemPlace} {ts : List TypeId} {ds : List (DataW H)} {j : Nat}
    (hsz : (DataW.weightsEach P ts ds).all (· ≤ reachBytes) = true) (ht : ts[j]? = some t) (hd : ds[j]? = some d) (hu : P.underlying t = some (.slice e)) (he : P.underlying e = some (.int k)) (hc : P.cellsOf e = 1) {B : Nat} (hB : P.bytesOf e = B)
    (h : DataW.Trod enc P W base spare held t (.slice a len cap) d ps) : len * B ≤ 140737488351232 :=
  Go.Proofs.YtoamkepelnphaaaW.PrintWords.sized_ints hsz ht hd hu he hc hB h
end Go.Proofs.Ytoamkepelnphaaa

/- Parts are exact, and values are ordered as their scaled values: for all made bits. -/
import Derived.Test.YtoamkepelnphaaaPIeeeExactx4
import Derived.Test.YtoamkepelnphaaaWSized
namespace Go.Proofs.Ytoamkepelnphaaa.Pure
open Go.RowKit Go.Proofs.Ytoamkepelnphaaa.PIeeeExact Go.Proofs.YtoamkepelnphaaaW.PrintWords Go.Proofs.YtoamkepelnphaaaW.PrintLast Go.Proofs.YtoamkepelnphaaaW.PrintMore
set_option linter.unusedVariables false
set_option linter.unusedSimpArgs false

theorem wrap_in {n : Int} (h : -9223372036854775808 ≤ n) (h' : n ≤ 9223372036854775807) : wrap64 n = n := by unfold wrap64; omega

theorem tmod_emod (a n : Int) (h : 0 < n) : (0 ≤ Int.tmod a n ∧ Int.tmod a n = a % n) ∨ (Int.tmod a n < 0 ∧ Int.tmod a n + n = a % n) := by
  have h1 := Int.tmod_eq_emod (a := a) (b := n)
  have h2 := Int.emod_nonneg a (by omega : n ≠ 0)
  have h3 := Int.emod_lt_of_pos a h
  split at h1 <;> omega

theorem mod_eq (a n : Int) (h : 0 < n) (hn : n ≤ 4611686018427387904) : tilefarmgen_Mod.f a n = some (a % n) := by
  have h2 := Int.emod_nonneg a (by omega : n ≠ 0)
  have h3 := Int.emod_lt_of_pos a h
  unfold tilefarmgen_Mod.f
  rw [if_neg (by omega)]
  rcases tmod_emod a n h with ⟨h4, h5⟩ | ⟨h4, h5⟩
  · rw [if_neg (by omega), h5]
  · rw [if_pos h4, wrap_in (by omega) (by omega), h5]

theorem sd_true {p : Prop} [Decidable p] (h : p) : some true = some (decide p) := by rw [decide_eq_true h]
theorem sd_false {p : Prop} [Decidable p] (h : ¬ p) : some false = some (decide p) := by rw [decide_eq_false h]
theorem sd_iff {p q : Prop} [Decidable p] [Decidable q] (h : q ↔ p) : some (decide q) = some (decide p) := by rw [decide_eq_decide.2 h]

theorem mx_max (a b : Int) : mx a b = max a b := by unfold mx; omega
theorem mn_min (a b : Int) : mn a b = min a b := by unfold mn; omega

theorem mul_bd {x y B C : Int} (hx : 0 ≤ x) (hy : 0 ≤ y) (hxB : x ≤ B) (hyB : y ≤ C) : 0 ≤ x * y ∧ x * y ≤ B * C :=
  ⟨Int.mul_nonneg hx hy, Int.mul_le_mul hxB hyB hy (by omega)⟩

theorem dec_iff {p q : Prop} [Decidable p] [Decidable q] (h : p ↔ q) : decide p = decide q := decide_eq_decide.2 h
theorem and_not_dec (p q : Prop) [Decidable p] [Decidable q] : (decide p && !decide q) = decide (p ∧ ¬ q) := by
  by_cases hp : p <;> by_cases hq : q <;> simp [hp, hq]

theorem wrap64_range (n : Int) : -9223372036854775808 ≤ wrap64 n ∧ wrap64 n ≤ 9223372036854775807 := by unfold wrap64; omega

theorem wf_range {n : Int} (h : (Lit.int .i64 n).wf = true) : -9223372036854775808 ≤ n ∧ n ≤ 9223372036854775807 := by
  simp only [Lit.wf, IntKind.min, IntKind.max, IntKind.signed, IntKind.bits, Bool.and_eq_true, decide_eq_true_eq, if_true] at h
  omega


theorem next_spec (l : List Int) (s n : Int) (hs : 0 ≤ s) (hl : l.length ≤ 4611686018427387904) (h : 0 < n) (hn : n ≤ 4611686018427387904) :
    ∃ r s', tilefarmgen_Tape_Next.f l s n = some (r, s') ∧ 0 ≤ r ∧ r < n ∧ 0 ≤ s' := by
  unfold tilefarmgen_Tape_Next.f
  rw [if_neg (by omega)]
  by_cases h1 : s ≥ (l.length : Int)
  · rw [if_pos h1]; exact ⟨_, _, rfl, by omega, by omega, hs⟩
  · have e1 : wrap64 (s + 1) = s + 1 := wrap_in (by omega) (by omega)
    have e2 : wrap64 (s + 1 - 1) = s := by rw [wrap_in (by omega) (by omega)]; omega
    rw [if_neg h1]
    simp only [e1, e2]
    rw [if_pos hs, if_pos (by omega), mod_eq _ _ h hn]
    exact ⟨_, _, rfl, Int.emod_nonneg _ (by omega), Int.emod_lt_of_pos _ h, by omega⟩


theorem u64_wrap {n : Int} (h : 0 ≤ n) (h' : n < 18446744073709551616) : IntKind.u64.wrap n = n := by
  simp only [IntKind.wrap, IntKind.bits, IntKind.signed, Bool.false_and, Bool.false_eq_true, if_false]
  omega
theorem u64_and {x : Int} (i : Nat) (hi : i ≤ 64) (h : 0 ≤ x) (h' : x < 18446744073709551616) : Go.bits .and .u64 x (2 ^ i - 1) = x % 2 ^ i :=
  Go.bits_mask .u64 64 (by decide) (fun n h h' => u64_wrap h h') i hi x h h'
theorem u64_andNot (x : Int) : Go.bits .andNot .u64 x 9223372036854775808 = Go.bits .and .u64 x 9223372036854775807 := by
  have e : ~~~(BitVec.ofInt 64 9223372036854775808) = BitVec.ofInt 64 9223372036854775807 := by decide +kernel
  unfold Go.bits
  show IntKind.u64.wrap (((BitVec.ofInt 64 x) &&& ~~~(BitVec.ofInt 64 9223372036854775808)).toNat : Int) = IntKind.u64.wrap (((BitVec.ofInt 64 x) &&& (BitVec.ofInt 64 9223372036854775807)).toNat : Int)
  rw [e]
theorem u64_flip {x : Int} (h : 0 ≤ x) (h' : x < 18446744073709551616) :
    ∃ y, Go.bits .xor .u64 x 9223372036854775808 = y ∧ 0 ≤ y ∧ y < 18446744073709551616 ∧ y % 9223372036854775808 = x % 9223372036854775808 ∧ y / 9223372036854775808 = 1 - x / 9223372036854775808 := by
  obtain ⟨a, rfl⟩ := Int.eq_ofNat_of_zero_le h
  have ha : a < 2 ^ 64 := by omega
  have h1 : (a ^^^ 9223372036854775808) % 2 ^ 63 = a % 2 ^ 63 := by rw [Nat.xor_mod_two_pow]; simp
  have h2 : (a ^^^ 9223372036854775808) / 2 ^ 63 = a / 2 ^ 63 ^^^ 1 := by rw [Nat.xor_div_two_pow]
  have h3 : a ^^^ 9223372036854775808 < 2 ^ 64 := Nat.xor_lt_two_pow ha (by decide)
  have h4 : a / 2 ^ 63 ^^^ 1 = 1 - a / 2 ^ 63 := by
    rcases (by omega : a / 2 ^ 63 = 0 ∨ a / 2 ^ 63 = 1) with e | e <;> rw [e] <;> rfl
  rw [h4] at h2
  refine ⟨((a ^^^ 9223372036854775808 : Nat) : Int), ?_, by omega, by omega, by omega, by omega⟩
  unfold Go.bits
  show IntKind.u64.wrap (((BitVec.ofInt 64 (a : Int)) ^^^ (BitVec.ofInt 64 9223372036854775808)).toNat : Int) = _
  rw [show (9223372036854775808 : Int) = ((9223372036854775808 : Nat) : Int) from rfl, BitVec.ofInt_natCast, BitVec.ofInt_natCast, BitVec.toNat_xor, BitVec.toNat_ofNat, BitVec.toNat_ofNat, Nat.mod_eq_of_lt ha, Nat.mod_eq_of_lt (by decide : 9223372036854775808 < 2 ^ 64)]
  exact u64_wrap (by omega) (by omega)

theorem rd_mem (l : List Int) (i : Nat) (h : i < l.length) : rd l (i : Int) ∈ l := by
  simp [rd, h]

theorem pick_spec (l : List Int) (s : Int) (xs : List Int) (hs : 0 ≤ s) (hl : l.length ≤ 4611686018427387904) (h : 0 < xs.length) (hx : xs.length ≤ 100) :
    ∃ v s', tilefarmgen_Tape_Pick.f l s xs = some (v, s') ∧ v ∈ xs ∧ 0 ≤ s' := by
  obtain ⟨r, s', h1, h2, h3, h4⟩ := next_spec l s (xs.length : Int) hs hl (by omega) (by omega)
  refine ⟨rd xs r, s', ?_, ?_, h4⟩
  · unfold tilefarmgen_Tape_Pick.f
    rw [h1]
    simp only [Option.bind_some]
    rw [if_pos h2, if_pos h3]
  · obtain ⟨n, rfl⟩ := Int.eq_ofNat_of_zero_le h2
    exact rd_mem xs n (by omega)

theorem u64_range (n : Int) : 0 ≤ IntKind.u64.wrap n ∧ IntKind.u64.wrap n < 18446744073709551616 := by
  simp only [IntKind.wrap, IntKind.bits, IntKind.signed, Bool.false_and, Bool.false_eq_true, if_false]
  omega

theorem bits_range (op : BinOp) (x y : Int) : 0 ≤ Go.bits op .u64 x y ∧ Go.bits op .u64 x y < 18446744073709551616 := by
  unfold Go.bits; exact u64_range _

theorem tbits_spec (l : List Int) (s : Int) (hs : 0 ≤ s) (hl : l.length ≤ 4611686018427387904) :
    ∃ v s', tilefarmgen_Tape_Bits.f l s = some (v, s') ∧ (0 ≤ v ∧ v < 18446744073709551616) ∧ 0 ≤ s' := by
  unfold tilefarmgen_Tape_Bits.f
  obtain ⟨r, s1, h1, h2, h3, h4⟩ := next_spec l s 2 hs hl (by decide) (by decide)
  rw [h1]
  simp only [Option.bind_some]
  obtain ⟨r2, s2, g1, g2, g3, g4⟩ := next_spec l s1 9 h4 hl (by decide) (by decide)
  rw [g1]
  simp only [Option.bind_some]
  split
  · exact ⟨_, _, rfl, u64_range _, g4⟩
  · split
    · obtain ⟨v, s3, e1, _, e2⟩ := pick_spec l s2 [1, 2, 2251799813685248, 4503599627370495] g4 hl (by simp) (by simp)
      rw [e1]
      exact ⟨_, _, rfl, bits_range _ _ _, e2⟩
    · split
      · obtain ⟨v, s3, e1, _, e2⟩ := pick_spec l s2 [0, 1, 2251799813685248] g4 hl (by simp) (by simp)
        rw [e1]
        exact ⟨_, _, rfl, bits_range _ _ _, e2⟩
      · split
        · obtain ⟨v, s3, e1, _, e2⟩ := pick_spec l s2 [1023, 1022, 1024, 1038, 1037, 960, 963] g4 hl (by simp) (by simp)
          rw [e1]
          exact ⟨_, _, rfl, bits_range _ _ _, e2⟩
        · split
          · obtain ⟨r3, s3, e1, e2, e3, e4⟩ := next_spec l s2 10 g4 hl (by decide) (by decide)
            rw [e1]
            simp only [Option.bind_some]
            obtain ⟨r4, s4, f1, f2, f3, f4⟩ := next_spec l s3 1048576 e4 hl (by decide) (by decide)
            rw [f1]
            exact ⟨_, _, rfl, bits_range _ _ _, f4⟩
          · obtain ⟨r3, s3, e1, e2, e3, e4⟩ := next_spec l s2 30 g4 hl (by decide) (by decide)
            rw [e1]
            simp only [Option.bind_some]
            obtain ⟨r4, s4, f1, f2, f3, f4⟩ := next_spec l s3 256 e4 hl (by decide) (by decide)
            rw [f1]
            exact ⟨_, _, rfl, bits_range _ _ _, f4⟩

/-- The class of the bits without the sign. -/
def CL (n : Int) : Int := if n / 4503599627370496 = 2047 then (if n % 4503599627370496 = 0 then 3 else 4) else if n / 4503599627370496 = 0 then (if n % 4503599627370496 = 0 then 0 else 1) else 2

theorem split_eq {a : Int} (h : 0 ≤ a) (h' : a < 18446744073709551616) :
    ieee_split.f a = some (decide (a / 9223372036854775808 = 1), a % 9223372036854775808 / 4503599627370496, a % 9223372036854775808 % 4503599627370496) := by
  unfold ieee_split.f
  have h1 := u64_and (x := a / 4503599627370496) 11 (by decide) (by omega) (by omega)
  have h2 := u64_and (x := a) 52 (by decide) h h'
  rw [show ((2 : Int) ^ 11 - 1) = 2047 from rfl] at h1
  rw [show ((2 : Int) ^ 52 - 1) = 4503599627370495 from rfl] at h2
  rw [h1, h2]
  congr 1
  refine Prod.ext ?_ (Prod.ext ?_ ?_)
  · rfl
  · show wrap64 (a / 4503599627370496 % 2 ^ 11) = _
    rw [wrap_in (by omega) (by omega)]; show a / 4503599627370496 % 2 ^ 11 = a % 9223372036854775808 / 4503599627370496; omega
  · show wrap64 (a % 2 ^ 52) = _
    rw [wrap_in (by omega) (by omega)]; show a % 2 ^ 52 = a % 9223372036854775808 % 4503599627370496; omega

theorem class_eq (k : Nat) {a : Int} (h : 0 ≤ a) (h' : a < 18446744073709551616) :
    ieee_Class.f (k + 1) a = some (CL (a % 9223372036854775808)) := by
  unfold ieee_Class.f CL
  rw [split_eq h h']
  generalize a % 9223372036854775808 / 4503599627370496 = e
  generalize a % 9223372036854775808 % 4503599627370496 = f
  simp only [Option.bind_some, ieee_Class.j0]
  by_cases h1 : e = 2047 <;> by_cases h2 : f = 0 <;> by_cases h3 : e = 0 <;> simp [h1, h2, h3]

theorem halves {m m' e e' : Int} (h2 : m % 2 = 0) (q4 : e + 1 ≤ e') (q6 : m / 2 = m' * 2 ^ (e' - (e + 1)).toNat) : m = m' * 2 ^ (e' - e).toNat := by
  rw [show (e' - e).toNat = (e' - (e + 1)).toNat + 1 by omega, Int.pow_succ, ← Int.mul_assoc, ← q6]; omega

/-- The value of the bits without the sign, in units of the least one. -/
def TT (n : Int) : Int := if n / 4503599627370496 = 0 then n % 4503599627370496 else (n % 4503599627370496 + 4503599627370496) * 2 ^ (n / 4503599627370496 - 1).toNat

theorem tt_exact {n m m0 e e0 : Int} (hq : 0 ≤ n / 4503599627370496) (he : e0 ≤ e) (q6 : m0 = m * 2 ^ (e - e0).toNat) (em : m0 = if n / 4503599627370496 = 0 then n % 4503599627370496 else n % 4503599627370496 + 4503599627370496) (ee : e0 = if n / 4503599627370496 = 0 then -1074 else n / 4503599627370496 - 1075) :
    m * 2 ^ (e + 1074).toNat = TT n := by
  unfold TT
  by_cases h : n / 4503599627370496 = 0
  · rw [if_pos h] at em ee ⊢
    rw [← em, q6, ee]
    congr 2
  · rw [if_neg h] at em ee ⊢
    rw [← em, q6, Int.mul_assoc, ← Int.pow_add]
    congr 2
    omega

/-- The loop that halves: an odd number comes out, and the exponent grows by as much. -/
theorem loop_spec : ∀ (d : Nat) (m e : Int), 0 < m → m < 2 ^ d → d ≤ 60 → -2000 ≤ e → e + d ≤ 2000 → ∃ m' e', (0 < m' ∧ m' ≤ m ∧ m' % 2 = 1 ∧ e ≤ e' ∧ e' ≤ e + d ∧ m = m' * 2 ^ (e' - e).toNat) ∧ ∀ k sg, d + 1 ≤ k → ieee_Parts.l0 k sg e m = some (if sg = true then -m' else m', e', true) := by
  intro d
  induction d with
  | zero => intro m e h h' _ _ _; exfalso; simp at h'; omega
  | succ d ih =>
    intro m e h h' hd he he'
    have hp : (2 : Int) ^ (d + 1) = 2 * 2 ^ d := by rw [Int.pow_succ]; omega
    have hq : (2 : Int) ^ (d + 1) ≤ 2 ^ 60 := by
      have := Nat.pow_le_pow_right (show 0 < 2 by decide) hd
      exact_mod_cast this
    have hr : (2 : Int) ^ 60 = 1152921504606846976 := rfl
    have ht : Int.tmod m 2 = m % 2 := Int.tmod_eq_emod_of_nonneg (by omega)
    have hv : Int.tdiv m 2 = m / 2 := Int.tdiv_eq_ediv_of_nonneg (by omega)
    by_cases h2 : m % 2 = 0
    · obtain ⟨m', e', ⟨q1, q2, q3, q4, q5, q6⟩, hk⟩ := ih (m / 2) (e + 1) (by omega) (by omega) (by omega) (by omega) (by omega)
      refine ⟨m', e', ⟨q1, by omega, q3, by omega, by omega, halves h2 q4 q6⟩, fun k sg hk' => ?_⟩
      obtain ⟨k, rfl⟩ : ∃ j, k = j + 1 := ⟨k - 1, by omega⟩
      simp only [ieee_Parts.l0]
      rw [if_pos (by rw [ht]; exact h2), hv, wrap_in (n := e + 1) (by omega) (by omega), wrap_in (n := m / 2) (by omega) (by omega)]
      exact hk k sg (by omega)
    · refine ⟨m, e, ⟨h, by omega, by omega, by omega, by omega, by rw [Int.sub_self]; simp⟩, fun k sg hk' => ?_⟩
      obtain ⟨k, rfl⟩ : ∃ j, k = j + 1 := ⟨k - 1, by omega⟩
      simp only [ieee_Parts.l0]
      rw [if_neg (by rw [ht]; exact h2), wrap_in (by omega) (by omega)]
      split <;> rfl

/-- The parts: the same in both programs, and for both signs. -/
theorem parts_spec (n : Int) (hn : 0 ≤ n) (hn' : n < 9223372036854775808) : ∃ (m e : Int) (ok : Bool),
    ((CL n ≤ 2) ↔ ok = true) ∧ (CL n = 0 ↔ ok = true ∧ m = 0) ∧ (m = 0 ∧ e = 0 ∨ ok = true ∧ 0 < m ∧ m < 9007199254740992 ∧ m % 2 = 1 ∧ -1074 ≤ e ∧ e ≤ 1100) ∧ (ok = true → m * 2 ^ (e + 1074).toNat = TT n) ∧
    ∀ k a, 70 ≤ k → 0 ≤ a → a < 18446744073709551616 → a % 9223372036854775808 = n →
      ieee_Parts.f k a = some (if a / 9223372036854775808 = 1 then -m else m, e, ok) := by
  have main : ∀ (m0 e0 : Int), 0 < m0 → m0 < 2 ^ 53 → -1074 ≤ e0 → e0 ≤ 972 → (n / 4503599627370496 ≠ 2047) → (n / 4503599627370496 = 0 → n % 4503599627370496 ≠ 0) →
      (m0 = if n / 4503599627370496 = 0 then n % 4503599627370496 else n % 4503599627370496 + 4503599627370496) → (e0 = if n / 4503599627370496 = 0 then -1074 else n / 4503599627370496 - 1075) → ∃ (m e : Int) (ok : Bool),
      ((CL n ≤ 2) ↔ ok = true) ∧ (CL n = 0 ↔ ok = true ∧ m = 0) ∧ (m = 0 ∧ e = 0 ∨ ok = true ∧ 0 < m ∧ m < 9007199254740992 ∧ m % 2 = 1 ∧ -1074 ≤ e ∧ e ≤ 1100) ∧ (ok = true → m * 2 ^ (e + 1074).toNat = TT n) ∧
      ∀ k a, 70 ≤ k → 0 ≤ a → a < 18446744073709551616 → a % 9223372036854775808 = n →
        ieee_Parts.f k a = some (if a / 9223372036854775808 = 1 then -m else m, e, ok) := by
    intro m0 e0 hm hm' he he' c1 c2 em ee
    obtain ⟨m, e, ⟨q1, q2, q3, q4, q5, q6⟩, hk⟩ := loop_spec 53 m0 e0 hm hm' (by decide) (by omega) (by omega)
    have h53 : (2 : Int) ^ 53 = 9007199254740992 := rfl
    have hc : CL n = if n / 4503599627370496 = 0 then 1 else 2 := by
      unfold CL
      rw [if_neg c1]
      by_cases h : n / 4503599627370496 = 0
      · rw [if_pos h, if_pos h, if_neg (c2 h)]
      · rw [if_neg h, if_neg h]
    refine ⟨m, e, true, ⟨fun _ => rfl, fun _ => by rw [hc]; split <;> decide⟩, ⟨fun h => ?_, fun h => ?_⟩, .inr ⟨rfl, q1, by omega, q3, by omega, by omega⟩, fun _ => tt_exact (by omega) q4 q6 em ee, fun k a hk' h h' ha => ?_⟩
    · exfalso; rw [hc] at h; split at h <;> exact absurd h (by decide)
    · exfalso; omega
    · obtain ⟨k, rfl⟩ : ∃ j, k = j + 1 + 1 := ⟨k - 2, by omega⟩
      have hkA := hk (k + 1) (decide (a / 9223372036854775808 = 1)) (by omega)
      simp only [decide_eq_true_eq] at hkA
      unfold ieee_Parts.f
      rw [split_eq h h', (class_eq (k + 1) h h'), ha, hc]
      simp only [Option.bind_some, ieee_Parts.j0]
      have n1 : 0 ≤ n / 4503599627370496 := by omega
      have n2 : 0 ≤ n % 4503599627370496 := by omega
      have n3 : n % 4503599627370496 < 4503599627370496 := by omega
      have n4 : n / 4503599627370496 < 2048 := by omega
      generalize n / 4503599627370496 = x at c1 c2 em ee n1 n4 ⊢
      generalize n % 4503599627370496 = f at c2 em ee n2 n3 ⊢
      by_cases h : x = 0
      · subst h
        rw [if_pos rfl] at em ee
        subst em ee
        simp only [if_true, show ¬ ((1 : Int) = 0) by decide, show ¬ ((1 : Int) > 2) by decide, show ¬ ((0 : Int) > 0) by decide, if_false, if_neg (show ¬ m0 = 0 by omega), show wrap64 (1 - 1075) = -1074 from by decide +kernel]
        exact hkA
      · rw [if_neg h] at em ee
        have w1 : wrap64 (x - 1075) = e0 := by rw [wrap_in (by omega) (by omega), ee]
        have w2 : wrap64 (f + 4503599627370496) = m0 := by rw [wrap_in (by omega) (by omega), em]
        simp only [if_neg h, show ¬ ((2 : Int) = 0) by decide, show ¬ ((2 : Int) = 1) by decide, show ¬ ((2 : Int) > 2) by decide, if_true, if_false, if_pos (show x > 0 by omega), w1, w2, if_neg (show ¬ m0 = 0 by omega)]
        exact hkA
  by_cases c1 : n / 4503599627370496 = 2047
  · refine ⟨0, 0, false, ⟨fun h => ?_, fun h => by cases h⟩, ⟨fun h => ?_, fun h => by cases h.1⟩, .inl ⟨rfl, rfl⟩, (fun h => by cases h), fun k a hk' h h' ha => ?_⟩
    · unfold CL at h; rw [if_pos c1] at h; split at h <;> exact absurd h (by decide)
    · unfold CL at h; rw [if_pos c1] at h; split at h <;> exact absurd h (by decide)
    · obtain ⟨k, rfl⟩ : ∃ j, k = j + 1 + 1 := ⟨k - 2, by omega⟩
      unfold ieee_Parts.f
      rw [split_eq h h', (class_eq (k + 1) h h'), ha]
      have hc : CL n = 3 ∨ CL n = 4 := by unfold CL; rw [if_pos c1]; split <;> simp
      rcases hc with hc | hc <;> rw [hc] <;> simp
  · by_cases c2 : n / 4503599627370496 = 0
    · by_cases c3 : n % 4503599627370496 = 0
      · have hc : CL n = 0 := by unfold CL; rw [if_neg c1, if_pos c2, if_pos c3]
        refine ⟨0, 0, true, ⟨fun _ => rfl, fun _ => by rw [hc]; decide⟩, ⟨fun _ => ⟨rfl, rfl⟩, fun _ => hc⟩, .inl ⟨rfl, rfl⟩, fun _ => by unfold TT; rw [if_pos c2, c3]; exact Int.zero_mul _, fun k a hk' h h' ha => ?_⟩
        obtain ⟨k, rfl⟩ : ∃ j, k = j + 1 + 1 := ⟨k - 2, by omega⟩
        unfold ieee_Parts.f
        rw [split_eq h h', (class_eq (k + 1) h h'), ha, hc, c2, c3]
        simp
      · exact main (n % 4503599627370496) (-1074) (by omega) (by omega) (by omega) (by omega) c1 (fun _ => c3) (by rw [if_pos c2]) (by rw [if_pos c2])
    · exact main (n % 4503599627370496 + 4503599627370496) (n / 4503599627370496 - 1075) (by omega) (by omega) (by omega) (by omega) c1 (fun h => absurd h c2) (by rw [if_neg c2]) (by rw [if_neg c2])

def FIN (v : Int) : Int × Int := if v > 32767 then (0, 3) else (v, 0)

theorem fin2 (k : Nat) (p : Prop) [Decidable p] (M v : Int) (hM : M < 0 ↔ p) (hv : 0 ≤ v) :
    ieee_Scale.j2 (k + 1) M v = some (if p then -(FIN v).1 else (FIN v).1, (FIN v).2) := by
  simp only [ieee_Scale.j2, FIN]
  by_cases h : v > 32767
  · simp [h]
  · simp only [if_neg h]
    by_cases hp : p
    · rw [if_pos (hM.2 hp), if_pos hp, wrap_in (by omega) (by omega)]
    · rw [if_neg (fun x => hp (hM.1 x)), if_neg hp]

theorem i64_and {x : Int} (i : Nat) (hi : i ≤ 63) (h : 0 ≤ x) (h' : x < 9223372036854775808) : Go.bits .and .i64 x (2 ^ i - 1) = x % 2 ^ i :=
  Go.bits_mask .i64 63 (by decide) (fun n h h' => by rw [Go.IntKind.wrap_i64]; omega) i hi x h h'

/-- A power of two, as the shifts tell it. -/
theorem pow_facts (t : Int) (h : 0 ≤ t) (h' : t ≤ 60) : 1 ≤ (2 : Int) ^ t.toNat ∧ (2 : Int) ^ t.toNat ≤ 1152921504606846976 ∧ min t.toNat 64 = t.toNat := by
  have h1 : 2 ^ t.toNat ≤ 2 ^ 60 := Nat.pow_le_pow_right (by decide) (by omega)
  have h2 : 1 ≤ 2 ^ t.toNat := Nat.one_le_two_pow
  have e : (2 : Int) ^ t.toNat = ((2 ^ t.toNat : Nat) : Int) := by rw [Int.natCast_pow]; rfl
  rw [show (2 : Nat) ^ 60 = 1152921504606846976 from rfl] at h1
  rw [e]
  generalize 2 ^ t.toNat = q at h1 h2 ⊢
  omega

theorem shl_one (t : Int) (h : 0 ≤ t) (h' : t ≤ 60) : shl .i64 1 t = 2 ^ t.toNat := by
  obtain ⟨h1, h2, h3⟩ := pow_facts t h h'
  unfold shl
  rw [show IntKind.i64.bits = 64 from rfl, h3, Int.one_mul, Go.IntKind.wrap_i64]
  omega

theorem shr_pow (x t : Int) (h : 0 ≤ t) (h' : t ≤ 60) : shr .i64 x t = x / 2 ^ t.toNat := by
  unfold shr
  rw [show IntKind.i64.bits = 64 from rfl, (pow_facts t h h').2.2]

theorem shl_pow (x t : Int) (h : 0 ≤ t) (h' : t ≤ 60) (hx : 0 ≤ x * 2 ^ t.toNat) (hx' : x * 2 ^ t.toNat < 9223372036854775808) : shl .i64 x t = x * 2 ^ t.toNat := by
  unfold shl
  rw [show IntKind.i64.bits = 64 from rfl, (pow_facts t h h').2.2, Go.IntKind.wrap_i64]
  omega

/-- The scaled magnitude: the nearest integer, halves to even. -/
def SC (m E : Int) : Int × Int :=
  if m = 0 then (0, 0) else if E > 15 then (0, 3) else if E ≥ 0 then FIN (m * 2 ^ E.toNat) else if E < -60 then (0, 0)
  else FIN (if m % 2 ^ (-E).toNat > 2 ^ (-E - 1).toNat then m / 2 ^ (-E).toNat + 1 else if m % 2 ^ (-E).toNat = 2 ^ (-E - 1).toNat then (if m / 2 ^ (-E).toNat % 2 = 1 then m / 2 ^ (-E).toNat + 1 else m / 2 ^ (-E).toNat) else m / 2 ^ (-E).toNat)

theorem sc_ieee (k : Nat) (p : Prop) [Decidable p] (m E M : Int) (hm : 0 ≤ m) (hm' : m < 9007199254740992) (hE : -2000 ≤ E) (hE' : E ≤ 2000) (h0 : m = 0 → 0 ≤ E ∧ E ≤ 24) (hM : M = if p then -m else m) :
    (if E > 16 then (ieee_Scale.j0 (k + 3) M E m (decide (m > 0))) else (ieee_Scale.j0 (k + 3) M E m false)) = some (if p then -(SC m E).1 else (SC m E).1, (SC m E).2) := by
  by_cases z : m = 0
  · subst z
    obtain ⟨e0, e1⟩ := h0 rfl
    have hM0 : M = 0 := by rw [hM]; split <;> rfl
    subst hM0
    have hsh : ¬ (0 : Int) > shr .i64 32767 E := by
      rw [shr_pow _ _ (by omega) (by omega)]
      have := Int.ediv_nonneg (show (0 : Int) ≤ 32767 by decide) (show (0 : Int) ≤ 2 ^ E.toNat by have := (pow_facts E (by omega) (by omega)).1; omega)
      omega
    have hs0 : shl .i64 0 E = 0 := by unfold shl; rw [Int.zero_mul]; rfl
    have hd : decide ((0 : Int) > 0) = false := by decide
    have hf : ieee_Scale.j2 (k + 1) 0 0 = some (0, 0) := by simp [ieee_Scale.j2]
    simp only [hd, ieee_Scale.j0, ieee_Scale.j1, Bool.false_eq_true, if_false, if_pos (show E ≥ 0 by omega), if_pos (show 0 ≤ E by omega), decide_eq_false hsh, hs0, hf, SC, if_true, Int.neg_zero, ite_self]
  · have hlt : M < 0 ↔ p := by
      rw [hM]
      by_cases hp : p
      · rw [if_pos hp]; exact ⟨fun _ => hp, fun _ => by omega⟩
      · rw [if_neg hp]; exact ⟨fun h => by omega, fun h => absurd h hp⟩
    by_cases c1 : E > 16
    · have hSC : SC m E = (0, 3) := by unfold SC; rw [if_neg z, if_pos (by omega)]
      rw [if_pos c1, hSC, decide_eq_true (show m > 0 by omega)]
      simp [ieee_Scale.j0]
    · rw [if_neg c1]
      by_cases c2 : E ≥ 0
      · simp only [ieee_Scale.j0, Bool.false_eq_true, if_false, if_pos c2, if_pos (show 0 ≤ E from c2)]
        rw [shr_pow _ _ (by omega) (by omega)]
        obtain ⟨q1, q2, q3⟩ := pow_facts E (by omega) (by omega)
        have hq : m ≤ 32767 / 2 ^ E.toNat ↔ m * 2 ^ E.toNat ≤ 32767 := Int.le_ediv_iff_mul_le (by omega)
        by_cases c3 : m > 32767 / 2 ^ E.toNat
        · rw [decide_eq_true c3]
          have hSC : SC m E = (0, 3) := by
            unfold SC
            rw [if_neg z]
            by_cases c4 : E > 15
            · rw [if_pos c4]
            · rw [if_neg c4, if_pos c2]
              unfold FIN
              rw [if_pos (by have := mt hq.2 (by omega); omega)]
          rw [hSC]
          simp [ieee_Scale.j1]
        · rw [decide_eq_false c3]
          have hle : m * 2 ^ E.toNat ≤ 32767 := hq.1 (by omega)
          have hge : 0 ≤ m * 2 ^ E.toNat := Int.mul_nonneg hm (by omega)
          have hE15 : ¬ E > 15 := by
            intro h
            have : E = 16 := by omega
            subst this
            have : (2 : Int) ^ (16 : Int).toNat = 65536 := rfl
            rw [this] at hle
            omega
          have hSC : SC m E = FIN (m * 2 ^ E.toNat) := by
            unfold SC
            rw [if_neg z, if_neg hE15, if_pos c2]
          simp only [ieee_Scale.j1, Bool.false_eq_true, if_false, if_pos c2, if_pos (show 0 ≤ E from c2)]
          rw [shl_pow _ _ (by omega) (by omega) hge (by omega), hSC]
          exact fin2 _ p M _ hlt hge
      · simp only [ieee_Scale.j0, ieee_Scale.j1, Bool.false_eq_true, if_false, if_neg c2]
        by_cases c3 : E < -60
        · have hSC : SC m E = FIN 0 := by unfold SC; rw [if_neg z, if_neg (by omega), if_neg c2, if_pos c3]; rfl
          rw [if_pos c3, hSC]
          exact fin2 _ p M 0 hlt (by decide)
        · have hSC : SC m E = FIN (if m % 2 ^ (-E).toNat > 2 ^ (-E - 1).toNat then m / 2 ^ (-E).toNat + 1 else if m % 2 ^ (-E).toNat = 2 ^ (-E - 1).toNat then (if m / 2 ^ (-E).toNat % 2 = 1 then m / 2 ^ (-E).toNat + 1 else m / 2 ^ (-E).toNat) else m / 2 ^ (-E).toNat) := by
            unfold SC; rw [if_neg z, if_neg (by omega), if_neg c2, if_neg c3]
          rw [if_neg c3, hSC, wrap_in (n := -E) (by omega) (by omega), wrap_in (n := -E - 1) (by omega) (by omega), if_pos (by omega), if_pos (by omega),
            shl_one (-E) (by omega) (by omega), shl_one (-E - 1) (by omega) (by omega), shr_pow _ _ (by omega) (by omega)]
          obtain ⟨q1, q2, q3⟩ := pow_facts (-E) (by omega) (by omega)
          rw [wrap_in (n := 2 ^ (-E).toNat - 1) (by omega) (by omega), i64_and (-E).toNat (by omega) (by omega) (by omega)]
          have b0 : 0 ≤ m / 2 ^ (-E).toNat := Int.ediv_nonneg hm (by omega)
          have b1 : m / 2 ^ (-E).toNat ≤ m := Int.ediv_le_self _ hm
          rw [Int.tmod_eq_emod_of_nonneg b0, wrap_in (n := m / 2 ^ (-E).toNat + 1) (by omega) (by omega)]
          generalize m / 2 ^ (-E).toNat = q at b0 b1 ⊢
          generalize m % 2 ^ (-E).toNat = r
          by_cases d1 : r > 2 ^ (-E - 1).toNat
          · simp only [if_pos d1]
            exact fin2 _ p M _ hlt (by omega)
          · simp only [if_neg d1]
            by_cases d2 : r = 2 ^ (-E - 1).toNat
            · simp only [if_pos d2]
              by_cases d3 : q % 2 = 1
              · simp only [if_pos d3]
                exact fin2 _ p M _ hlt (by omega)
              · simp only [if_neg d3]
                exact fin2 _ p M _ hlt (by omega)
            · simp only [if_neg d2]
              exact fin2 _ p M _ hlt (by omega)

/-- The scaled value of bits whose parts are told. -/
theorem scale_ieee (k : Nat) (a s m e : Int) (ok : Bool) (hs : -9223372036854775808 ≤ s) (hs' : s ≤ 9223372036854775807)
    (hme : m = 0 ∧ e = 0 ∨ ok = true ∧ 0 < m ∧ m < 9007199254740992 ∧ m % 2 = 1 ∧ -1074 ≤ e ∧ e ≤ 1100)
    (hp : ieee_Parts.f (k + 3) a = some (if a / 9223372036854775808 = 1 then -m else m, e, ok)) :
    ieee_Scale.f (k + 3) a s = if 0 ≤ s ∧ s ≤ 24 then (if ok = true then some (if a / 9223372036854775808 = 1 then -(SC m (e + s)).1 else (SC m (e + s)).1, (SC m (e + s)).2) else some (0, 1)) else some (0, 2) := by
  unfold ieee_Scale.f ieee_shiftable.f
  by_cases hs0 : 0 ≤ s ∧ s ≤ 24
  · rw [if_pos hs0, if_pos (show s ≥ 0 by omega), decide_eq_true (show s ≤ 24 by omega)]
    simp only [Option.bind_some, if_true, hp]
    cases ok with
    | false => simp
    | true =>
      have w : mx (if a / 9223372036854775808 = 1 then -m else m) (wrap64 (-(if a / 9223372036854775808 = 1 then -m else m))) = m := by
        rw [mx_max]
        split
        · rw [wrap_in (by omega) (by omega)]; omega
        · rw [wrap_in (by omega) (by omega)]; omega
      simp only [if_true, w, wrap_in (n := e + s) (by omega) (by omega)]
      exact sc_ieee k _ m (e + s) _ (by omega) (by omega) (by omega) (by omega) (by omega) rfl
  · rw [if_neg hs0]
    by_cases h1 : s ≥ 0
    · have h2 : ¬ s ≤ 24 := by omega
      simp [h1, h2]
    · simp [h1]

theorem tt_mono {n n' : Int} (h0 : 0 ≤ n) (h : n ≤ n') : TT n ≤ TT n' := by
  have q0 : 0 ≤ n / 4503599627370496 := by omega
  have q1 : n / 4503599627370496 ≤ n' / 4503599627370496 := by omega
  have f0 : 0 ≤ n % 4503599627370496 ∧ n % 4503599627370496 < 4503599627370496 := by omega
  have f1 : 0 ≤ n' % 4503599627370496 ∧ n' % 4503599627370496 < 4503599627370496 := by omega
  have f2 : n / 4503599627370496 = n' / 4503599627370496 → n % 4503599627370496 ≤ n' % 4503599627370496 := by omega
  unfold TT
  generalize n / 4503599627370496 = q at q0 q1 f2 ⊢
  generalize n' / 4503599627370496 = q' at q1 f2 ⊢
  generalize n % 4503599627370496 = f at f0 f2 ⊢
  generalize n' % 4503599627370496 = f' at f1 f2 ⊢
  clear h0 h
  have pp : ∀ i : Nat, (1 : Int) ≤ 2 ^ i := fun i => by
    have := Nat.one_le_two_pow (n := i)
    have e : (2 : Int) ^ i = ((2 ^ i : Nat) : Int) := by rw [Int.natCast_pow]; rfl
    rw [e]; omega
  by_cases c : q = q'
  · subst c
    have := f2 rfl
    split
    · exact this
    · exact Int.mul_le_mul_of_nonneg_right (by omega) (Int.le_trans (by decide) (pp _))
  · rw [if_neg (show ¬ q' = 0 by omega)]
    have hb : 4503599627370496 * 2 ^ (q' - 1).toNat ≤ (f' + 4503599627370496) * 2 ^ (q' - 1).toNat := Int.mul_le_mul_of_nonneg_right (by omega) (Int.le_trans (by decide) (pp _))
    split
    · have := Int.mul_le_mul_of_nonneg_left (pp (q' - 1).toNat) (show (0 : Int) ≤ 4503599627370496 by decide)
      omega
    · next hq =>
      have e1 : (q' - 1).toNat = (q - 1).toNat + 1 + (q' - 1 - q).toNat := by omega
      have h1 : (f + 4503599627370496) * 2 ^ (q - 1).toNat ≤ (2 * 4503599627370496) * 2 ^ (q - 1).toNat := Int.mul_le_mul_of_nonneg_right (by omega) (Int.le_trans (by decide) (pp _))
      have h2 : (2 * 4503599627370496 : Int) * 2 ^ (q - 1).toNat = 4503599627370496 * 2 ^ ((q - 1).toNat + 1) := by rw [Int.pow_succ]; omega
      have h3 : (2 : Int) ^ ((q - 1).toNat + 1) * 1 ≤ 2 ^ ((q - 1).toNat + 1) * 2 ^ (q' - 1 - q).toNat := Int.mul_le_mul_of_nonneg_left (pp _) (Int.le_trans (by decide) (pp _))
      rw [← Int.pow_add, ← e1, Int.mul_one] at h3
      have h4 := Int.mul_le_mul_of_nonneg_left h3 (show (0 : Int) ≤ 4503599627370496 by decide)
      rw [h2] at h1
      exact Int.le_trans h1 (Int.le_trans h4 hb)

def RN (D T : Int) : Int := if T % D * 2 > D then T / D + 1 else if T % D * 2 = D then (if T / D % 2 = 1 then T / D + 1 else T / D) else T / D

theorem rn_mono {D T T' : Int} (hD : 0 < D) (h : T ≤ T') : RN D T ≤ RN D T' := by
  have q : T / D ≤ T' / D := Int.ediv_le_ediv hD h
  have e1 : T / D = T' / D → T % D ≤ T' % D := by
    intro e
    have h1 := Int.mul_ediv_add_emod T D
    have h2 := Int.mul_ediv_add_emod T' D
    rw [e] at h1
    omega
  unfold RN
  generalize T / D = x at q e1 ⊢
  generalize T' / D = y at q e1 ⊢
  generalize T % D = r at e1 ⊢
  generalize T' % D = r' at e1 ⊢
  clear h
  by_cases c : x = y
  · have := e1 c
    subst c
    clear e1 q
    repeat' split
    all_goals omega
  · have : x + 1 ≤ y := by omega
    clear e1 q c
    repeat' split
    all_goals omega

theorem fin_ok {v : Int} (h : (FIN v).2 = 0) : (FIN v).1 = v ∧ v ≤ 32767 := by
  unfold FIN at h ⊢
  by_cases c : v > 32767
  · rw [if_pos c] at h; exact absurd h (by decide)
  · rw [if_neg c]; exact ⟨rfl, by omega⟩

theorem pow_pos' (i : Nat) : (0 : Int) < 2 ^ i := Int.pow_pos (by decide)

theorem rn_zero (D T : Int) (h0 : 0 ≤ T) (h : T * 2 < D) : RN D T = 0 := by
  unfold RN
  rw [Int.emod_eq_of_lt h0 (by omega), Int.ediv_eq_zero_of_lt h0 (by omega), if_neg (by omega), if_neg (by omega)]

theorem rn_whole (D v : Int) (hD : 0 < D) : RN D (v * D) = v := by
  unfold RN
  rw [Int.mul_emod_left, Int.mul_ediv_cancel _ (by omega), if_neg (by omega), if_neg (by omega)]

theorem rn_part (P H m : Int) (hP : 0 < P) (hH : 0 < H) : RN (P * (H * 2)) (P * m) = (if m % (H * 2) > H then m / (H * 2) + 1 else if m % (H * 2) = H then (if m / (H * 2) % 2 = 1 then m / (H * 2) + 1 else m / (H * 2)) else m / (H * 2)) := by
  unfold RN
  rw [Int.mul_ediv_mul_of_pos _ _ hP, Int.mul_emod_mul_of_pos _ _ hP]
  have h1 : (P * (m % (H * 2)) * 2 > P * (H * 2)) ↔ m % (H * 2) > H := by
    rw [Int.mul_assoc]
    constructor
    · intro h; have := Int.lt_of_mul_lt_mul_left h (Int.le_of_lt hP); omega
    · intro h; exact Int.mul_lt_mul_of_pos_left (by omega) hP
  have h2 : (P * (m % (H * 2)) * 2 = P * (H * 2)) ↔ m % (H * 2) = H := by
    rw [Int.mul_assoc]
    constructor
    · intro h; have := Int.eq_of_mul_eq_mul_left (Int.ne_of_gt hP) h; omega
    · intro h; rw [h]
  simp only [h1, h2]

/-- What is scaled without an error is the rounded value. -/
theorem sc_rn (m e s : Int) (hm : 0 ≤ m) (hm' : m < 9007199254740992) (he : -1074 ≤ e) (hs : 0 ≤ s) (hs' : s ≤ 24) (hc : (SC m (e + s)).2 = 0) :
    (SC m (e + s)).1 = RN (2 ^ (1074 - s).toNat) (m * 2 ^ (e + 1074).toNat) := by
  unfold SC at hc ⊢
  by_cases z : m = 0
  · rw [if_pos z, z, Int.zero_mul, rn_zero _ _ (by decide) (by rw [Int.zero_mul]; exact pow_pos' _)]
  · rw [if_neg z] at hc ⊢
    by_cases c1 : e + s > 15
    · rw [if_pos c1] at hc; exact absurd hc (by decide)
    · rw [if_neg c1] at hc ⊢
      by_cases c2 : e + s ≥ 0
      · rw [if_pos c2] at hc ⊢
        rw [(fin_ok hc).1, show (e + 1074).toNat = (e + s).toNat + (1074 - s).toNat by omega, Int.pow_add, ← Int.mul_assoc, rn_whole _ _ (pow_pos' _)]
      · rw [if_neg c2] at hc ⊢
        by_cases c3 : e + s < -60
        · rw [if_pos c3]
          have e1 : (1074 - s).toNat = (e + 1074).toNat + (54 + (1074 - s - e - 1074 - 54).toNat) := by omega
          rw [rn_zero _ _ (Int.mul_nonneg hm (Int.le_of_lt (pow_pos' _)))]
          rw [e1, Int.pow_add, Int.mul_comm m, Int.mul_assoc]
          refine Int.mul_lt_mul_of_pos_left ?_ (pow_pos' _)
          rw [Int.pow_add]
          have := pow_pos' (1074 - s - e - 1074 - 54).toNat
          have h54 : (2 : Int) ^ 54 = 18014398509481984 := rfl
          rw [h54]
          generalize (2 : Int) ^ (1074 - s - e - 1074 - 54).toNat = y at this ⊢
          omega
        · rw [if_neg c3] at hc ⊢
          rw [(fin_ok hc).1]
          have e1 : (1074 - s).toNat = (e + 1074).toNat + ((-(e + s) - 1).toNat + 1) := by omega
          have e2 : (-(e + s)).toNat = (-(e + s) - 1).toNat + 1 := by omega
          rw [e1, Int.pow_add, Int.pow_succ _ (-(e + s) - 1).toNat, e2, Int.pow_succ _ (-(e + s) - 1).toNat, Int.mul_comm m, rn_part _ _ _ (pow_pos' _) (pow_pos' _)]

theorem sane_eq : tilefarmlaw6_sane.f 100 = some true := by decide +kernel

theorem order_eq {a : Int} (h : 0 ≤ a) (h' : a < 18446744073709551616) : ieee_order.f a = some (if a / 9223372036854775808 = 1 then -(a % 9223372036854775808) else a % 9223372036854775808) := by
  unfold ieee_order.f
  have := u64_and (x := a) 63 (by decide) h h'
  rw [show ((2 : Int) ^ 63 - 1) = 9223372036854775807 from rfl, show ((2 : Int) ^ 63) = 9223372036854775808 from rfl] at this
  rw [u64_andNot, this, wrap_in (n := a % 9223372036854775808) (by omega) (by omega), wrap_in (n := -(a % 9223372036854775808)) (by omega) (by omega)]
  split <;> rfl

theorem class_at (k : Nat) (hk : 1 ≤ k) {a : Int} (h : 0 ≤ a) (h' : a < 18446744073709551616) : ieee_Class.f k a = some (CL (a % 9223372036854775808)) := by
  obtain ⟨k, rfl⟩ : ∃ j, k = j + 1 := ⟨k - 1, by omega⟩
  exact class_eq k h h'

/-- What one value's parts tell. -/
structure PartsOf (n m e : Int) (ok : Bool) : Prop where
  cl : (CL n ≤ 2) ↔ ok = true
  me : m = 0 ∧ e = 0 ∨ ok = true ∧ 0 < m ∧ m < 9007199254740992 ∧ m % 2 = 1 ∧ -1074 ≤ e ∧ e ≤ 1100
  tt : ok = true → m * 2 ^ (e + 1074).toNat = TT n

def neg (p : Prop) [Decidable p] (x : Int) : Int := if p then -x else x

def scaled (p : Prop) [Decidable p] (m e s : Int) (ok : Bool) : Int × Int := if ok = true then (neg p (SC m (e + s)).1, (SC m (e + s)).2) else (0, 1)

theorem scale_at (k : Nat) (hk : 3 ≤ k) (a s m e : Int) (ok : Bool) (hs : 0 ≤ s) (hs' : s ≤ 24) {n : Int} (hP : PartsOf n m e ok)
    (hp : ieee_Parts.f k a = some (neg (a / 9223372036854775808 = 1) m, e, ok)) :
    ieee_Scale.f k a s = some (scaled (a / 9223372036854775808 = 1) m e s ok) := by
  obtain ⟨k, rfl⟩ : ∃ j, k = j + 3 := ⟨k - 3, by omega⟩
  rw [scale_ieee k a s m e ok (by omega) (by omega) hP.me hp, if_pos ⟨hs, hs'⟩]
  unfold scaled
  split <;> rfl

theorem cmp_at (k : Nat) (hk : 1 ≤ k) {a b : Int} (h : 0 ≤ a) (h' : a < 18446744073709551616) (g : 0 ≤ b) (g' : b < 18446744073709551616)
    (ca : CL (a % 9223372036854775808) ≤ 2) (cb : CL (b % 9223372036854775808) ≤ 2) :
    ∃ c, ieee_Compare.f k a b = some (c, true) ∧
      (c ≤ 0 → neg (a / 9223372036854775808 = 1) (a % 9223372036854775808) ≤ neg (b / 9223372036854775808 = 1) (b % 9223372036854775808)) ∧
      (c ≥ 0 → neg (b / 9223372036854775808 = 1) (b % 9223372036854775808) ≤ neg (a / 9223372036854775808 = 1) (a % 9223372036854775808)) := by
  obtain ⟨k, rfl⟩ : ∃ j, k = j + 1 := ⟨k - 1, by omega⟩
  have oa : ieee_order.f a = some (neg (a / 9223372036854775808 = 1) (a % 9223372036854775808)) := order_eq h h'
  have ob : ieee_order.f b = some (neg (b / 9223372036854775808 = 1) (b % 9223372036854775808)) := order_eq g g'
  unfold ieee_Compare.f
  rw [class_eq k h h', class_eq k g g']
  simp only [Option.bind_some]
  generalize CL (a % 9223372036854775808) = x at ca ⊢
  generalize CL (b % 9223372036854775808) = y at cb ⊢
  generalize neg (a / 9223372036854775808 = 1) (a % 9223372036854775808) = u at oa ⊢
  generalize neg (b / 9223372036854775808 = 1) (b % 9223372036854775808) = v at ob ⊢
  rw [if_neg (by omega), beq_eq_false_iff_ne.2 (show y ≠ 4 by omega)]
  simp only [ieee_Compare.j0, Bool.false_eq_true, if_false, oa, ob, Option.bind_some]
  clear oa ob h h' g g' ca cb
  by_cases c1 : u < v
  · rw [if_pos c1]; exact ⟨-1, rfl, fun _ => by omega, fun h => absurd h (by decide)⟩
  · rw [if_neg c1]
    by_cases c2 : u > v
    · rw [if_pos c2]; exact ⟨1, rfl, fun h => absurd h (by decide), fun _ => by omega⟩
    · rw [if_neg c2]; exact ⟨0, rfl, fun _ => by omega, fun _ => by omega⟩

theorem cmp_some (k : Nat) {a b : Int} (h : 0 ≤ a) (h' : a < 18446744073709551616) (g : 0 ≤ b) (g' : b < 18446744073709551616) : ∃ v, ieee_Compare.f (k + 1) a b = some v := by
  have oa : ieee_order.f a = some (neg (a / 9223372036854775808 = 1) (a % 9223372036854775808)) := order_eq h h'
  have ob : ieee_order.f b = some (neg (b / 9223372036854775808 = 1) (b % 9223372036854775808)) := order_eq g g'
  unfold ieee_Compare.f
  rw [class_eq k h h', class_eq k g g']
  simp only [Option.bind_some]
  generalize CL (a % 9223372036854775808) = x
  generalize CL (b % 9223372036854775808) = y
  have key : ∀ t, ∃ v, ieee_Compare.j0 (k + 1) a b t = some v := by
    intro t
    simp only [ieee_Compare.j0, oa, ob, Option.bind_some]
    generalize neg (a / 9223372036854775808 = 1) (a % 9223372036854775808) = u
    generalize neg (b / 9223372036854775808 = 1) (b % 9223372036854775808) = v
    by_cases c1 : t = true
    · rw [if_pos c1]; exact ⟨_, rfl⟩
    · rw [if_neg c1]
      by_cases c2 : u < v
      · rw [if_pos c2]; exact ⟨_, rfl⟩
      · rw [if_neg c2]
        by_cases c3 : u > v
        · rw [if_pos c3]; exact ⟨_, rfl⟩
        · rw [if_neg c3]; exact ⟨_, rfl⟩
  by_cases c : x = 4
  · rw [if_pos c]; exact key _
  · rw [if_neg c]; exact key _

theorem tt_zero : TT 0 = 0 := by decide +kernel

/-- Scaled values are ordered as the values. -/
theorem scaled_mono {s na nb ma ea mb eb : Int} {p q : Prop} [Decidable p] [Decidable q] (hs : 0 ≤ s) (hs' : s ≤ 24) (h0 : 0 ≤ na) (h1 : 0 ≤ nb) (hA : PartsOf na ma ea true) (hB : PartsOf nb mb eb true)
    (ca : (SC ma (ea + s)).2 = 0) (cb : (SC mb (eb + s)).2 = 0) (ho : neg p na ≤ neg q nb) : neg p (SC ma (ea + s)).1 ≤ neg q (SC mb (eb + s)).1 := by
  have ra := sc_rn ma ea s (by rcases hA.me with h | h <;> omega) (by rcases hA.me with h | h <;> omega) (by rcases hA.me with h | h <;> omega) hs hs' ca
  have rb := sc_rn mb eb s (by rcases hB.me with h | h <;> omega) (by rcases hB.me with h | h <;> omega) (by rcases hB.me with h | h <;> omega) hs hs' cb
  rw [hA.tt rfl] at ra
  rw [hB.tt rfl] at rb
  have hz : RN (2 ^ (1074 - s).toNat) (TT 0) = 0 := by rw [tt_zero]; exact rn_zero _ _ (by decide) (by rw [Int.zero_mul]; exact pow_pos' _)
  have mono : ∀ {x y : Int}, 0 ≤ x → x ≤ y → RN (2 ^ (1074 - s).toNat) (TT x) ≤ RN (2 ^ (1074 - s).toNat) (TT y) := fun hx hy => rn_mono (pow_pos' _) (tt_mono hx hy)
  have a0 := mono (Int.le_refl 0) h0
  have b0 := mono (Int.le_refl 0) h1
  rw [hz] at a0 b0
  rw [ra, rb]
  unfold neg at ho ⊢
  by_cases hp : p
  · rw [if_pos hp] at ho ⊢
    by_cases hq : q
    · rw [if_pos hq] at ho ⊢
      have := mono h1 (show nb ≤ na by omega)
      omega
    · rw [if_neg hq] at ho ⊢
      omega
  · rw [if_neg hp] at ho ⊢
    by_cases hq : q
    · rw [if_pos hq] at ho ⊢
      obtain ⟨rfl, rfl⟩ : na = 0 ∧ nb = 0 := by omega
      rw [hz]; decide
    · rw [if_neg hq] at ho ⊢
      exact mono h0 ho

theorem j1_ok (k : Nat) (hk : 100 ≤ k) {n m e s : Int} {ok : Bool} {p : Prop} [Decidable p] (hP : PartsOf n m e ok) (hs : 0 ≤ s) (hs' : s ≤ 24) :
    tilefarmlaw6_IeeeExact.j1 (k + 1) s (neg p m) e ok (scaled p m e s ok).1 (scaled p m e s ok).2 false = some true := by
  have hsane : tilefarmlaw6_sane.f k = some true := at_rounds tilefarmlaw6_sane.mono hk sane_eq
  simp only [tilefarmlaw6_IeeeExact.j1, Bool.false_eq_true, if_false, hsane, Option.bind_some]
  cases ok with
  | false => simp [scaled]
  | true =>
    simp only [scaled, if_true]
    by_cases c : (SC m (e + s)).2 = 0
    · rw [if_pos c]
      by_cases ce : e ≥ 0
      · rw [if_pos ce, wrap_in (n := e + s) (by rcases hP.me with h | h <;> omega) (by rcases hP.me with h | h <;> omega)]
        by_cases cs : e + s < 16
        · rw [if_pos cs, u64_wrap (by omega) (by omega), if_pos (by omega)]
          have hm : 0 ≤ m ∧ m < 9007199254740992 := by rcases hP.me with h | h <;> omega
          have hsc : (SC m (e + s)).1 = m * 2 ^ (e + s).toNat ∧ m * 2 ^ (e + s).toNat ≤ 32767 := by
            unfold SC at c ⊢
            by_cases z : m = 0
            · rw [if_pos z, z, Int.zero_mul]; exact ⟨rfl, by decide⟩
            · rw [if_neg z, if_neg (show ¬ e + s > 15 by omega), if_pos (show e + s ≥ 0 by omega)] at c ⊢
              exact fin_ok c
          have hge : 0 ≤ m * 2 ^ (e + s).toNat := Int.mul_nonneg hm.1 (Int.le_of_lt (pow_pos' _))
          have hsh : neg p (SC m (e + s)).1 = shl .i64 (neg p m) (e + s) := by
            rw [hsc.1]
            unfold neg shl
            rw [show IntKind.i64.bits = 64 from rfl, (pow_facts (e + s) (by omega) (by omega)).2.2]
            split
            · rw [Int.neg_mul, Go.IntKind.wrap_i64]; omega
            · rw [Go.IntKind.wrap_i64]; omega
          rw [if_pos hsh]
        · rw [if_neg cs]
      · rw [if_neg ce]
    · rw [if_neg c]

theorem parts_of (n : Int) (h : 0 ≤ n) (h' : n < 9223372036854775808) : ∃ m e ok, PartsOf n m e ok ∧ ∀ k a, 70 ≤ k → 0 ≤ a → a < 18446744073709551616 → a % 9223372036854775808 = n → ieee_Parts.f k a = some (neg (a / 9223372036854775808 = 1) m, e, ok) := by
  obtain ⟨m, e, ok, h1, h2, h3, h4, h5⟩ := parts_spec n h h'
  exact ⟨m, e, ok, ⟨h1, h3, h4⟩, h5⟩

theorem j0_ok (k : Nat) (hk : 200 ≤ k) {a b s : Int} (hs : 0 ≤ s) (hs' : s ≤ 24) (h : 0 ≤ a) (h' : a < 18446744073709551616) (g : 0 ≤ b) (g' : b < 18446744073709551616) {m e : Int} {ok : Bool}
    (hP : PartsOf (a % 9223372036854775808) m e ok) (hp : ∀ k, 70 ≤ k → ieee_Parts.f k a = some (neg (a / 9223372036854775808 = 1) m, e, ok)) :
    tilefarmlaw6_IeeeExact.j0 (k + 1 + 1) a b s (neg (a / 9223372036854775808 = 1) m) e ok false = some true := by
  obtain ⟨mb, eb, okb, hB, hb⟩ := parts_of (b % 9223372036854775808) (by omega) (by omega)
  have na : 0 ≤ a % 9223372036854775808 := by omega
  have nb : 0 ≤ b % 9223372036854775808 := by omega
  have sa := scale_at (k + 1) (by omega) a s m e ok hs hs' hP (hp (k + 1) (by omega))
  have sb := scale_at (k + 1) (by omega) b s mb eb okb hs hs' hB (hb (k + 1) b (by omega) g g' rfl)
  have fin := j1_ok k (by omega) (p := a / 9223372036854775808 = 1) hP hs hs'
  have hcs := cmp_some k h h' g g'
  simp only [tilefarmlaw6_IeeeExact.j0, Bool.false_eq_true, if_false]
  rw [sa, sb, Option.bind_some, Option.bind_some]
  by_cases c1 : (scaled (a / 9223372036854775808 = 1) m e s ok).2 = 0
  · by_cases c2 : (scaled (b / 9223372036854775808 = 1) mb eb s okb).2 = 0
    · have oka : ok = true := by
        cases ok with
        | true => rfl
        | false => exact absurd c1 (by simp [scaled])
      have okb' : okb = true := by
        cases okb with
        | true => rfl
        | false => exact absurd c2 (by simp [scaled])
      subst oka
      subst okb'
      obtain ⟨bt, hc, hbt, hle, hge⟩ : ∃ bt : Int × Bool, ieee_Compare.f (k + 1) a b = some bt ∧ bt.2 = true ∧
          (bt.1 ≤ 0 → neg (a / 9223372036854775808 = 1) (a % 9223372036854775808) ≤ neg (b / 9223372036854775808 = 1) (b % 9223372036854775808)) ∧
          (bt.1 ≥ 0 → neg (b / 9223372036854775808 = 1) (b % 9223372036854775808) ≤ neg (a / 9223372036854775808 = 1) (a % 9223372036854775808)) := by
        obtain ⟨c, hc, hle, hge⟩ := cmp_at (k + 1) (by omega) h h' g g' (hP.cl.2 rfl) (hB.cl.2 rfl)
        exact ⟨(c, true), hc, rfl, hle, hge⟩
      rw [hc, Option.bind_some, if_pos c1, if_pos c2, if_pos hbt]
      clear hc hbt
      generalize bt.1 = c at hle hge ⊢
      have d1 : (SC m (e + s)).2 = 0 := by simpa [scaled] using c1
      have d2 : (SC mb (eb + s)).2 = 0 := by simpa [scaled] using c2
      have v1 : c ≤ 0 → (scaled (a / 9223372036854775808 = 1) m e s true).1 ≤ (scaled (b / 9223372036854775808 = 1) mb eb s true).1 := fun hcc => by
        simp only [scaled, if_true]
        exact scaled_mono hs hs' na nb hP hB d1 d2 (hle hcc)
      have v2 : c ≥ 0 → (scaled (b / 9223372036854775808 = 1) mb eb s true).1 ≤ (scaled (a / 9223372036854775808 = 1) m e s true).1 := fun hcc => by
        simp only [scaled, if_true]
        exact scaled_mono hs hs' nb na hB hP d2 d1 (hge hcc)
      generalize hx : (scaled (a / 9223372036854775808 = 1) m e s true).1 = x at v1 v2 fin ⊢
      generalize (scaled (b / 9223372036854775808 = 1) mb eb s true).1 = y at v1 v2 ⊢
      have dlt : c ≥ 0 → decide (x < y) = false := fun hcc => decide_eq_false (Int.not_lt.2 (v2 hcc))
      by_cases e1 : c ≤ 0
      · rw [if_pos e1, if_neg (show ¬ x > y from fun hxy => absurd (v1 e1) (Int.not_le.2 hxy))]
        by_cases e2 : c ≥ 0
        · rw [if_pos e2, dlt e2]; exact fin
        · rw [if_neg e2]; exact fin
      · rw [if_neg e1]
        by_cases e2 : c ≥ 0
        · rw [if_pos e2, dlt e2]; exact fin
        · rw [if_neg e2]; exact fin
    · obtain ⟨v, hv⟩ := hcs
      rw [hv, Option.bind_some, if_pos c1, if_neg c2]
      exact fin
  · obtain ⟨v, hv⟩ := hcs
    rw [hv, Option.bind_some, if_neg c1]
    exact fin

theorem IeeeExact : tilefarmlaw6_IeeeExact.Pure := by
  intro l s0 hm hm2 hx hb
  have hl : l.length ≤ 4611686018427387904 := by omega
  clear hm hm2 hx hb
  obtain ⟨K, hK⟩ : ∃ K : Nat, 300 ≤ K := ⟨300, Nat.le_refl _⟩
  refine ⟨K + 1 + 1, ?_⟩
  unfold tilefarmlaw6_IeeeExact.f tilefarmgen_New.f
  rw [Option.bind_some]
  obtain ⟨bt, e1, h, h', t1⟩ : ∃ bt : Int × Int, tilefarmgen_Tape_Bits.f l 0 = some bt ∧ 0 ≤ bt.1 ∧ bt.1 < 18446744073709551616 ∧ 0 ≤ bt.2 := by
    obtain ⟨a, s1, e1, ⟨h, h'⟩, t1⟩ := tbits_spec l 0 (by decide) hl
    exact ⟨(a, s1), e1, h, h', t1⟩
  rw [e1, Option.bind_some]
  obtain ⟨bu, e2, g, g'⟩ : ∃ bt' : Int × Int, tilefarmgen_Tape_Bits.f l bt.2 = some bt' ∧ 0 ≤ bt'.1 ∧ bt'.1 < 18446744073709551616 := by
    obtain ⟨a, s1, e1, ⟨h, h'⟩, t1⟩ := tbits_spec l bt.2 t1 hl
    exact ⟨(a, s1), e1, h, h'⟩
  rw [e2, Option.bind_some, mod_eq _ _ (by decide) (by decide), Option.bind_some]
  clear e1 e2 t1
  generalize bt.1 = a at h h' ⊢
  generalize bu.1 = b at g g' ⊢
  have s00 : 0 ≤ s0 % 25 := Int.emod_nonneg _ (by decide)
  have s01 : s0 % 25 ≤ 24 := Int.le_of_lt_add_one (Int.emod_lt_of_pos _ (by decide))
  generalize s0 % 25 = s at s00 s01 ⊢
  obtain ⟨m, e, ok, hP, hp⟩ := parts_of (a % 9223372036854775808) (Int.emod_nonneg _ (by decide)) (Int.emod_lt_of_pos _ (by decide))
  have pa : ∀ k, 70 ≤ k → ieee_Parts.f k a = some (neg (a / 9223372036854775808 = 1) m, e, ok) := fun k hk => hp k a hk h h' rfl
  have fin := j0_ok K (by omega) s00 s01 h h' g g' hP pa
  obtain ⟨bp, hbp, p1, p2, p3⟩ : ∃ bp : Int × Int × Bool, ieee_Parts.f (K + 1 + 1) a = some bp ∧ bp.1 = neg (a / 9223372036854775808 = 1) m ∧ bp.2.1 = e ∧ bp.2.2 = ok := ⟨_, pa (K + 1 + 1) (by omega), rfl, rfl, rfl⟩
  rw [hbp, Option.bind_some, class_at (K + 1 + 1) (by omega) h h', Option.bind_some, p1, p2, p3]
  clear hbp p1 p2 p3
  have hcl : (ok != decide (CL (a % 9223372036854775808) ≤ 2)) = false := by
    cases ok with
    | true => rw [decide_eq_true (hP.cl.2 rfl)]; rfl
    | false => rw [decide_eq_false (fun hh => by cases hP.cl.1 hh)]; rfl
  rw [hcl, if_neg (show ¬ (false = true) by decide)]
  clear hcl
  cases ok with
  | false => rw [if_neg (show ¬ (false = true) by decide)]; exact fin
  | true =>
    rw [if_pos rfl]
    rcases hP.me with ⟨hm0, he0⟩ | ⟨_, hm0, _, hm1, _, _⟩
    · subst hm0 he0
      have hn : ∀ p [Decidable p], neg p 0 = 0 := fun p _ => by unfold neg; split <;> rfl
      rw [hn] at fin ⊢
      rw [if_pos (by decide), if_pos rfl]
      exact fin
    · have ht : ¬ Int.tmod (neg (a / 9223372036854775808 = 1) m) 2 = 0 := by
        unfold neg
        split
        · rw [Int.neg_tmod, Int.tmod_eq_emod_of_nonneg (Int.le_of_lt hm0), hm1]; decide
        · rw [Int.tmod_eq_emod_of_nonneg (Int.le_of_lt hm0), hm1]; decide
      rw [if_neg ht]
      exact fin


end Go.Proofs.Ytoamkepelnphaaa.Pure
namespace Go.Proofs.Ytoamkepelnphaaa
open Go.ChangeShapes Go.WideShapes
/-- The print's own word, under the name that the printed row uses. -/
theorem PrintWords.sized_ints {H : Type} {enc : TypeId × Value → H} {P : Program} {W : World} {base : Nat} {spare : Nat → Bool} {held : Bool} {t e : TypeId} {k : IntKind} {a : Option Addr} {len cap : Nat} {d : DataW H} {ps : List MemPlace} {ts : List TypeId} {ds : List (DataW H)} {j : Nat}
    (hsz : (DataW.weightsEach P ts ds).all (· ≤ reachBytes) = true) (ht : ts[j]? = some t) (hd : ds[j]? = some d) (hu : P.underlying t = some (.slice e)) (he : P.underlying e = some (.int k)) (hc : P.cellsOf e = 1) {B : Nat} (hB : P.bytesOf e = B)
    (h : DataW.Trod enc P W base spare held t (.slice a len cap) d ps) : len * B ≤ 140737488351232 :=
  Go.Proofs.YtoamkepelnphaaaW.PrintWords.sized_ints hsz ht hd hu he hc hB h
end Go.Proofs.Ytoamkepelnphaaa

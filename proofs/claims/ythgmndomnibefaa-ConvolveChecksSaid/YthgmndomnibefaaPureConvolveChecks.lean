/- The errors of kernels are those of the reference: for every tape, every list and all numbers. -/
import Derived.Test.YthgmndomnibefaaPConvolveChecksx10
import Derived.Test.YthgmndomnibefaaWSized
namespace Go.Proofs.Ythgmndomnibefaa.Pure
open Go.RowKit Go.Proofs.Ythgmndomnibefaa.PConvolveChecks Go.Proofs.YthgmndomnibefaaW.PrintWords Go.Proofs.YthgmndomnibefaaW.PrintLast Go.Proofs.YthgmndomnibefaaW.PrintMore
set_option linter.unusedVariables false
set_option linter.unusedSimpArgs false

theorem wrap_in {n : Int} (h : -9223372036854775808 ≤ n) (h' : n ≤ 9223372036854775807) : wrap64 n = n := by unfold wrap64; omega

theorem tmod_emod (a n : Int) (h : 0 < n) : (0 ≤ Int.tmod a n ∧ Int.tmod a n = a % n) ∨ (Int.tmod a n < 0 ∧ Int.tmod a n + n = a % n) := by
  have h1 := Int.tmod_eq_emod (a := a) (b := n)
  have h2 := Int.emod_nonneg a (by omega : n ≠ 0)
  have h3 := Int.emod_lt_of_pos a h
  split at h1 <;> omega

theorem mod_eq (a n : Int) (h : 0 < n) (hn : n ≤ 4611686018427387904) : tilefarmgen_Mod.f a n = some (a % n) := by
  have h2 := Int.emod_nonneg a (by omega : n ≠ 0)
  have h3 := Int.emod_lt_of_pos a h
  unfold tilefarmgen_Mod.f
  rw [if_neg (by omega)]
  rcases tmod_emod a n h with ⟨h4, h5⟩ | ⟨h4, h5⟩
  · rw [if_neg (by omega), h5]
  · rw [if_pos h4, wrap_in (by omega) (by omega), h5]

theorem sd_true {p : Prop} [Decidable p] (h : p) : some true = some (decide p) := by rw [decide_eq_true h]
theorem sd_false {p : Prop} [Decidable p] (h : ¬ p) : some false = some (decide p) := by rw [decide_eq_false h]
theorem sd_iff {p q : Prop} [Decidable p] [Decidable q] (h : q ↔ p) : some (decide q) = some (decide p) := by rw [decide_eq_decide.2 h]

theorem mx_max (a b : Int) : mx a b = max a b := by unfold mx; omega
theorem mn_min (a b : Int) : mn a b = min a b := by unfold mn; omega

theorem mul_bd {x y B C : Int} (hx : 0 ≤ x) (hy : 0 ≤ y) (hxB : x ≤ B) (hyB : y ≤ C) : 0 ≤ x * y ∧ x * y ≤ B * C :=
  ⟨Int.mul_nonneg hx hy, Int.mul_le_mul hxB hyB hy (by omega)⟩

theorem dec_iff {p q : Prop} [Decidable p] [Decidable q] (h : p ↔ q) : decide p = decide q := decide_eq_decide.2 h
theorem and_not_dec (p q : Prop) [Decidable p] [Decidable q] : (decide p && !decide q) = decide (p ∧ ¬ q) := by
  by_cases hp : p <;> by_cases hq : q <;> simp [hp, hq]

theorem wrap64_range (n : Int) : -9223372036854775808 ≤ wrap64 n ∧ wrap64 n ≤ 9223372036854775807 := by unfold wrap64; omega

theorem wf_range {n : Int} (h : (Lit.int .i64 n).wf = true) : -9223372036854775808 ≤ n ∧ n ≤ 9223372036854775807 := by
  simp only [Lit.wf, IntKind.min, IntKind.max, IntKind.signed, IntKind.bits, Bool.and_eq_true, decide_eq_true_eq, if_true] at h
  omega


theorem next_spec (l : List Int) (s n : Int) (hs : 0 ≤ s) (hl : l.length ≤ 4611686018427387904) (h : 0 < n) (hn : n ≤ 4611686018427387904) :
    ∃ r s', tilefarmgen_Tape_Next.f l s n = some (r, s') ∧ 0 ≤ r ∧ r < n ∧ 0 ≤ s' := by
  unfold tilefarmgen_Tape_Next.f
  rw [if_neg (by omega)]
  by_cases h1 : s ≥ (l.length : Int)
  · rw [if_pos h1]; exact ⟨_, _, rfl, by omega, by omega, hs⟩
  · have e1 : wrap64 (s + 1) = s + 1 := wrap_in (by omega) (by omega)
    have e2 : wrap64 (s + 1 - 1) = s := by rw [wrap_in (by omega) (by omega)]; omega
    rw [if_neg h1]
    simp only [e1, e2]
    rw [if_pos hs, if_pos (by omega), mod_eq _ _ h hn]
    exact ⟨_, _, rfl, Int.emod_nonneg _ (by omega), Int.emod_lt_of_pos _ h, by omega⟩


theorem rd_mem (l : List Int) (i : Nat) (h : i < l.length) : rd l (i : Int) ∈ l := by
  simp [rd, h]

theorem rd_drop (l : List Int) (i : Nat) (h : i < l.length) : l.drop i = rd l (i : Int) :: l.drop (i + 1) := by
  rw [List.drop_eq_getElem_cons h]
  simp [rd, h]

theorem next_o (l : List Int) (s n : Int) (hs : 0 ≤ s) (hl : l.length ≤ 4611686018427387904) (h : 0 < n) (hn : n ≤ 4611686018427387904) :
    ∃ bt, tilefarmgen_Tape_Next.f l s n = some bt ∧ 0 ≤ bt.1 ∧ bt.1 < n ∧ 0 ≤ bt.2 := by
  obtain ⟨r, s', h1, h2, h3, h4⟩ := next_spec l s n hs hl h hn
  exact ⟨(r, s'), h1, h2, h3, h4⟩

theorem pick_o (l : List Int) (s : Int) (xs : List Int) (hs : 0 ≤ s) (hl : l.length ≤ 4611686018427387904) (h : 0 < xs.length) (hx : xs.length ≤ 100) :
    ∃ bt, tilefarmgen_Tape_Pick.f l s xs = some bt ∧ bt.1 ∈ xs ∧ 0 ≤ bt.2 := by
  obtain ⟨r, s', h1, h2, h3, h4⟩ := next_spec l s (xs.length : Int) hs hl (by omega) (by omega)
  refine ⟨(rd xs r, s'), ?_, ?_, h4⟩
  · unfold tilefarmgen_Tape_Pick.f
    rw [h1, Option.bind_some, if_pos h2, if_pos h3]
  · obtain ⟨n, rfl⟩ := Int.eq_ofNat_of_zero_le h2
    exact rd_mem xs n (by omega)


theorem mulb {w x W X : Int} (h1 : -W ≤ w) (h2 : w ≤ W) (h3 : -X ≤ x) (h4 : x ≤ X) : -(W * X) ≤ w * x ∧ w * x ≤ W * X := by
  have p1 := Int.mul_nonneg (show 0 ≤ W - w by omega) (show 0 ≤ X + x by omega)
  have p2 := Int.mul_nonneg (show 0 ≤ W + w by omega) (show 0 ≤ X - x by omega)
  have p3 := Int.mul_nonneg (show 0 ≤ W - w by omega) (show 0 ≤ X - x by omega)
  have p4 := Int.mul_nonneg (show 0 ≤ W + w by omega) (show 0 ≤ X + x by omega)
  simp only [Int.sub_mul, Int.add_mul, Int.mul_sub, Int.mul_add] at p1 p2 p3 p4
  omega

theorem i64_low {n : Int} (h : -9223372036854775808 ≤ n) (h' : n ≤ 9223372036854775807) : Go.bits .and .i64 n 4294967295 = n % 4294967296 := by
  unfold Go.bits
  show IntKind.i64.wrap (((BitVec.ofInt 64 n) &&& (BitVec.ofInt 64 4294967295)).toNat : Int) = _
  rw [BitVec.toNat_and, BitVec.toNat_ofInt, BitVec.toNat_ofInt]
  have e1 : ((4294967295 : Int) % ((2 ^ 64 : Nat) : Int)).toNat = 2 ^ 32 - 1 := by decide +kernel
  rw [e1, Nat.and_two_pow_sub_one_eq_mod, Go.IntKind.wrap_i64]
  omega

theorem add_eq {a b n : Int} (hn : -2251799813685248 ≤ n) (hn' : n ≤ 2251799813685248) (hb : 0 ≤ b) (hb' : b ≤ 1000000000000) (ha : -100000000 ≤ a) (ha' : a ≤ 100000000) :
    ∃ a' b', fixed_wide_add.f a b n = some (a', b') ∧ a' * 4294967296 + b' = a * 4294967296 + b + n ∧ b ≤ b' ∧ b' ≤ b + 4294967296 := by
  unfold fixed_wide_add.f
  rw [i64_low (by omega) (by omega), wrap_in (by omega) (by omega), wrap_in (by omega) (by omega)]
  exact ⟨_, _, rfl, by omega, by omega, by omega⟩

theorem add_step {a b S n i : Int} (hi0 : 0 ≤ i) (hi : i ≤ 81) (hS : a * 4294967296 + b = S) (b1 : 0 ≤ b) (b2 : b ≤ 4294967296 * i) (s1 : -2251799813685248 * i ≤ S) (s2 : S ≤ 2251799813685248 * i) (hn : -2251799813685248 ≤ n ∧ n ≤ 2251799813685248) :
    ∃ a' b', fixed_wide_add.f a b n = some (a', b') ∧ a' * 4294967296 + b' = S + n ∧ (0 ≤ b' ∧ b' ≤ 4294967296 * (i + 1)) ∧ (-2251799813685248 * (i + 1) ≤ S + n ∧ S + n ≤ 2251799813685248 * (i + 1)) ∧ wrap64 (S + n) = S + n := by
  obtain ⟨a', b', f1, f2, f3, f4⟩ := add_eq (a := a) (b := b) (n := n) hn.1 hn.2 b1 (by omega) (by omega) (by omega)
  exact ⟨a', b', f1, by omega, ⟨by omega, by omega⟩, ⟨by omega, by omega⟩, wrap_in (by omega) (by omega)⟩

def inAcc (S : Int) : Bool := decide (-17592186044416 ≤ S) && decide (S ≤ 17592186044416)

theorem value_eq {a b S : Int} (hS : a * 4294967296 + b = S) (hb : 0 ≤ b) (hb' : b ≤ 4294967296 * 81) : ∃ p u v, fixed_wide_value.f a b = some (p, inAcc S, u, v) ∧ (inAcc S = true → p = S) := by
  unfold fixed_wide_value.f fixed_sum.f inAcc
  by_cases c1 : a < -1048576
  · rw [if_pos c1, decide_eq_false (show ¬ -17592186044416 ≤ S by omega)]
    exact ⟨_, _, _, rfl, fun h => by cases h⟩
  · rw [if_neg c1]
    by_cases c2 : a > 1048576
    · rw [if_pos c2, decide_eq_false (show ¬ S ≤ 17592186044416 by omega), Bool.and_false]
      exact ⟨_, _, _, rfl, fun h => by cases h⟩
    · rw [if_neg c2, wrap_in (n := a * 4294967296) (by omega) (by omega), hS, wrap_in (n := S) (by omega) (by omega)]
      by_cases c3 : S ≥ -17592186044416
      · rw [if_pos c3, decide_eq_true (show -17592186044416 ≤ S from c3), Bool.true_and]
        exact ⟨_, _, _, rfl, fun _ => rfl⟩
      · rw [if_neg c3, decide_eq_false (show ¬ -17592186044416 ≤ S from c3), Bool.false_and]
        exact ⟨_, _, _, rfl, fun h => by cases h⟩

theorem idx {i n L : Nat} (h : i + (n + 1) = L) : i + 1 + n = L ∧ i < L := by omega
theorem next_i {i L : Nat} (h : i < L) (hL : L ≤ 1000) : wrap64 ((i : Int) + 1) = ((i + 1 : Nat) : Int) ∧ (i : Int) ≤ 1000 ∧ (i : Int) < (L : Int) ∧ 0 ≤ (i : Int) := by
  refine ⟨?_, by omega, by omega, by omega⟩
  rw [wrap_in (by omega) (by omega)]; omega
theorem minmax_bd {x y : Int} (h : -(32767 * 68719476736) ≤ x ∧ x ≤ 32767 * 68719476736) (h' : -(32767 * 68719476736) ≤ y ∧ y ≤ 32767 * 68719476736) : (-2251799813685248 ≤ min x y ∧ min x y ≤ 2251799813685248) ∧ (-2251799813685248 ≤ max x y ∧ max x y ≤ 2251799813685248) ∧ wrap64 x = x ∧ wrap64 y = y :=
  ⟨by omega, by omega, wrap_in (by omega) (by omega), wrap_in (by omega) (by omega)⟩
theorem small_i {i L : Nat} (h : i < L) (hL : L ≤ 81) : (i : Int) ≤ 81 := by omega
theorem end_bd {b : Int} {i L : Nat} (h : i + 0 = L) (hL : L ≤ 81) (hb : b ≤ 4294967296 * (i : Int)) : b ≤ 4294967296 * 81 ∧ ¬ (i : Int) < (L : Int) := by omega


theorem acc_eq (S : Int) : tilefarmref7_Acc.f S = some (inAcc S) := by
  unfold tilefarmref7_Acc.f inAcc
  by_cases c3 : S ≥ -17592186044416
  · rw [if_pos c3, decide_eq_true (show -17592186044416 ≤ S from c3), Bool.true_and]
  · rw [if_neg c3, decide_eq_false (show ¬ -17592186044416 ≤ S from c3), Bool.false_and]

theorem bounds_loop (l : List Int) (hl : l.length ≤ 81) (hw : ∀ w ∈ l, -32767 ≤ w ∧ w ≤ 32767) (lo hi : Int) (h1 : -68719476736 ≤ lo) (h2 : lo ≤ hi) (h3 : hi ≤ 68719476736) (n : Nat) :
    ∀ (k i : Nat) (a b c d S T : Int), i + n = l.length → n + 2 ≤ k → a * 4294967296 + b = S → c * 4294967296 + d = T → 0 ≤ b → b ≤ 4294967296 * i → 0 ≤ d → d ≤ 4294967296 * i →
      -2251799813685248 * (i : Int) ≤ S → S ≤ 2251799813685248 * i → -2251799813685248 * (i : Int) ≤ T → T ≤ 2251799813685248 * i →
      ∃ v, fixed_Bounds.l0 k l lo hi (i : Int) a b c d = some v ∧ tilefarmref7_Bounds.l0 k l lo hi S T (i : Int) = some v := by
  induction n with
  | zero =>
    intro k i a b c d S T hi' hk hS hT b1 b2 d1 d2 s1 s2 t1 t2
    obtain ⟨k, rfl⟩ : ∃ m, k = m + 1 := ⟨k - 1, (Nat.sub_add_cancel (Nat.le_trans (Nat.le_add_left 1 _) hk)).symm⟩
    obtain ⟨g1, g2⟩ := end_bd hi' hl b2
    obtain ⟨g3, -⟩ := end_bd hi' hl d2
    simp only [fixed_Bounds.l0, tilefarmref7_Bounds.l0]
    obtain ⟨p, u, v, e1, e1'⟩ := value_eq hS b1 g1
    obtain ⟨p', u', v', e2, e2'⟩ := value_eq hT d1 g3
    clear s1 s2 t1 t2 hS hT b1 b2 d1 d2 h1 h2 h3 hw
    rw [if_neg g2, if_neg g2, e1, e2, acc_eq, acc_eq, Option.bind_some, Option.bind_some, Option.bind_some, Option.bind_some]
    by_cases c1 : inAcc S = true
    · rw [if_pos c1]
      by_cases c2 : inAcc T = true
      · rw [if_pos c2, e1' c1, e2' c2]
        exact ⟨(S, T, true), rfl, by rw [if_pos c1, if_pos c2]⟩
      · rw [if_neg c2]
        exact ⟨_, rfl, by rw [if_pos c1, if_neg c2]⟩
    · rw [if_neg c1]
      exact ⟨_, rfl, by rw [if_neg c1]⟩
  | succ n ih =>
    intro k i a b c d S T hi' hk hS hT b1 b2 d1 d2 s1 s2 t1 t2
    obtain ⟨k, rfl⟩ : ∃ m, k = m + 1 := ⟨k - 1, (Nat.sub_add_cancel (Nat.le_trans (Nat.le_add_left 1 _) hk)).symm⟩
    obtain ⟨hidx, hlt⟩ := idx hi'
    obtain ⟨e1, -, hI, hP⟩ := next_i hlt (Nat.le_trans hl (by decide))
    have hi9 := small_i hlt hl
    have hm := hw _ (rd_mem l i hlt)
    obtain ⟨hu, hv, wx, wy⟩ := minmax_bd (mulb (X := 68719476736) hm.1 hm.2 h1 (Int.le_trans h2 h3)) (mulb (X := 68719476736) hm.1 hm.2 (Int.le_trans h1 h2) h3)
    simp only [fixed_Bounds.l0, tilefarmref7_Bounds.l0]
    rw [if_pos hI, if_pos hP, if_pos hI, if_pos hP, e1, wx, wy, mn_min, mx_max]
    generalize min (rd l (i : Int) * lo) (rd l (i : Int) * hi) = u at hu ⊢
    generalize max (rd l (i : Int) * lo) (rd l (i : Int) * hi) = v at hv ⊢
    obtain ⟨a', b', f1, f2, f3, f4, f5⟩ := add_step hP hi9 hS b1 b2 s1 s2 hu
    obtain ⟨c', d', g1, g2, g3, g4, g5⟩ := add_step hP hi9 hT d1 d2 t1 t2 hv
    rw [f1, g1, f5, g5, Option.bind_some, Option.bind_some]
    have hc : ((i + 1 : Nat) : Int) = (i : Int) + 1 := Int.natCast_succ i
    exact ih k (i + 1) a' b' c' d' (S + u) (T + v) hidx (Nat.le_of_succ_le_succ hk) f2 g2 f3.1 (by rw [hc]; exact f3.2) g3.1 (by rw [hc]; exact g3.2) (by rw [hc]; exact f4.1) (by rw [hc]; exact f4.2) (by rw [hc]; exact g4.1) (by rw [hc]; exact g4.2)

theorem isw_eq (w : Int) : tilefarmref7_IsWeight.f w = some (decide (-32767 ≤ w) && decide (w ≤ 32767)) := by
  unfold tilefarmref7_IsWeight.f
  by_cases c : w ≥ -32767
  · rw [if_pos c, decide_eq_true (show -32767 ≤ w from c), Bool.true_and]
  · rw [if_neg c, decide_eq_false (show ¬ -32767 ≤ w from c), Bool.false_and]

/-- Both programs go through the weights alike; and where they find no fault, there is none from there on. -/
theorem weights_loop (l : List Int) (hl : l.length ≤ 81) (n : Nat) :
    ∀ (k i : Nat), i + n = l.length → n + 1 ≤ k → ∃ ok : Bool, fixed_Weights.l0 k l (l.length : Int) (i : Int) = some (if ok = true then 0 else 10) ∧ tilefarmref7_AreWeights.l0 k l (i : Int) = some ok ∧
      (ok = true → ∀ j : Nat, i ≤ j → j < l.length → -32767 ≤ rd l (j : Int) ∧ rd l (j : Int) ≤ 32767) := by
  induction n with
  | zero =>
    intro k i hi hk
    obtain ⟨k, rfl⟩ : ∃ m, k = m + 1 := ⟨k - 1, by omega⟩
    refine ⟨true, ?_, ?_, fun _ j h1 h2 => by omega⟩
    · simp only [fixed_Weights.l0]
      rw [if_neg (by omega)]; rfl
    · simp only [tilefarmref7_AreWeights.l0]
      rw [if_neg (by omega)]
  | succ n ih =>
    intro k i hi hk
    obtain ⟨k, rfl⟩ : ∃ m, k = m + 1 := ⟨k - 1, by omega⟩
    obtain ⟨hidx, hlt⟩ := idx hi
    obtain ⟨e1, -, hI, hP⟩ := next_i hlt (Nat.le_trans hl (by decide))
    simp only [fixed_Weights.l0, tilefarmref7_AreWeights.l0]
    rw [if_pos hI, if_pos hP, if_pos hI, if_pos hI, if_pos hP, isw_eq, e1, Option.bind_some]
    by_cases c1 : rd l (i : Int) < -32767
    · rw [if_pos c1, decide_eq_false (show ¬ -32767 ≤ rd l (i : Int) by omega), Bool.false_and, if_neg (show ¬ (false = true) by decide)]
      exact ⟨false, rfl, rfl, fun h => by cases h⟩
    · rw [if_neg c1, decide_eq_true (show -32767 ≤ rd l (i : Int) by omega), Bool.true_and]
      by_cases c2 : rd l (i : Int) > 32767
      · rw [if_pos c2, decide_eq_false (show ¬ rd l (i : Int) ≤ 32767 by omega), if_neg (show ¬ (false = true) by decide)]
        exact ⟨false, rfl, rfl, fun h => by cases h⟩
      · rw [if_neg c2, decide_eq_true (show rd l (i : Int) ≤ 32767 by omega), if_pos rfl]
        obtain ⟨ok, r1, r2, r3⟩ := ih k (i + 1) hidx (Nat.le_of_succ_le_succ hk)
        refine ⟨ok, r1, r2, fun h j hj hj' => ?_⟩
        by_cases c : j = i
        · subst c; omega
        · exact r3 h j (by omega) hj'

theorem mem_rd' (l : List Int) (P : Int → Prop) (h : ∀ j : Nat, j < l.length → P (rd l (j : Int))) : ∀ w ∈ l, P w := by
  intro w hw
  obtain ⟨j, hj, rfl⟩ := List.getElem_of_mem hw
  have := h j hj
  simpa [rd, hj] using this

theorem weights_eq (k : Nat) (hk : 100 ≤ k) (l : List Int) : ∃ w, fixed_Weights.f k l = some w ∧ tilefarmref7_Weights.f k l = some w ∧ (w = 0 → l.length ≤ 81 ∧ ∀ x ∈ l, -32767 ≤ x ∧ x ≤ 32767) := by
  obtain ⟨k, rfl⟩ : ∃ m, k = m + 1 := ⟨k - 1, by omega⟩
  unfold fixed_Weights.f tilefarmref7_Weights.f
  by_cases c0 : (l.length : Int) = 0
  · rw [if_pos c0, if_pos c0]
    refine ⟨9, ?_, ?_, fun h => absurd h (by decide)⟩
    · simp only [fixed_Weights.j0]; rw [if_pos trivial]
    · simp only [tilefarmref7_Weights.j0]; rw [if_pos trivial]
  · rw [if_neg c0, if_neg c0]
    by_cases c1 : (l.length : Int) > 81
    · rw [decide_eq_true c1]
      refine ⟨9, ?_, ?_, fun h => absurd h (by decide)⟩
      · simp only [fixed_Weights.j0]; rw [if_pos trivial]
      · simp only [tilefarmref7_Weights.j0]; rw [if_pos trivial]
    · rw [decide_eq_false c1]
      have hl : l.length ≤ 81 := by omega
      obtain ⟨ok, r1, r2, r3⟩ := weights_loop l hl l.length k 0 (by omega) (by omega)
      simp only [fixed_Weights.j0, tilefarmref7_Weights.j0, Bool.false_eq_true, if_false]
      unfold tilefarmref7_AreWeights.f
      have r1' : fixed_Weights.l0 k l (l.length : Int) 0 = some (if ok = true then 0 else 10) := r1
      have r2' : tilefarmref7_AreWeights.l0 k l 0 = some ok := r2
      rw [r1', r2', Option.bind_some]
      refine ⟨if ok = true then 0 else 10, rfl, by split <;> rfl, fun h => ⟨hl, ?_⟩⟩
      cases ok with
      | false => exact absurd h (by decide)
      | true => exact mem_rd' l _ (fun j hj => r3 rfl j (Nat.zero_le _) hj)

theorem bounds_eq (k : Nat) (hk : 200 ≤ k) (l : List Int) (lo hi : Int) : ∃ v, fixed_Bounds.f k l lo hi = some v ∧ tilefarmref7_Bounds.f k l lo hi = some v := by
  obtain ⟨k, rfl⟩ : ∃ m, k = m + 1 + 1 := ⟨k - 2, by omega⟩
  obtain ⟨w, w1, w2, w3⟩ := weights_eq (k + 1 + 1) (by omega) l
  unfold fixed_Bounds.f tilefarmref7_Bounds.f
  rw [w1, w2, Option.bind_some, Option.bind_some]
  have no : tilefarmref7_Bounds.j0 (k + 1 + 1) l lo hi true = some (0, 0, false) := by simp only [tilefarmref7_Bounds.j0]; rw [if_pos trivial]
  by_cases c0 : w = 0
  · rw [if_pos c0, if_pos c0]
    obtain ⟨hl, hw⟩ := w3 c0
    by_cases c1 : lo > hi
    · rw [if_pos c1, if_pos c1, no]; exact ⟨_, rfl, rfl⟩
    · rw [if_neg c1, if_neg c1]
      by_cases c2 : lo < -68719476736
      · rw [if_pos c2, if_pos c2, no]; exact ⟨_, rfl, rfl⟩
      · rw [if_neg c2, if_neg c2]
        by_cases c3 : hi > 68719476736
        · rw [if_pos c3, decide_eq_true c3, no]; exact ⟨_, rfl, rfl⟩
        · rw [if_neg c3, decide_eq_false c3]
          simp only [tilefarmref7_Bounds.j0, Bool.false_eq_true, if_false]
          obtain ⟨v, v1, v2⟩ := bounds_loop l hl hw lo hi (by omega) (by omega) (by omega) l.length (k + 1) 0 0 0 0 0 0 0 (by omega) (by omega) (by decide) (by decide) (by decide) (by decide) (by decide) (by decide) (by decide) (by decide) (by decide) (by decide)
          have v0 : fixed_Bounds.l0 (k + 1 + 1) l lo hi 0 0 0 0 0 = some v := fixed_Bounds.mono_l (k + 1) _ _ _ _ _ _ _ _ _ v1
          exact ⟨v, v0, v2⟩
  · rw [if_neg c0, if_neg c0, no]; exact ⟨_, rfl, rfl⟩


theorem tweights_loop (l : List Int) (hl : l.length ≤ 4611686018427387904) (N : Nat) (hN : N ≤ 100) (n : Nat) :
    ∀ (k i : Nat) (xs : List Int) (s : Int), i + n = N → n + 1 ≤ k → xs.length = i → 0 ≤ s →
      ∃ bt, 0 ≤ bt.2 ∧ tilefarmgen_Tape_Weights.l0 k (N : Int) xs (i : Int) l s = some bt := by
  induction n with
  | zero =>
    intro k i xs s hi hk hx hs
    obtain ⟨k, rfl⟩ : ∃ m, k = m + 1 := ⟨k - 1, by omega⟩
    simp only [tilefarmgen_Tape_Weights.l0]
    rw [if_neg (by omega)]
    exact ⟨(xs, s), hs, rfl⟩
  | succ n ih =>
    intro k i xs s hi hk hx hs
    obtain ⟨k, rfl⟩ : ∃ m, k = m + 1 := ⟨k - 1, by omega⟩
    have e1 : wrap64 ((i : Int) + 1) = ((i + 1 : Nat) : Int) := by rw [wrap_in (by omega) (by omega)]; omega
    obtain ⟨bt, a1, a2, a3, a4⟩ := next_o l s 41 hs hl (by decide) (by decide)
    obtain ⟨bu, b1, -, b3⟩ := pick_o l bt.2 [1, 2, (-1), 0, wrap64 (bt.1 - 20), 5] a4 hl (by simp) (by simp)
    obtain ⟨bv, c1, c2⟩ := ih k (i + 1) (xs ++ [bu.1]) bu.2 (by omega) (by omega) (by simp; omega) b3
    refine ⟨bv, c1, ?_⟩
    simp only [tilefarmgen_Tape_Weights.l0]
    rw [if_pos (by omega), a1, Option.bind_some, b1, Option.bind_some, if_pos (by omega), e1]
    exact c2

theorem tweights_o (k : Nat) (hk : 200 ≤ k) (l : List Int) (hl : l.length ≤ 4611686018427387904) (s n : Int) (hs : 0 ≤ s) (hn : 0 ≤ n) (hn' : n ≤ 100) :
    ∃ bt, tilefarmgen_Tape_Weights.f k l s n = some bt ∧ 0 ≤ bt.2 := by
  obtain ⟨N, rfl⟩ := Int.eq_ofNat_of_zero_le hn
  obtain ⟨bt, h1, h2⟩ := tweights_loop l hl N (by omega) N k 0 [] s (by omega) (by omega) rfl hs
  exact ⟨bt, h2, h1⟩


theorem sane_eq : tilefarmlaw9_sane.f 60 = some true := by decide +kernel

theorem value_same (a : Int) : ∃ b : Bool, convolve_value.f a = some b ∧ tilefarmref9_Value.f a = some b := by
  unfold convolve_value.f tilefarmref9_Value.f
  by_cases c : a ≥ 1
  · rw [if_pos c]; exact ⟨_, rfl, rfl⟩
  · rw [if_neg c]; exact ⟨_, rfl, rfl⟩

theorem side_val (a : Int) : convolve_kernel.f a = some (decide (1 ≤ a ∧ a ≤ 9)) ∧ tilefarmref9_Side.f a = some (decide (1 ≤ a ∧ a ≤ 9)) := by
  unfold convolve_kernel.f tilefarmref9_Side.f
  by_cases c : a ≥ 1
  · rw [if_pos c]; exact ⟨sd_iff ⟨fun h => ⟨c, h⟩, fun h => h.2⟩, sd_iff ⟨fun h => ⟨c, h⟩, fun h => h.2⟩⟩
  · rw [if_neg c]; exact ⟨sd_false (fun h => c h.1), sd_false (fun h => c h.1)⟩

theorem j2_same (k : Nat) (hk : 200 ≤ k) (m : Int) (l : List Int) (b : Bool) : ∃ v, convolve_Check.j2 (k + 1) m l b = some v ∧ tilefarmref9_Check.j2 (k + 1) m l b = some v := by
  obtain ⟨t, h1, h2⟩ := bounds_eq k hk l 0 m
  rw [convolve_Check.j2, tilefarmref9_Check.j2]
  by_cases c : b = true
  · rw [if_pos c, if_pos c]; exact ⟨_, rfl, rfl⟩
  · rw [if_neg c, if_neg c, h1, h2, Option.bind_some]
    by_cases d : t.2.2 = true
    · rw [if_pos d]; exact ⟨_, rfl, rfl⟩
    · rw [if_neg d]; exact ⟨_, rfl, rfl⟩

theorem j1_same (k : Nat) (hk : 200 ≤ k) (m : Int) (l : List Int) (o : Int) (b : Bool) : ∃ v, convolve_Check.j1 (k + 1 + 1) m l o b = some v ∧ tilefarmref9_Check.j1 (k + 1 + 1) m l o b = some v := by
  obtain ⟨p, h1, h2⟩ := value_same m
  obtain ⟨q, g1, g2⟩ := value_same o
  rw [convolve_Check.j1, tilefarmref9_Check.j1]
  by_cases c : b = true
  · rw [if_pos c, if_pos c]; exact ⟨_, rfl, rfl⟩
  · rw [if_neg c, if_neg c, h1, h2, Option.bind_some, Option.bind_some]
    by_cases d : p = true
    · rw [if_pos d, if_pos d, g1, g2, Option.bind_some, Option.bind_some]
      exact j2_same k hk m l _
    · rw [if_neg d, if_neg d]
      exact j2_same k hk m l true

theorem j0_same (k : Nat) (hk : 200 ≤ k) (m : Int) (l : List Int) (s o : Int) (b : Bool) (hb : b = false → 1 ≤ l.length ∧ l.length ≤ 81) : ∃ v, convolve_Check.j0 (k + 1 + 1 + 1) m l s o b = some v ∧ tilefarmref9_Check.j0 (k + 1 + 1 + 1) m l s o b = some v := by
  rw [convolve_Check.j0, tilefarmref9_Check.j0]
  by_cases c : b = true
  · rw [if_pos c, if_pos c]; exact ⟨_, rfl, rfl⟩
  · rw [if_neg c, if_neg c]
    obtain ⟨l1, l2⟩ := hb (by simpa using c)
    obtain ⟨ok, r1, r2, r3⟩ := weights_loop l l2 l.length k 0 (by omega) (by omega)
    have r1' : fixed_Weights.f (k + 1 + 1) l = some (if ok = true then 0 else 10) := by
      unfold fixed_Weights.f
      rw [if_neg (show ¬ (l.length : Int) = 0 by omega), decide_eq_false (show ¬ (l.length : Int) > 81 by omega)]
      simp only [fixed_Weights.j0, Bool.false_eq_true, if_false]
      exact fixed_Weights.mono_l k |>.2 _ _ _ _ r1
    have r2' : tilefarmref7_AreWeights.f (k + 1 + 1) l = some ok := by
      unfold tilefarmref7_AreWeights.f
      exact tilefarmref7_AreWeights.mono_l (k + 1) _ _ _ (tilefarmref7_AreWeights.mono_l k _ _ _ r2)
    rw [r1', r2', Option.bind_some, Option.bind_some]
    by_cases d : ok = true
    · rw [if_pos d, if_pos rfl, if_pos d]
      unfold tilefarmref7_IsShift.f
      by_cases e : s < 0
      · rw [if_pos e, if_neg (show ¬ s ≥ 0 by omega), Option.bind_some]
        exact j1_same k hk m l o true
      · rw [if_neg e, if_pos (show s ≥ 0 by omega), Option.bind_some]
        have : (!decide (s ≤ 24)) = decide (s > 24) := by
          by_cases q : s ≤ 24
          · rw [decide_eq_true q, decide_eq_false (show ¬ s > 24 by omega)]; rfl
          · rw [decide_eq_false q, decide_eq_true (show s > 24 by omega)]; rfl
        rw [this]
        exact j1_same k hk m l o _
    · rw [if_neg d, if_neg (show ¬ (10 : Int) = 0 by decide), if_neg d]
      exact j1_same k hk m l o true

theorem check_same (k : Nat) (hk : 300 ≤ k) (m a b : Int) (l : List Int) (s o : Int) : ∃ v, convolve_Check.f k m a b l s o = some v ∧ tilefarmref9_Check.f k m a b l s o = some v := by
  obtain ⟨k, rfl⟩ : ∃ n, k = n + 1 + 1 + 1 := ⟨k - 3, by omega⟩
  unfold convolve_Check.f tilefarmref9_Check.f
  rw [(side_val a).1, (side_val a).2, Option.bind_some, Option.bind_some]
  by_cases c : 1 ≤ a ∧ a ≤ 9
  · rw [decide_eq_true c, if_pos rfl, if_pos rfl, (side_val b).1, (side_val b).2, Option.bind_some, Option.bind_some]
    by_cases d : 1 ≤ b ∧ b ≤ 9
    · rw [decide_eq_true d, if_pos rfl, if_pos rfl]
      have hm := mul_bd (x := a) (y := b) (B := 9) (C := 9) (by omega) (by omega) c.2 d.2
      have hm1 : a * 1 ≤ a * b := Int.mul_le_mul_of_nonneg_left d.1 (by omega)
      rw [wrap_in (n := a * b) (by omega) (by omega)]
      refine j0_same k (by omega) m l s o _ (fun h => ?_)
      have h' := bne_eq_false_iff_eq.1 h
      omega
    · rw [decide_eq_false d, if_neg Bool.false_ne_true, if_neg Bool.false_ne_true]
      exact j0_same k (by omega) m l s o true (fun h => by cases h)
  · rw [decide_eq_false c, if_neg Bool.false_ne_true, if_neg Bool.false_ne_true]
    exact j0_same k (by omega) m l s o true (fun h => by cases h)

theorem jj2 (t : List Int) (ht : t.length ≤ 4611686018427387904) (x1 : List Int) (x2 x3 x4 x5 x6 i a b : Int) (w : List Int) (s : Int) (hs : 0 ≤ s) (h0 : 0 ≤ i) (hi : i < 5) (k : Nat) (hk : 300 ≤ k) :
    ∃ s', 0 ≤ s' ∧ tilefarmlaw9_ConvolveChecks.j2 (k + 1) x1 x2 x3 x4 x5 x6 i a b w t s = tilefarmlaw9_ConvolveChecks.l0 k x1 x2 x3 x4 x5 x6 (i + 1) t s' := by
  obtain ⟨q1, h1, _, h1c⟩ := pick_o t s [255, 65535, 0, 4294967296, 4294967297] hs ht (by simp) (by simp)
  obtain ⟨q2, h2, _, h2c⟩ := pick_o t q1.2 [0, 24, 25, (-1)] h1c ht (by simp) (by simp)
  obtain ⟨q3, h3, _, h3c⟩ := pick_o t q2.2 [255, 0, 4294967296] h2c ht (by simp) (by simp)
  obtain ⟨v, g1, g2⟩ := check_same k hk q1.1 a b w q2.1 q3.1
  refine ⟨q3.2, h3c, ?_⟩
  rw [tilefarmlaw9_ConvolveChecks.j2, h1, Option.bind_some, h2, Option.bind_some, h3, Option.bind_some, g1, Option.bind_some, g2, Option.bind_some, if_pos rfl, wrap_in (n := i + 1) (by omega) (by omega)]

theorem jj1 (t : List Int) (ht : t.length ≤ 4611686018427387904) (x1 : List Int) (x2 x3 x4 x5 x6 i a b : Int) (w : List Int) (f : Bool) (hf : f = true → 0 < w.length) (s : Int) (hs : 0 ≤ s) (h0 : 0 ≤ i) (hi : i < 5) (k : Nat) (hk : 300 ≤ k) :
    ∃ s', 0 ≤ s' ∧ tilefarmlaw9_ConvolveChecks.j1 (k + 1 + 1) x1 x2 x3 x4 x5 x6 i a b w f t s = tilefarmlaw9_ConvolveChecks.l0 k x1 x2 x3 x4 x5 x6 (i + 1) t s' := by
  rw [tilefarmlaw9_ConvolveChecks.j1]
  by_cases c : f = true
  · obtain ⟨q, h1, _, h1c⟩ := pick_o t s [32767, 32768, (-32767)] hs ht (by simp) (by simp)
    rw [if_pos c, h1, Option.bind_some, if_pos (show 0 < (w.length : Int) by have := hf c; omega)]
    exact jj2 t ht x1 x2 x3 x4 x5 x6 i a b _ q.2 h1c h0 hi k hk
  · rw [if_neg c]
    exact jj2 t ht x1 x2 x3 x4 x5 x6 i a b w s hs h0 hi k hk

theorem round (t : List Int) (ht : t.length ≤ 4611686018427387904) (x1 : List Int) (x2 x3 x4 x5 x6 i : Int) (s : Int) (hs : 0 ≤ s) (h0 : 0 ≤ i) (hi : i < 5) (k : Nat) (hk : 300 ≤ k) :
    ∃ s', 0 ≤ s' ∧ tilefarmlaw9_ConvolveChecks.l0 (k + 1 + 1 + 1) x1 x2 x3 x4 x5 x6 i t s = tilefarmlaw9_ConvolveChecks.l0 k x1 x2 x3 x4 x5 x6 (i + 1) t s' := by
  obtain ⟨r1, h1, h1a, h1b, h1c⟩ := next_o t s 11 hs ht (by omega) (by omega)
  obtain ⟨r2, h2, h2a, h2b, h2c⟩ := next_o t r1.2 5 h1c ht (by omega) (by omega)
  obtain ⟨r3, h3, h3a, h3b, h3c⟩ := next_o t r2.2 8 h2c ht (by omega) (by omega)
  have hm := mul_bd (x := r1.1) (y := r2.1) (B := 10) (C := 4) h1a h2a (by omega) (by omega)
  have hd0 : 0 ≤ Int.tdiv r3.1 7 := by rw [Int.tdiv_eq_ediv_of_nonneg h3a]; omega
  have hd1 : Int.tdiv r3.1 7 ≤ 1 := by rw [Int.tdiv_eq_ediv_of_nonneg h3a]; omega
  obtain ⟨w, g1, g2⟩ := tweights_o (k + 1 + 1) (by omega) t ht r3.2 (r1.1 * r2.1 + Int.tdiv r3.1 7) h3c (by omega) (by omega)
  rw [tilefarmlaw9_ConvolveChecks.l0, if_pos hi, h1, Option.bind_some, h2, Option.bind_some, h3, Option.bind_some, wrap_in (n := r1.1 * r2.1) (by omega) (by omega), wrap_in (n := Int.tdiv r3.1 7) (by omega) (by omega), wrap_in (n := r1.1 * r2.1 + Int.tdiv r3.1 7) (by omega) (by omega), g1, Option.bind_some]
  by_cases c : (w.1.length : Int) > 0
  · obtain ⟨r4, h4, h4a, h4b, h4c⟩ := next_o t w.2 4 g2 ht (by omega) (by omega)
    rw [if_pos c, h4, Option.bind_some]
    exact jj1 t ht x1 x2 x3 x4 x5 x6 i r1.1 r2.1 w.1 _ (fun _ => by omega) r4.2 h4c h0 hi k hk
  · rw [if_neg c]
    exact jj1 t ht x1 x2 x3 x4 x5 x6 i r1.1 r2.1 w.1 false (fun h => by cases h) w.2 g2 h0 hi k hk

theorem ConvolveChecks : tilefarmlaw9_ConvolveChecks.Pure := by
  intro t l x2 x3 x4 x5 x6 hl hl8 _ _ _ _ _ _ _ _ _
  have ht : t.length ≤ 4611686018427387904 := by omega
  obtain ⟨K, hK⟩ : ∃ K : Nat, 300 ≤ K := ⟨300, Nat.le_refl _⟩
  refine ⟨K + 1 + 1 + 1 + 1 + 1 + 1 + 1 + 1 + 1 + 1 + 1 + 1 + 1 + 1 + 1 + 1, ?_⟩
  obtain ⟨s1, h1, e1⟩ := round t ht l x2 x3 x4 x5 x6 0 0 (by omega) (by omega) (by omega) (K + 1 + 1 + 1 + 1 + 1 + 1 + 1 + 1 + 1 + 1 + 1 + 1 + 1) (by omega)
  obtain ⟨s2, h2, e2⟩ := round t ht l x2 x3 x4 x5 x6 1 s1 h1 (by omega) (by omega) (K + 1 + 1 + 1 + 1 + 1 + 1 + 1 + 1 + 1 + 1) (by omega)
  obtain ⟨s3, h3, e3⟩ := round t ht l x2 x3 x4 x5 x6 2 s2 h2 (by omega) (by omega) (K + 1 + 1 + 1 + 1 + 1 + 1 + 1) (by omega)
  obtain ⟨s4, h4, e4⟩ := round t ht l x2 x3 x4 x5 x6 3 s3 h3 (by omega) (by omega) (K + 1 + 1 + 1 + 1) (by omega)
  obtain ⟨s5, h5, e5⟩ := round t ht l x2 x3 x4 x5 x6 4 s4 h4 (by omega) (by omega) (K + 1) (by omega)
  have hsane : tilefarmlaw9_sane.f K = some true := at_rounds tilefarmlaw9_sane.mono (by omega) sane_eq
  unfold tilefarmlaw9_ConvolveChecks.f tilefarmgen_New.f
  rw [Option.bind_some]
  refine e1.trans (e2.trans (e3.trans (e4.trans (e5.trans ?_))))
  rw [tilefarmlaw9_ConvolveChecks.l0, if_neg (show ¬ (4 + 1 : Int) < 5 by omega)]
  by_cases c : (l.length : Int) > 1000
  · rw [if_pos c, hsane, Option.bind_some]
  · obtain ⟨v, g1, g2⟩ := check_same K hK x2 x3 x4 l x5 x6
    rw [if_neg c, g1, Option.bind_some, g2, Option.bind_some, if_pos rfl, hsane, Option.bind_some]


end Go.Proofs.Ythgmndomnibefaa.Pure
namespace Go.Proofs.Ythgmndomnibefaa
open Go.ChangeShapes Go.WideShapes
/-- The print's own word, under the name that the printed row uses. -/
theorem PrintWords.sized_ints {H : Type} {enc : TypeId × Value → H} {P : Program} {W : World} {base : Nat} {spare : Nat → Bool} {held : Bool} {t e : TypeId} {k : IntKind} {a : Option Addr} {len cap : Nat} {d : DataW H} {ps : List MemPlace} {ts : List TypeId} {ds : List (DataW H)} {j : Nat}
    (hsz : (DataW.weightsEach P ts ds).all (· ≤ reachBytes) = true) (ht : ts[j]? = some t) (hd : ds[j]? = some d) (hu : P.underlying t = some (.slice e)) (he : P.underlying e = some (.int k)) (hc : P.cellsOf e = 1) {B : Nat} (hB : P.bytesOf e = B)
    (h : DataW.Trod enc P W base spare held t (.slice a len cap) d ps) : len * B ≤ 140737488351232 :=
  Go.Proofs.YthgmndomnibefaaW.PrintWords.sized_ints hsz ht hd hu he hc hB h
end Go.Proofs.Ythgmndomnibefaa

/- The errors of row and column kernels are those of the reference: for every tape, every two lists and all numbers. -/
import Derived.Test.YtcfllciehmgikaaKSeparableChecksx10
import Derived.Test.YtcfllciehmgikaaKSeparableChecksa
namespace Go.Proofs.Ytcfllciehmgikaa.Pure
open Go.RowKit Go.Proofs.Ytcfllciehmgikaa.PSeparableChecks Go.Proofs.YtcfllciehmgikaaW.PrintWords Go.Proofs.YtcfllciehmgikaaW.PrintLast Go.Proofs.YtcfllciehmgikaaW.PrintMore
set_option linter.unusedVariables false
set_option linter.unusedSimpArgs false

theorem wrap_in {n : Int} (h : -9223372036854775808 ≤ n) (h' : n ≤ 9223372036854775807) : wrap64 n = n := by unfold wrap64; omega

theorem tmod_emod (a n : Int) (h : 0 < n) : (0 ≤ Int.tmod a n ∧ Int.tmod a n = a % n) ∨ (Int.tmod a n < 0 ∧ Int.tmod a n + n = a % n) := by
  have h1 := Int.tmod_eq_emod (a := a) (b := n)
  have h2 := Int.emod_nonneg a (by omega : n ≠ 0)
  have h3 := Int.emod_lt_of_pos a h
  split at h1 <;> omega

theorem mod_eq (a n : Int) (h : 0 < n) (hn : n ≤ 4611686018427387904) : tilefarmgen_Mod.f a n = some (a % n) := by
  have h2 := Int.emod_nonneg a (by omega : n ≠ 0)
  have h3 := Int.emod_lt_of_pos a h
  unfold tilefarmgen_Mod.f
  rw [if_neg (by omega)]
  rcases tmod_emod a n h with ⟨h4, h5⟩ | ⟨h4, h5⟩
  · rw [if_neg (by omega), h5]
  · rw [if_pos h4, wrap_in (by omega) (by omega), h5]

theorem sd_true {p : Prop} [Decidable p] (h : p) : some true = some (decide p) := by rw [decide_eq_true h]
theorem sd_false {p : Prop} [Decidable p] (h : ¬ p) : some false = some (decide p) := by rw [decide_eq_false h]
theorem sd_iff {p q : Prop} [Decidable p] [Decidable q] (h : q ↔ p) : some (decide q) = some (decide p) := by rw [decide_eq_decide.2 h]

theorem mx_max (a b : Int) : mx a b = max a b := by unfold mx; omega
theorem mn_min (a b : Int) : mn a b = min a b := by unfold mn; omega

theorem mul_bd {x y B C : Int} (hx : 0 ≤ x) (hy : 0 ≤ y) (hxB : x ≤ B) (hyB : y ≤ C) : 0 ≤ x * y ∧ x * y ≤ B * C :=
  ⟨Int.mul_nonneg hx hy, Int.mul_le_mul hxB hyB hy (by omega)⟩

theorem dec_iff {p q : Prop} [Decidable p] [Decidable q] (h : p ↔ q) : decide p = decide q := decide_eq_decide.2 h
theorem and_not_dec (p q : Prop) [Decidable p] [Decidable q] : (decide p && !decide q) = decide (p ∧ ¬ q) := by
  by_cases hp : p <;> by_cases hq : q <;> simp [hp, hq]

theorem wrap64_range (n : Int) : -9223372036854775808 ≤ wrap64 n ∧ wrap64 n ≤ 9223372036854775807 := by unfold wrap64; omega

theorem wf_range {n : Int} (h : (Lit.int .i64 n).wf = true) : -9223372036854775808 ≤ n ∧ n ≤ 9223372036854775807 := by
  simp only [Lit.wf, IntKind.min, IntKind.max, IntKind.signed, IntKind.bits, Bool.and_eq_true, decide_eq_true_eq, if_true] at h
  omega


theorem next_spec (l : List Int) (s n : Int) (hs : 0 ≤ s) (hl : l.length ≤ 4611686018427387904) (h : 0 < n) (hn : n ≤ 4611686018427387904) :
    ∃ r s', tilefarmgen_Tape_Next.f l s n = some (r, s') ∧ 0 ≤ r ∧ r < n ∧ 0 ≤ s' := by
  unfold tilefarmgen_Tape_Next.f
  rw [if_neg (by omega)]
  by_cases h1 : s ≥ (l.length : Int)
  · rw [if_pos h1]; exact ⟨_, _, rfl, by omega, by omega, hs⟩
  · have e1 : wrap64 (s + 1) = s + 1 := wrap_in (by omega) (by omega)
    have e2 : wrap64 (s + 1 - 1) = s := by rw [wrap_in (by omega) (by omega)]; omega
    rw [if_neg h1]
    simp only [e1, e2]
    rw [if_pos hs, if_pos (by omega), mod_eq _ _ h hn]
    exact ⟨_, _, rfl, Int.emod_nonneg _ (by omega), Int.emod_lt_of_pos _ h, by omega⟩


theorem rd_mem (l : List Int) (i : Nat) (h : i < l.length) : rd l (i : Int) ∈ l := by
  simp [rd, h]

theorem rd_drop (l : List Int) (i : Nat) (h : i < l.length) : l.drop i = rd l (i : Int) :: l.drop (i + 1) := by
  rw [List.drop_eq_getElem_cons h]
  simp [rd, h]

theorem next_o (l : List Int) (s n : Int) (hs : 0 ≤ s) (hl : l.length ≤ 4611686018427387904) (h : 0 < n) (hn : n ≤ 4611686018427387904) :
    ∃ bt, tilefarmgen_Tape_Next.f l s n = some bt ∧ 0 ≤ bt.1 ∧ bt.1 < n ∧ 0 ≤ bt.2 := by
  obtain ⟨r, s', h1, h2, h3, h4⟩ := next_spec l s n hs hl h hn
  exact ⟨(r, s'), h1, h2, h3, h4⟩

theorem pick_o (l : List Int) (s : Int) (xs : List Int) (hs : 0 ≤ s) (hl : l.length ≤ 4611686018427387904) (h : 0 < xs.length) (hx : xs.length ≤ 100) :
    ∃ bt, tilefarmgen_Tape_Pick.f l s xs = some bt ∧ bt.1 ∈ xs ∧ 0 ≤ bt.2 := by
  obtain ⟨r, s', h1, h2, h3, h4⟩ := next_spec l s (xs.length : Int) hs hl (by omega) (by omega)
  refine ⟨(rd xs r, s'), ?_, ?_, h4⟩
  · unfold tilefarmgen_Tape_Pick.f
    rw [h1, Option.bind_some, if_pos h2, if_pos h3]
  · obtain ⟨n, rfl⟩ := Int.eq_ofNat_of_zero_le h2
    exact rd_mem xs n (by omega)


theorem mulb {w x W X : Int} (h1 : -W ≤ w) (h2 : w ≤ W) (h3 : -X ≤ x) (h4 : x ≤ X) : -(W * X) ≤ w * x ∧ w * x ≤ W * X := by
  have p1 := Int.mul_nonneg (show 0 ≤ W - w by omega) (show 0 ≤ X + x by omega)
  have p2 := Int.mul_nonneg (show 0 ≤ W + w by omega) (show 0 ≤ X - x by omega)
  have p3 := Int.mul_nonneg (show 0 ≤ W - w by omega) (show 0 ≤ X - x by omega)
  have p4 := Int.mul_nonneg (show 0 ≤ W + w by omega) (show 0 ≤ X + x by omega)
  simp only [Int.sub_mul, Int.add_mul, Int.mul_sub, Int.mul_add] at p1 p2 p3 p4
  omega

theorem i64_low {n : Int} (h : -9223372036854775808 ≤ n) (h' : n ≤ 9223372036854775807) : Go.bits .and .i64 n 4294967295 = n % 4294967296 := by
  unfold Go.bits
  show IntKind.i64.wrap (((BitVec.ofInt 64 n) &&& (BitVec.ofInt 64 4294967295)).toNat : Int) = _
  rw [BitVec.toNat_and, BitVec.toNat_ofInt, BitVec.toNat_ofInt]
  have e1 : ((4294967295 : Int) % ((2 ^ 64 : Nat) : Int)).toNat = 2 ^ 32 - 1 := by decide +kernel
  rw [e1, Nat.and_two_pow_sub_one_eq_mod, Go.IntKind.wrap_i64]
  omega

theorem add_eq {a b n : Int} (hn : -2251799813685248 ≤ n) (hn' : n ≤ 2251799813685248) (hb : 0 ≤ b) (hb' : b ≤ 1000000000000) (ha : -100000000 ≤ a) (ha' : a ≤ 100000000) :
    ∃ a' b', fixed_wide_add.f a b n = some (a', b') ∧ a' * 4294967296 + b' = a * 4294967296 + b + n ∧ b ≤ b' ∧ b' ≤ b + 4294967296 := by
  unfold fixed_wide_add.f
  rw [i64_low (by omega) (by omega), wrap_in (by omega) (by omega), wrap_in (by omega) (by omega)]
  exact ⟨_, _, rfl, by omega, by omega, by omega⟩

theorem add_step {a b S n i : Int} (hi0 : 0 ≤ i) (hi : i ≤ 81) (hS : a * 4294967296 + b = S) (b1 : 0 ≤ b) (b2 : b ≤ 4294967296 * i) (s1 : -2251799813685248 * i ≤ S) (s2 : S ≤ 2251799813685248 * i) (hn : -2251799813685248 ≤ n ∧ n ≤ 2251799813685248) :
    ∃ a' b', fixed_wide_add.f a b n = some (a', b') ∧ a' * 4294967296 + b' = S + n ∧ (0 ≤ b' ∧ b' ≤ 4294967296 * (i + 1)) ∧ (-2251799813685248 * (i + 1) ≤ S + n ∧ S + n ≤ 2251799813685248 * (i + 1)) ∧ wrap64 (S + n) = S + n := by
  obtain ⟨a', b', f1, f2, f3, f4⟩ := add_eq (a := a) (b := b) (n := n) hn.1 hn.2 b1 (by omega) (by omega) (by omega)
  exact ⟨a', b', f1, by omega, ⟨by omega, by omega⟩, ⟨by omega, by omega⟩, wrap_in (by omega) (by omega)⟩

def inAcc (S : Int) : Bool := decide (-17592186044416 ≤ S) && decide (S ≤ 17592186044416)

theorem value_eq {a b S : Int} (hS : a * 4294967296 + b = S) (hb : 0 ≤ b) (hb' : b ≤ 4294967296 * 81) : ∃ p u v, fixed_wide_value.f a b = some (p, inAcc S, u, v) ∧ (inAcc S = true → p = S) := by
  unfold fixed_wide_value.f fixed_sum.f inAcc
  by_cases c1 : a < -1048576
  · rw [if_pos c1, decide_eq_false (show ¬ -17592186044416 ≤ S by omega)]
    exact ⟨_, _, _, rfl, fun h => by cases h⟩
  · rw [if_neg c1]
    by_cases c2 : a > 1048576
    · rw [if_pos c2, decide_eq_false (show ¬ S ≤ 17592186044416 by omega), Bool.and_false]
      exact ⟨_, _, _, rfl, fun h => by cases h⟩
    · rw [if_neg c2, wrap_in (n := a * 4294967296) (by omega) (by omega), hS, wrap_in (n := S) (by omega) (by omega)]
      by_cases c3 : S ≥ -17592186044416
      · rw [if_pos c3, decide_eq_true (show -17592186044416 ≤ S from c3), Bool.true_and]
        exact ⟨_, _, _, rfl, fun _ => rfl⟩
      · rw [if_neg c3, decide_eq_false (show ¬ -17592186044416 ≤ S from c3), Bool.false_and]
        exact ⟨_, _, _, rfl, fun h => by cases h⟩

theorem idx {i n L : Nat} (h : i + (n + 1) = L) : i + 1 + n = L ∧ i < L := by omega
theorem next_i {i L : Nat} (h : i < L) (hL : L ≤ 1000) : wrap64 ((i : Int) + 1) = ((i + 1 : Nat) : Int) ∧ (i : Int) ≤ 1000 ∧ (i : Int) < (L : Int) ∧ 0 ≤ (i : Int) := by
  refine ⟨?_, by omega, by omega, by omega⟩
  rw [wrap_in (by omega) (by omega)]; omega
theorem minmax_bd {x y : Int} (h : -(32767 * 68719476736) ≤ x ∧ x ≤ 32767 * 68719476736) (h' : -(32767 * 68719476736) ≤ y ∧ y ≤ 32767 * 68719476736) : (-2251799813685248 ≤ min x y ∧ min x y ≤ 2251799813685248) ∧ (-2251799813685248 ≤ max x y ∧ max x y ≤ 2251799813685248) ∧ wrap64 x = x ∧ wrap64 y = y :=
  ⟨by omega, by omega, wrap_in (by omega) (by omega), wrap_in (by omega) (by omega)⟩
theorem small_i {i L : Nat} (h : i < L) (hL : L ≤ 81) : (i : Int) ≤ 81 := by omega
theorem end_bd {b : Int} {i L : Nat} (h : i + 0 = L) (hL : L ≤ 81) (hb : b ≤ 4294967296 * (i : Int)) : b ≤ 4294967296 * 81 ∧ ¬ (i : Int) < (L : Int) := by omega


theorem acc_eq (S : Int) : tilefarmref7_Acc.f S = some (inAcc S) := by
  unfold tilefarmref7_Acc.f inAcc
  by_cases c3 : S ≥ -17592186044416
  · rw [if_pos c3, decide_eq_true (show -17592186044416 ≤ S from c3), Bool.true_and]
  · rw [if_neg c3, decide_eq_false (show ¬ -17592186044416 ≤ S from c3), Bool.false_and]

theorem bounds_loop (l : List Int) (hl : l.length ≤ 81) (hw : ∀ w ∈ l, -32767 ≤ w ∧ w ≤ 32767) (lo hi : Int) (h1 : -68719476736 ≤ lo) (h2 : lo ≤ hi) (h3 : hi ≤ 68719476736) (n : Nat) :
    ∀ (k i : Nat) (a b c d S T : Int), i + n = l.length → n + 2 ≤ k → a * 4294967296 + b = S → c * 4294967296 + d = T → 0 ≤ b → b ≤ 4294967296 * i → 0 ≤ d → d ≤ 4294967296 * i →
      -2251799813685248 * (i : Int) ≤ S → S ≤ 2251799813685248 * i → -2251799813685248 * (i : Int) ≤ T → T ≤ 2251799813685248 * i →
      ∃ v, fixed_Bounds.l0 k l lo hi (i : Int) a b c d = some v ∧ tilefarmref7_Bounds.l0 k l lo hi S T (i : Int) = some v := by
  induction n with
  | zero =>
    intro k i a b c d S T hi' hk hS hT b1 b2 d1 d2 s1 s2 t1 t2
    obtain ⟨k, rfl⟩ : ∃ m, k = m + 1 := ⟨k - 1, (Nat.sub_add_cancel (Nat.le_trans (Nat.le_add_left 1 _) hk)).symm⟩
    obtain ⟨g1, g2⟩ := end_bd hi' hl b2
    obtain ⟨g3, -⟩ := end_bd hi' hl d2
    simp only [fixed_Bounds.l0, tilefarmref7_Bounds.l0]
    obtain ⟨p, u, v, e1, e1'⟩ := value_eq hS b1 g1
    obtain ⟨p', u', v', e2, e2'⟩ := value_eq hT d1 g3
    clear s1 s2 t1 t2 hS hT b1 b2 d1 d2 h1 h2 h3 hw
    rw [if_neg g2, if_neg g2, e1, e2, acc_eq, acc_eq, Option.bind_some, Option.bind_some, Option.bind_some, Option.bind_some]
    by_cases c1 : inAcc S = true
    · rw [if_pos c1]
      by_cases c2 : inAcc T = true
      · rw [if_pos c2, e1' c1, e2' c2]
        exact ⟨(S, T, true), rfl, by rw [if_pos c1, if_pos c2]⟩
      · rw [if_neg c2]
        exact ⟨_, rfl, by rw [if_pos c1, if_neg c2]⟩
    · rw [if_neg c1]
      exact ⟨_, rfl, by rw [if_neg c1]⟩
  | succ n ih =>
    intro k i a b c d S T hi' hk hS hT b1 b2 d1 d2 s1 s2 t1 t2
    obtain ⟨k, rfl⟩ : ∃ m, k = m + 1 := ⟨k - 1, (Nat.sub_add_cancel (Nat.le_trans (Nat.le_add_left 1 _) hk)).symm⟩
    obtain ⟨hidx, hlt⟩ := idx hi'
    obtain ⟨e1, -, hI, hP⟩ := next_i hlt (Nat.le_trans hl (by decide))
    have hi9 := small_i hlt hl
    have hm := hw _ (rd_mem l i hlt)
    obtain ⟨hu, hv, wx, wy⟩ := minmax_bd (mulb (X := 68719476736) hm.1 hm.2 h1 (Int.le_trans h2 h3)) (mulb (X := 68719476736) hm.1 hm.2 (Int.le_trans h1 h2) h3)
    simp only [fixed_Bounds.l0, tilefarmref7_Bounds.l0]
    rw [if_pos hI, if_pos hP, if_pos hI, if_pos hP, e1, wx, wy, mn_min, mx_max]
    generalize min (rd l (i : Int) * lo) (rd l (i : Int) * hi) = u at hu ⊢
    generalize max (rd l (i : Int) * lo) (rd l (i : Int) * hi) = v at hv ⊢
    obtain ⟨a', b', f1, f2, f3, f4, f5⟩ := add_step hP hi9 hS b1 b2 s1 s2 hu
    obtain ⟨c', d', g1, g2, g3, g4, g5⟩ := add_step hP hi9 hT d1 d2 t1 t2 hv
    rw [f1, g1, f5, g5, Option.bind_some, Option.bind_some]
    have hc : ((i + 1 : Nat) : Int) = (i : Int) + 1 := Int.natCast_succ i
    exact ih k (i + 1) a' b' c' d' (S + u) (T + v) hidx (Nat.le_of_succ_le_succ hk) f2 g2 f3.1 (by rw [hc]; exact f3.2) g3.1 (by rw [hc]; exact g3.2) (by rw [hc]; exact f4.1) (by rw [hc]; exact f4.2) (by rw [hc]; exact g4.1) (by rw [hc]; exact g4.2)

theorem isw_eq (w : Int) : tilefarmref7_IsWeight.f w = some (decide (-32767 ≤ w) && decide (w ≤ 32767)) := by
  unfold tilefarmref7_IsWeight.f
  by_cases c : w ≥ -32767
  · rw [if_pos c, decide_eq_true (show -32767 ≤ w from c), Bool.true_and]
  · rw [if_neg c, decide_eq_false (show ¬ -32767 ≤ w from c), Bool.false_and]

/-- Both programs go through the weights alike; and where they find no fault, there is none from there on. -/
theorem weights_loop (l : List Int) (hl : l.length ≤ 81) (n : Nat) :
    ∀ (k i : Nat), i + n = l.length → n + 1 ≤ k → ∃ ok : Bool, fixed_Weights.l0 k l (l.length : Int) (i : Int) = some (if ok = true then 0 else 10) ∧ tilefarmref7_AreWeights.l0 k l (i : Int) = some ok ∧
      (ok = true → ∀ j : Nat, i ≤ j → j < l.length → -32767 ≤ rd l (j : Int) ∧ rd l (j : Int) ≤ 32767) := by
  induction n with
  | zero =>
    intro k i hi hk
    obtain ⟨k, rfl⟩ : ∃ m, k = m + 1 := ⟨k - 1, by omega⟩
    refine ⟨true, ?_, ?_, fun _ j h1 h2 => by omega⟩
    · simp only [fixed_Weights.l0]
      rw [if_neg (by omega)]; rfl
    · simp only [tilefarmref7_AreWeights.l0]
      rw [if_neg (by omega)]
  | succ n ih =>
    intro k i hi hk
    obtain ⟨k, rfl⟩ : ∃ m, k = m + 1 := ⟨k - 1, by omega⟩
    obtain ⟨hidx, hlt⟩ := idx hi
    obtain ⟨e1, -, hI, hP⟩ := next_i hlt (Nat.le_trans hl (by decide))
    simp only [fixed_Weights.l0, tilefarmref7_AreWeights.l0]
    rw [if_pos hI, if_pos hP, if_pos hI, if_pos hI, if_pos hP, isw_eq, e1, Option.bind_some]
    by_cases c1 : rd l (i : Int) < -32767
    · rw [if_pos c1, decide_eq_false (show ¬ -32767 ≤ rd l (i : Int) by omega), Bool.false_and, if_neg (show ¬ (false = true) by decide)]
      exact ⟨false, rfl, rfl, fun h => by cases h⟩
    · rw [if_neg c1, decide_eq_true (show -32767 ≤ rd l (i : Int) by omega), Bool.true_and]
      by_cases c2 : rd l (i : Int) > 32767
      · rw [if_pos c2, decide_eq_false (show ¬ rd l (i : Int) ≤ 32767 by omega), if_neg (show ¬ (false = true) by decide)]
        exact ⟨false, rfl, rfl, fun h => by cases h⟩
      · rw [if_neg c2, decide_eq_true (show rd l (i : Int) ≤ 32767 by omega), if_pos rfl]
        obtain ⟨ok, r1, r2, r3⟩ := ih k (i + 1) hidx (Nat.le_of_succ_le_succ hk)
        refine ⟨ok, r1, r2, fun h j hj hj' => ?_⟩
        by_cases c : j = i
        · subst c; omega
        · exact r3 h j (by omega) hj'

theorem mem_rd' (l : List Int) (P : Int → Prop) (h : ∀ j : Nat, j < l.length → P (rd l (j : Int))) : ∀ w ∈ l, P w := by
  intro w hw
  obtain ⟨j, hj, rfl⟩ := List.getElem_of_mem hw
  have := h j hj
  simpa [rd, hj] using this

theorem weights_eq (k : Nat) (hk : 100 ≤ k) (l : List Int) : ∃ w, fixed_Weights.f k l = some w ∧ tilefarmref7_Weights.f k l = some w ∧ (w = 0 → l.length ≤ 81 ∧ ∀ x ∈ l, -32767 ≤ x ∧ x ≤ 32767) := by
  obtain ⟨k, rfl⟩ : ∃ m, k = m + 1 := ⟨k - 1, by omega⟩
  unfold fixed_Weights.f tilefarmref7_Weights.f
  by_cases c0 : (l.length : Int) = 0
  · rw [if_pos c0, if_pos c0]
    refine ⟨9, ?_, ?_, fun h => absurd h (by decide)⟩
    · simp only [fixed_Weights.j0]; rw [if_pos trivial]
    · simp only [tilefarmref7_Weights.j0]; rw [if_pos trivial]
  · rw [if_neg c0, if_neg c0]
    by_cases c1 : (l.length : Int) > 81
    · rw [decide_eq_true c1]
      refine ⟨9, ?_, ?_, fun h => absurd h (by decide)⟩
      · simp only [fixed_Weights.j0]; rw [if_pos trivial]
      · simp only [tilefarmref7_Weights.j0]; rw [if_pos trivial]
    · rw [decide_eq_false c1]
      have hl : l.length ≤ 81 := by omega
      obtain ⟨ok, r1, r2, r3⟩ := weights_loop l hl l.length k 0 (by omega) (by omega)
      simp only [fixed_Weights.j0, tilefarmref7_Weights.j0, Bool.false_eq_true, if_false]
      unfold tilefarmref7_AreWeights.f
      have r1' : fixed_Weights.l0 k l (l.length : Int) 0 = some (if ok = true then 0 else 10) := r1
      have r2' : tilefarmref7_AreWeights.l0 k l 0 = some ok := r2
      rw [r1', r2', Option.bind_some]
      refine ⟨if ok = true then 0 else 10, rfl, by split <;> rfl, fun h => ⟨hl, ?_⟩⟩
      cases ok with
      | false => exact absurd h (by decide)
      | true => exact mem_rd' l _ (fun j hj => r3 rfl j (Nat.zero_le _) hj)

theorem bounds_eq (k : Nat) (hk : 200 ≤ k) (l : List Int) (lo hi : Int) : ∃ v, fixed_Bounds.f k l lo hi = some v ∧ tilefarmref7_Bounds.f k l lo hi = some v := by
  obtain ⟨k, rfl⟩ : ∃ m, k = m + 1 + 1 := ⟨k - 2, by omega⟩
  obtain ⟨w, w1, w2, w3⟩ := weights_eq (k + 1 + 1) (by omega) l
  unfold fixed_Bounds.f tilefarmref7_Bounds.f
  rw [w1, w2, Option.bind_some, Option.bind_some]
  have no : tilefarmref7_Bounds.j0 (k + 1 + 1) l lo hi true = some (0, 0, false) := by simp only [tilefarmref7_Bounds.j0]; rw [if_pos trivial]
  by_cases c0 : w = 0
  · rw [if_pos c0, if_pos c0]
    obtain ⟨hl, hw⟩ := w3 c0
    by_cases c1 : lo > hi
    · rw [if_pos c1, if_pos c1, no]; exact ⟨_, rfl, rfl⟩
    · rw [if_neg c1, if_neg c1]
      by_cases c2 : lo < -68719476736
      · rw [if_pos c2, if_pos c2, no]; exact ⟨_, rfl, rfl⟩
      · rw [if_neg c2, if_neg c2]
        by_cases c3 : hi > 68719476736
        · rw [if_pos c3, decide_eq_true c3, no]; exact ⟨_, rfl, rfl⟩
        · rw [if_neg c3, decide_eq_false c3]
          simp only [tilefarmref7_Bounds.j0, Bool.false_eq_true, if_false]
          obtain ⟨v, v1, v2⟩ := bounds_loop l hl hw lo hi (by omega) (by omega) (by omega) l.length (k + 1) 0 0 0 0 0 0 0 (by omega) (by omega) (by decide) (by decide) (by decide) (by decide) (by decide) (by decide) (by decide) (by decide) (by decide) (by decide)
          have v0 : fixed_Bounds.l0 (k + 1 + 1) l lo hi 0 0 0 0 0 = some v := fixed_Bounds.mono_l (k + 1) _ _ _ _ _ _ _ _ _ v1
          exact ⟨v, v0, v2⟩
  · rw [if_neg c0, if_neg c0, no]; exact ⟨_, rfl, rfl⟩


/-! The tape's weights. -/
theorem tw_loop (l : List Int) (hl : l.length ≤ 4611686018427387904) (N : Nat) (hN : N ≤ 100) (n : Nat) :
    ∀ (k i : Nat) (xs : List Int) (s : Int), i + n = N → n + 1 ≤ k → xs.length = i → 0 ≤ s → (∀ w ∈ xs, -20 ≤ w ∧ w ≤ 20) →
      ∃ bt, 0 ≤ bt.2 ∧ tilefarmgen_Tape_Weights.l0 k (N : Int) xs (i : Int) l s = some bt ∧ bt.1.length = N ∧ ∀ w ∈ bt.1, -20 ≤ w ∧ w ≤ 20 := by
  induction n with
  | zero =>
    intro k i xs s hi hk hx hs hw
    obtain ⟨k, rfl⟩ : ∃ m, k = m + 1 := ⟨k - 1, by omega⟩
    simp only [tilefarmgen_Tape_Weights.l0]
    rw [if_neg (by omega)]
    exact ⟨(xs, s), hs, rfl, by show xs.length = N; omega, hw⟩
  | succ n ih =>
    intro k i xs s hi hk hx hs hw
    obtain ⟨k, rfl⟩ : ∃ m, k = m + 1 := ⟨k - 1, by omega⟩
    have e1 : wrap64 ((i : Int) + 1) = ((i + 1 : Nat) : Int) := by rw [wrap_in (by omega) (by omega)]; omega
    obtain ⟨bt, a1, a2, a3, a4⟩ := next_o l s 41 hs hl (by decide) (by decide)
    obtain ⟨bu, b1, b2, b3⟩ := pick_o l bt.2 [1, 2, (-1), 0, wrap64 (bt.1 - 20), 5] a4 hl (by simp) (by simp)
    have hb : -20 ≤ bu.1 ∧ bu.1 ≤ 20 := by
      simp only [List.mem_cons, List.not_mem_nil, or_false] at b2
      rw [wrap_in (by omega) (by omega)] at b2
      clear a1 b1 hw
      omega
    obtain ⟨bv, c1, c2, c3, c4⟩ := ih k (i + 1) (xs ++ [bu.1]) bu.2 (by omega) (by omega) (by simp; omega) b3 (fun w hw' => by
      rcases List.mem_append.1 hw' with h | h
      · exact hw w h
      · rw [List.mem_singleton.1 h]; exact hb)
    refine ⟨bv, c1, ?_, c3, c4⟩
    simp only [tilefarmgen_Tape_Weights.l0]
    rw [if_pos (by omega), a1, Option.bind_some, b1, Option.bind_some, if_pos (by omega), e1]
    exact c2

theorem tw_o (k : Nat) (hk : 200 ≤ k) (l : List Int) (hl : l.length ≤ 4611686018427387904) (s : Int) (N : Nat) (hs : 0 ≤ s) (hN : N ≤ 100) :
    ∃ bt, tilefarmgen_Tape_Weights.f k l s (N : Int) = some bt ∧ bt.1.length = N ∧ (∀ w ∈ bt.1, -20 ≤ w ∧ w ≤ 20) ∧ 0 ≤ bt.2 := by
  obtain ⟨bt, h1, h2, h3, h4⟩ := tw_loop l hl N hN N k 0 [] s (by omega) (by omega) rfl hs (fun w hw => by simp at hw)
  exact ⟨bt, h2, h3, h4, h1⟩


/-! Round shifts and clamped numbers are those of the reference. -/
def shifted (D n : Int) : Int := if wrap64 (wrap64 (Int.tdiv n D) * D) > n then wrap64 (wrap64 (Int.tdiv n D) - 1) else wrap64 (Int.tdiv n D)

theorem tdiv_facts (n D : Int) (h : 0 < D) : ∃ t m, Int.tdiv n D = t ∧ D * t + m = n ∧ (0 ≤ m ∧ m = n % D ∨ m < 0 ∧ m + D = n % D) :=
  ⟨_, _, rfl, Int.mul_tdiv_add_tmod n D, tmod_emod n D h⟩

theorem shift_one {D n : Int} (hD : 1 ≤ D) (hD' : D ≤ 16777216) (h : -35184372088832 ≤ n) (h' : n ≤ 35184372088832) : shifted D n = n / D := by
  obtain ⟨t, m, e, e2, e3⟩ := tdiv_facts n D (by omega)
  have r0 := Int.emod_nonneg n (show D ≠ 0 by omega)
  have r1 := Int.emod_lt_of_pos n (show 0 < D by omega)
  have q := Int.mul_ediv_add_emod n D
  have c : t * D = D * t := Int.mul_comm ..
  have ht : -35184388866048 ≤ t ∧ t ≤ 35184388866048 := by
    rcases Int.le_total 0 t with g | g
    · have := Int.mul_le_mul_of_nonneg_left hD g
      omega
    · have := Int.mul_le_mul_of_nonpos_left g hD
      omega
  unfold shifted
  rw [e, wrap_in (n := t) (by omega) (by omega), wrap_in (n := t * D) (by omega) (by omega)]
  rcases e3 with ⟨g1, g2⟩ | ⟨g1, g2⟩
  · rw [if_neg (show ¬ t * D > n by omega)]
    exact Int.eq_of_mul_eq_mul_left (show D ≠ 0 by omega) (show D * t = D * (n / D) by omega)
  · rw [if_pos (show t * D > n by omega), wrap_in (n := t - 1) (by omega) (by omega)]
    refine Int.eq_of_mul_eq_mul_left (show D ≠ 0 by omega) ?_
    rw [Int.mul_sub, Int.mul_one]
    omega

theorem core (k : Nat) (a s H D : Int) (f1 : wrap64 (s - 1) = s - 1) (f2 : IntKind.u64.wrap (s - 1) = s - 1) (f3 : IntKind.u64.wrap s = s) (f4 : shl .i64 1 (s - 1) = H) (f5 : shl .i64 1 s = D) (f6 : (2 : Int) ^ min s.toNat 64 = D)
    (hs : 1 ≤ s) (hH : 0 ≤ H) (hH' : H ≤ 16777216) (hD : D ≠ 0) (h0 : a ≥ (-17592186044416)) (h1 : a ≤ 17592186044416) (hd : ∀ n, -35184372088832 ≤ n → n ≤ 35184372088832 → shifted D n = n / D) :
    (if s = 0 then (some a) else (if 0 ≤ (wrap64 (s - 1)) then (if 0 ≤ s then (some (shr .i64 (wrap64 (a + (shl .i64 1 (wrap64 (s - 1))))) s)) else (none)) else (none))) = some ((a + H) / D) ∧
    (if s = 0 then (some a) else (if 0 ≤ (IntKind.u64.wrap (wrap64 (s - 1))) then (if 0 ≤ (IntKind.u64.wrap (s)) then (if (shl .i64 1 (IntKind.u64.wrap (s))) = 0 then (none) else (if (wrap64 ((wrap64 (Int.tdiv (wrap64 (a + (shl .i64 1 (IntKind.u64.wrap (wrap64 (s - 1)))))) (shl .i64 1 (IntKind.u64.wrap (s))))) * (shl .i64 1 (IntKind.u64.wrap (s))))) > (wrap64 (a + (shl .i64 1 (IntKind.u64.wrap (wrap64 (s - 1)))))) then (some (wrap64 ((wrap64 (Int.tdiv (wrap64 (a + (shl .i64 1 (IntKind.u64.wrap (wrap64 (s - 1)))))) (shl .i64 1 (IntKind.u64.wrap (s))))) - 1))) else (some (wrap64 (Int.tdiv (wrap64 (a + (shl .i64 1 (IntKind.u64.wrap (wrap64 (s - 1)))))) (shl .i64 1 (IntKind.u64.wrap (s)))))))) else (none)) else (none))) = some ((a + H) / D) := by
  have hw : wrap64 (a + H) = a + H := wrap_in (by omega) (by omega)
  simp only [f1, f2, f3, f4, f5, hw, if_neg (show ¬ s = 0 by omega), if_pos (show 0 ≤ s - 1 by omega), if_pos (show 0 ≤ s by omega), if_neg hD]
  constructor
  · unfold shr
    rw [show IntKind.i64.bits = 64 from rfl, f6]
  · have := hd (a + H) (by omega) (by omega)
    unfold shifted at this
    rw [← this]
    split <;> rfl

theorem shift_eq (k : Nat) (a s : Int) : ∃ v, fixed_Shift.f (k + 1) a s = some v ∧ tilefarmref7_Shift.f (k + 1) a s = some v := by
  unfold fixed_Shift.f tilefarmref7_Shift.f fixed_sum.f tilefarmref7_Acc.f tilefarmref7_IsShift.f
  by_cases h0 : a ≥ (-17592186044416)
  · by_cases h1 : a ≤ 17592186044416
    · simp only [if_pos h0, decide_eq_true h1, Option.bind_some, if_true]
      by_cases s0 : s < 0
      · refine ⟨0, ?_, ?_⟩
        · simp only [if_pos s0, fixed_Shift.j0, if_true]
        · simp only [if_neg (show ¬ s ≥ 0 by omega), Option.bind_some, tilefarmref7_Shift.j0, Bool.not_false, if_true]
      · by_cases s1 : s > 24
        · refine ⟨0, ?_, ?_⟩
          · simp only [if_neg s0, decide_eq_true s1, fixed_Shift.j0, if_true]
          · simp only [if_pos (show s ≥ 0 by omega), decide_eq_false (show ¬ s ≤ 24 by omega), Option.bind_some, tilefarmref7_Shift.j0, Bool.not_false, if_true]
        · simp only [if_neg s0, decide_eq_false s1, if_pos (show s ≥ 0 by omega), decide_eq_true (show s ≤ 24 by omega), Option.bind_some, fixed_Shift.j0, tilefarmref7_Shift.j0, Bool.not_true, Bool.false_eq_true, if_false]
          by_cases s2 : s = 0
          · subst s2; exact ⟨a, by rw [if_pos rfl], by rw [if_pos rfl]⟩
          · rcases (by omega : s = 1 ∨ s = 2 ∨ s = 3 ∨ s = 4 ∨ s = 5 ∨ s = 6 ∨ s = 7 ∨ s = 8 ∨ s = 9 ∨ s = 10 ∨ s = 11 ∨ s = 12 ∨ s = 13 ∨ s = 14 ∨ s = 15 ∨ s = 16 ∨ s = 17 ∨ s = 18 ∨ s = 19 ∨ s = 20 ∨ s = 21 ∨ s = 22 ∨ s = 23 ∨ s = 24) with rfl | rfl | rfl | rfl | rfl | rfl | rfl | rfl | rfl | rfl | rfl | rfl | rfl | rfl | rfl | rfl | rfl | rfl | rfl | rfl | rfl | rfl | rfl | rfl
            · exact ⟨_, core k a 1 1 2 (by decide +kernel) (by decide +kernel) (by decide +kernel) (by decide +kernel) (by decide +kernel) (by decide +kernel) (by decide) (by decide) (by decide) (by decide) h0 h1 (fun n h h' => shift_one (by decide) (by decide) h h')⟩
            · exact ⟨_, core k a 2 2 4 (by decide +kernel) (by decide +kernel) (by decide +kernel) (by decide +kernel) (by decide +kernel) (by decide +kernel) (by decide) (by decide) (by decide) (by decide) h0 h1 (fun n h h' => shift_one (by decide) (by decide) h h')⟩
            · exact ⟨_, core k a 3 4 8 (by decide +kernel) (by decide +kernel) (by decide +kernel) (by decide +kernel) (by decide +kernel) (by decide +kernel) (by decide) (by decide) (by decide) (by decide) h0 h1 (fun n h h' => shift_one (by decide) (by decide) h h')⟩
            · exact ⟨_, core k a 4 8 16 (by decide +kernel) (by decide +kernel) (by decide +kernel) (by decide +kernel) (by decide +kernel) (by decide +kernel) (by decide) (by decide) (by decide) (by decide) h0 h1 (fun n h h' => shift_one (by decide) (by decide) h h')⟩
            · exact ⟨_, core k a 5 16 32 (by decide +kernel) (by decide +kernel) (by decide +kernel) (by decide +kernel) (by decide +kernel) (by decide +kernel) (by decide) (by decide) (by decide) (by decide) h0 h1 (fun n h h' => shift_one (by decide) (by decide) h h')⟩
            · exact ⟨_, core k a 6 32 64 (by decide +kernel) (by decide +kernel) (by decide +kernel) (by decide +kernel) (by decide +kernel) (by decide +kernel) (by decide) (by decide) (by decide) (by decide) h0 h1 (fun n h h' => shift_one (by decide) (by decide) h h')⟩
            · exact ⟨_, core k a 7 64 128 (by decide +kernel) (by decide +kernel) (by decide +kernel) (by decide +kernel) (by decide +kernel) (by decide +kernel) (by decide) (by decide) (by decide) (by decide) h0 h1 (fun n h h' => shift_one (by decide) (by decide) h h')⟩
            · exact ⟨_, core k a 8 128 256 (by decide +kernel) (by decide +kernel) (by decide +kernel) (by decide +kernel) (by decide +kernel) (by decide +kernel) (by decide) (by decide) (by decide) (by decide) h0 h1 (fun n h h' => shift_one (by decide) (by decide) h h')⟩
            · exact ⟨_, core k a 9 256 512 (by decide +kernel) (by decide +kernel) (by decide +kernel) (by decide +kernel) (by decide +kernel) (by decide +kernel) (by decide) (by decide) (by decide) (by decide) h0 h1 (fun n h h' => shift_one (by decide) (by decide) h h')⟩
            · exact ⟨_, core k a 10 512 1024 (by decide +kernel) (by decide +kernel) (by decide +kernel) (by decide +kernel) (by decide +kernel) (by decide +kernel) (by decide) (by decide) (by decide) (by decide) h0 h1 (fun n h h' => shift_one (by decide) (by decide) h h')⟩
            · exact ⟨_, core k a 11 1024 2048 (by decide +kernel) (by decide +kernel) (by decide +kernel) (by decide +kernel) (by decide +kernel) (by decide +kernel) (by decide) (by decide) (by decide) (by decide) h0 h1 (fun n h h' => shift_one (by decide) (by decide) h h')⟩
            · exact ⟨_, core k a 12 2048 4096 (by decide +kernel) (by decide +kernel) (by decide +kernel) (by decide +kernel) (by decide +kernel) (by decide +kernel) (by decide) (by decide) (by decide) (by decide) h0 h1 (fun n h h' => shift_one (by decide) (by decide) h h')⟩
            · exact ⟨_, core k a 13 4096 8192 (by decide +kernel) (by decide +kernel) (by decide +kernel) (by decide +kernel) (by decide +kernel) (by decide +kernel) (by decide) (by decide) (by decide) (by decide) h0 h1 (fun n h h' => shift_one (by decide) (by decide) h h')⟩
            · exact ⟨_, core k a 14 8192 16384 (by decide +kernel) (by decide +kernel) (by decide +kernel) (by decide +kernel) (by decide +kernel) (by decide +kernel) (by decide) (by decide) (by decide) (by decide) h0 h1 (fun n h h' => shift_one (by decide) (by decide) h h')⟩
            · exact ⟨_, core k a 15 16384 32768 (by decide +kernel) (by decide +kernel) (by decide +kernel) (by decide +kernel) (by decide +kernel) (by decide +kernel) (by decide) (by decide) (by decide) (by decide) h0 h1 (fun n h h' => shift_one (by decide) (by decide) h h')⟩
            · exact ⟨_, core k a 16 32768 65536 (by decide +kernel) (by decide +kernel) (by decide +kernel) (by decide +kernel) (by decide +kernel) (by decide +kernel) (by decide) (by decide) (by decide) (by decide) h0 h1 (fun n h h' => shift_one (by decide) (by decide) h h')⟩
            · exact ⟨_, core k a 17 65536 131072 (by decide +kernel) (by decide +kernel) (by decide +kernel) (by decide +kernel) (by decide +kernel) (by decide +kernel) (by decide) (by decide) (by decide) (by decide) h0 h1 (fun n h h' => shift_one (by decide) (by decide) h h')⟩
            · exact ⟨_, core k a 18 131072 262144 (by decide +kernel) (by decide +kernel) (by decide +kernel) (by decide +kernel) (by decide +kernel) (by decide +kernel) (by decide) (by decide) (by decide) (by decide) h0 h1 (fun n h h' => shift_one (by decide) (by decide) h h')⟩
            · exact ⟨_, core k a 19 262144 524288 (by decide +kernel) (by decide +kernel) (by decide +kernel) (by decide +kernel) (by decide +kernel) (by decide +kernel) (by decide) (by decide) (by decide) (by decide) h0 h1 (fun n h h' => shift_one (by decide) (by decide) h h')⟩
            · exact ⟨_, core k a 20 524288 1048576 (by decide +kernel) (by decide +kernel) (by decide +kernel) (by decide +kernel) (by decide +kernel) (by decide +kernel) (by decide) (by decide) (by decide) (by decide) h0 h1 (fun n h h' => shift_one (by decide) (by decide) h h')⟩
            · exact ⟨_, core k a 21 1048576 2097152 (by decide +kernel) (by decide +kernel) (by decide +kernel) (by decide +kernel) (by decide +kernel) (by decide +kernel) (by decide) (by decide) (by decide) (by decide) h0 h1 (fun n h h' => shift_one (by decide) (by decide) h h')⟩
            · exact ⟨_, core k a 22 2097152 4194304 (by decide +kernel) (by decide +kernel) (by decide +kernel) (by decide +kernel) (by decide +kernel) (by decide +kernel) (by decide) (by decide) (by decide) (by decide) h0 h1 (fun n h h' => shift_one (by decide) (by decide) h h')⟩
            · exact ⟨_, core k a 23 4194304 8388608 (by decide +kernel) (by decide +kernel) (by decide +kernel) (by decide +kernel) (by decide +kernel) (by decide +kernel) (by decide) (by decide) (by decide) (by decide) h0 h1 (fun n h h' => shift_one (by decide) (by decide) h h')⟩
            · exact ⟨_, core k a 24 8388608 16777216 (by decide +kernel) (by decide +kernel) (by decide +kernel) (by decide +kernel) (by decide +kernel) (by decide +kernel) (by decide) (by decide) (by decide) (by decide) h0 h1 (fun n h h' => shift_one (by decide) (by decide) h h')⟩
    · simp only [if_pos h0, decide_eq_false h1, Option.bind_some, Bool.false_eq_true, if_false]
      exact ⟨0, by simp only [fixed_Shift.j0, if_true], by simp only [tilefarmref7_Shift.j0, if_true]⟩
  · simp only [if_neg h0, Option.bind_some, Bool.false_eq_true, if_false]
    exact ⟨0, by simp only [fixed_Shift.j0, if_true], by simp only [tilefarmref7_Shift.j0, if_true]⟩

theorem span_eq (k : Nat) (a b s : Int) : ∃ p, fixed_Span.f (k + 1) a b s = some p ∧ tilefarmref7_Span.f (k + 1) a b s = some p := by
  obtain ⟨u, hu, hu'⟩ := shift_eq k a s
  obtain ⟨v, hv, hv'⟩ := shift_eq k b s
  exact ⟨(u, v), by simp only [fixed_Span.f, hu, hv, Option.bind_some], by simp only [tilefarmref7_Span.f, hu', hv', Option.bind_some]⟩


theorem sane_eq : tilefarmlaw10_sane.f 60 = some true := by decide +kernel

theorem value_same (a : Int) : ∃ b : Bool, separable_value.f a = some b ∧ tilefarmref9_Value.f a = some b := by
  unfold separable_value.f tilefarmref9_Value.f
  by_cases c : a ≥ 1
  · rw [if_pos c]; exact ⟨_, rfl, rfl⟩
  · rw [if_neg c]; exact ⟨_, rfl, rfl⟩

theorem shiftable_same (a : Int) : ∃ b : Bool, separable_shiftable.f a = some b ∧ tilefarmref7_IsShift.f a = some b := by
  unfold separable_shiftable.f tilefarmref7_IsShift.f
  by_cases c : a ≥ 0
  · rw [if_pos c]; exact ⟨_, rfl, rfl⟩
  · rw [if_neg c]; exact ⟨_, rfl, rfl⟩

theorem side_val (a : Int) : tilefarmref9_Side.f a = some (decide (1 ≤ a ∧ a ≤ 9)) := by
  unfold tilefarmref9_Side.f
  by_cases c : a ≥ 1
  · rw [if_pos c]; exact sd_iff ⟨fun h => ⟨c, h⟩, fun h => h.2⟩
  · rw [if_neg c]; exact sd_false (fun h => c h.1)

theorem bnd_same (k : Nat) (hk : 200 ≤ k) (m : Int) (r c : List Int) (s : Int) :
    ∃ v, ((fixed_Bounds.f (k + 1) r 0 m).bind fun bt128 => (if bt128.2.2 = true then ((fixed_Span.f (k + 1) bt128.1 bt128.2.1 s).bind fun bt131 => ((fixed_Bounds.f (k + 1) c bt131.1 bt131.2).bind fun bt133 => (if bt133.2.2 = true then (some 0) else (some (11 : Int))))) else (some 11))) = some v ∧
      ((tilefarmref7_Bounds.f (k + 1) r 0 m).bind fun bt128 => (if bt128.2.2 = true then ((tilefarmref7_Span.f (k + 1) bt128.1 bt128.2.1 s).bind fun bt131 => ((tilefarmref7_Bounds.f (k + 1) c bt131.1 bt131.2).bind fun bt133 => (if bt133.2.2 = true then (some 0) else (some (11 : Int))))) else (some 11))) = some v := by
  obtain ⟨t, h1, h2⟩ := bounds_eq (k + 1) (by omega) r 0 m
  rw [h1, h2, Option.bind_some, Option.bind_some]
  by_cases d : t.2.2 = true
  · obtain ⟨p, g1, g2⟩ := span_eq k t.1 t.2.1 s
    obtain ⟨u, f1, f2⟩ := bounds_eq (k + 1) (by omega) c p.1 p.2
    rw [if_pos d, if_pos d, g1, g2, Option.bind_some, Option.bind_some, f1, f2, Option.bind_some]
    by_cases e : u.2.2 = true
    · rw [if_pos e]; exact ⟨_, rfl, rfl⟩
    · rw [if_neg e]; exact ⟨_, rfl, rfl⟩
  · rw [if_neg d, if_neg d]; exact ⟨_, rfl, rfl⟩

theorem j1_same (k : Nat) (hk : 200 ≤ k) (m : Int) (r c : List Int) (s o : Int) (b : Bool) : ∃ v, separable_Check.j1 (k + 1 + 1 + 1) m r c s o b = some v ∧ tilefarmref10_Check.j1 (k + 1 + 1) m r c s o b = some v := by
  obtain ⟨p, h1, h2⟩ := value_same m
  obtain ⟨q, g1, g2⟩ := value_same o
  rw [separable_Check.j1, tilefarmref10_Check.j1]
  cases b with
  | true => rw [if_pos rfl, if_pos rfl]; exact ⟨_, rfl, rfl⟩
  | false =>
    rw [if_neg Bool.false_ne_true, if_neg Bool.false_ne_true, h1, h2, Option.bind_some, Option.bind_some]
    cases p with
    | false => rw [if_neg Bool.false_ne_true, if_neg Bool.false_ne_true, separable_Check.j2, if_pos rfl]; exact ⟨_, rfl, rfl⟩
    | true =>
      rw [if_pos rfl, if_pos rfl, g1, g2, Option.bind_some, Option.bind_some, separable_Check.j2]
      cases q with
      | false => rw [if_pos (show (!false) = true from rfl), if_neg Bool.false_ne_true]; exact ⟨_, rfl, rfl⟩
      | true =>
        rw [if_neg (show ¬ (!true) = true by decide), if_pos rfl]
        exact bnd_same k hk m r c s

theorem w_same (k : Nat) (hk : 200 ≤ k) (l : List Int) (h1 : 1 ≤ l.length) (h2 : l.length ≤ 9) : ∃ ok : Bool, fixed_Weights.f k l = some (if ok = true then 0 else 10) ∧ tilefarmref7_AreWeights.f k l = some ok := by
  obtain ⟨k, rfl⟩ : ∃ n, k = n + 1 + 1 := ⟨k - 2, by omega⟩
  obtain ⟨ok, r1, r2, r3⟩ := weights_loop l (by omega) l.length k 0 (by omega) (by omega)
  refine ⟨ok, ?_, ?_⟩
  · unfold fixed_Weights.f
    rw [if_neg (show ¬ (l.length : Int) = 0 by omega), decide_eq_false (show ¬ (l.length : Int) > 81 by omega)]
    simp only [fixed_Weights.j0, Bool.false_eq_true, if_false]
    exact fixed_Weights.mono_l k |>.2 _ _ _ _ r1
  · unfold tilefarmref7_AreWeights.f
    exact tilefarmref7_AreWeights.mono_l (k + 1) _ _ _ (tilefarmref7_AreWeights.mono_l k _ _ _ r2)

theorem j0_same (k : Nat) (hk : 200 ≤ k) (m : Int) (r c : List Int) (s u o : Int) (b : Bool) (hb : b = false → (1 ≤ r.length ∧ r.length ≤ 9) ∧ 1 ≤ c.length ∧ c.length ≤ 9) : ∃ v, separable_Check.j0 (k + 1 + 1 + 1 + 1) m r c s u o b = some v ∧ tilefarmref10_Check.j0 (k + 1 + 1 + 1) m r c s u o b = some v := by
  rw [separable_Check.j0, tilefarmref10_Check.j0]
  cases b with
  | true => rw [if_pos rfl, if_pos rfl]; exact ⟨_, rfl, rfl⟩
  | false =>
    obtain ⟨⟨l1, l2⟩, l3, l4⟩ := hb rfl
    obtain ⟨p, p1, p2⟩ := w_same (k + 1 + 1 + 1) (by omega) r l1 l2
    obtain ⟨p', -, p3⟩ := w_same (k + 1 + 1) (by omega) r l1 l2
    obtain ⟨q, q1, q2⟩ := w_same (k + 1 + 1 + 1) (by omega) c l3 l4
    obtain ⟨q', -, q3⟩ := w_same (k + 1 + 1) (by omega) c l3 l4
    have ep : p' = p := Option.some.inj ((tilefarmref7_AreWeights.mono r (k + 1 + 1) _ p3).symm.trans p2)
    have eq : q' = q := Option.some.inj ((tilefarmref7_AreWeights.mono c (k + 1 + 1) _ q3).symm.trans q2)
    rw [ep] at p3
    rw [eq] at q3
    rw [if_neg Bool.false_ne_true, if_neg Bool.false_ne_true, p1, p3, Option.bind_some, Option.bind_some]
    cases p with
    | false => rw [if_neg (show ¬ (if false = true then (0 : Int) else 10) = 0 by decide), if_neg Bool.false_ne_true]; exact j1_same k hk m r c s o true
    | true =>
      rw [if_pos (show (if true = true then (0 : Int) else 10) = 0 by decide), if_pos rfl, q1, q3, Option.bind_some, Option.bind_some]
      cases q with
      | false => rw [if_neg (show ¬ (if false = true then (0 : Int) else 10) = 0 by decide), if_neg Bool.false_ne_true]; exact j1_same k hk m r c s o true
      | true =>
        obtain ⟨x, x1, x2⟩ := shiftable_same s
        obtain ⟨y, y1, y2⟩ := shiftable_same u
        rw [if_pos (show (if true = true then (0 : Int) else 10) = 0 by decide), if_pos rfl, x1, x2, Option.bind_some, Option.bind_some]
        cases x with
        | false => rw [if_neg Bool.false_ne_true, if_neg Bool.false_ne_true]; exact j1_same k hk m r c s o true
        | true =>
          rw [if_pos rfl, if_pos rfl, y1, y2, Option.bind_some, Option.bind_some]
          exact j1_same k hk m r c s o _

theorem check_same (k : Nat) (hk : 300 ≤ k) (m : Int) (r c : List Int) (hr : r.length ≤ 4611686018427387904) (hc : c.length ≤ 4611686018427387904) (s u o : Int) : ∃ v, separable_Check.f (k + 1) m r c s u o = some v ∧ tilefarmref10_Check.f k m r c s u o = some v := by
  obtain ⟨k, rfl⟩ : ∃ n, k = n + 1 + 1 + 1 := ⟨k - 3, by omega⟩
  unfold separable_Check.f tilefarmref10_Check.f
  rw [side_val, Option.bind_some]
  by_cases c1 : 1 ≤ (r.length : Int) ∧ (r.length : Int) ≤ 9
  · rw [decide_eq_true c1, if_pos rfl, if_neg (show ¬ (r.length : Int) < 1 by omega), if_neg (show ¬ (r.length : Int) > 9 by omega), side_val, Option.bind_some]
    by_cases c2 : 1 ≤ (c.length : Int) ∧ (c.length : Int) ≤ 9
    · rw [decide_eq_true c2, if_neg (show ¬ (c.length : Int) < 1 by omega), decide_eq_false (show ¬ (c.length : Int) > 9 by omega)]
      exact j0_same k (by omega) m r c s u o false (fun _ => by omega)
    · rw [decide_eq_false c2]
      by_cases c3 : (c.length : Int) < 1
      · rw [if_pos c3]
        exact j0_same k (by omega) m r c s u o true (fun h => by cases h)
      · rw [if_neg c3, decide_eq_true (show (c.length : Int) > 9 by omega)]
        exact j0_same k (by omega) m r c s u o true (fun h => by cases h)
  · rw [decide_eq_false c1, if_neg Bool.false_ne_true]
    by_cases c3 : (r.length : Int) < 1
    · rw [if_pos c3]
      exact j0_same k (by omega) m r c s u o true (fun h => by cases h)
    · rw [if_neg c3, if_pos (show (r.length : Int) > 9 by omega)]
      exact j0_same k (by omega) m r c s u o true (fun h => by cases h)

theorem jj2 (t : List Int) (ht : t.length ≤ 4611686018427387904) (x1 x2 : List Int) (x3 x4 x5 x6 i : Int) (a b : List Int) (ha : a.length ≤ 100) (hb : b.length ≤ 100) (s : Int) (hs : 0 ≤ s) (h0 : 0 ≤ i) (hi : i < 5) (k : Nat) (hk : 400 ≤ k) :
    ∃ s', 0 ≤ s' ∧ tilefarmlaw10_SeparableChecks.j2 (k + 1) x1 x2 x3 x4 x5 x6 i a b t s = tilefarmlaw10_SeparableChecks.l0 k x1 x2 x3 x4 x5 x6 (i + 1) t s' := by
  obtain ⟨q1, h1, _, h1c⟩ := pick_o t s [255, 65535, 0, 4294967296] hs ht (by simp) (by simp)
  obtain ⟨q2, h2, _, h2c⟩ := pick_o t q1.2 [0, 24, 25, 3] h1c ht (by simp) (by simp)
  obtain ⟨q3, h3, _, h3c⟩ := pick_o t q2.2 [0, (-1), 8] h2c ht (by simp) (by simp)
  obtain ⟨v, g1, g2⟩ := check_same (k - 1) (by omega) q1.1 a b (by omega) (by omega) q2.1 q3.1 255
  rw [show k - 1 + 1 = k by omega] at g1
  have g2' := tilefarmref10_Check.mono q1.1 a b q2.1 q3.1 255 (k - 1) _ g2
  rw [show k - 1 + 1 = k by omega] at g2'
  refine ⟨q3.2, h3c, ?_⟩
  rw [tilefarmlaw10_SeparableChecks.j2, h1, Option.bind_some, h2, Option.bind_some, h3, Option.bind_some, g1, Option.bind_some, g2', Option.bind_some, if_pos rfl, wrap_in (n := i + 1) (by omega) (by omega)]

theorem jj1 (t : List Int) (ht : t.length ≤ 4611686018427387904) (x1 x2 : List Int) (x3 x4 x5 x6 i : Int) (a b : List Int) (ha : a.length ≤ 100) (hb : b.length ≤ 100) (f : Bool) (hf : f = true → 0 < a.length ∧ 0 < b.length) (s : Int) (hs : 0 ≤ s) (h0 : 0 ≤ i) (hi : i < 5) (k : Nat) (hk : 400 ≤ k) :
    ∃ s', 0 ≤ s' ∧ tilefarmlaw10_SeparableChecks.j1 (k + 1 + 1) x1 x2 x3 x4 x5 x6 i a b f t s = tilefarmlaw10_SeparableChecks.l0 k x1 x2 x3 x4 x5 x6 (i + 1) t s' := by
  rw [tilefarmlaw10_SeparableChecks.j1]
  cases f with
  | true =>
    obtain ⟨q, h1, _, h1c⟩ := pick_o t s [32767, 32768] hs ht (by simp) (by simp)
    obtain ⟨f1, f2⟩ := hf rfl
    rw [if_pos rfl, h1, Option.bind_some, if_pos (show 0 < (a.length : Int) by omega), if_pos (show 0 < (b.length : Int) by omega)]
    exact jj2 t ht x1 x2 x3 x4 x5 x6 i _ _ (by rw [List.length_set]; exact ha) (by rw [List.length_set]; exact hb) q.2 h1c h0 hi k hk
  | false =>
    rw [if_neg Bool.false_ne_true]
    exact jj2 t ht x1 x2 x3 x4 x5 x6 i a b ha hb s hs h0 hi k hk

theorem round (t : List Int) (ht : t.length ≤ 4611686018427387904) (x1 x2 : List Int) (x3 x4 x5 x6 i : Int) (s : Int) (hs : 0 ≤ s) (h0 : 0 ≤ i) (hi : i < 5) (k : Nat) (hk : 400 ≤ k) :
    ∃ s', 0 ≤ s' ∧ tilefarmlaw10_SeparableChecks.l0 (k + 1 + 1 + 1) x1 x2 x3 x4 x5 x6 i t s = tilefarmlaw10_SeparableChecks.l0 k x1 x2 x3 x4 x5 x6 (i + 1) t s' := by
  obtain ⟨r1, h1, h1a, h1b, h1c⟩ := next_o t s 11 hs ht (by omega) (by omega)
  obtain ⟨a, a1, a2, a3, a4⟩ := tw_o (k + 1 + 1) (by omega) t ht r1.2 r1.1.toNat h1c (by omega)
  rw [Int.toNat_of_nonneg h1a] at a1
  obtain ⟨r2, h2, h2a, h2b, h2c⟩ := next_o t a.2 9 a4 ht (by omega) (by omega)
  obtain ⟨b, b1, b2, b3, b4⟩ := tw_o (k + 1 + 1) (by omega) t ht r2.2 (1 + r2.1).toNat h2c (by omega)
  rw [Int.toNat_of_nonneg (show 0 ≤ 1 + r2.1 by omega)] at b1
  rw [tilefarmlaw10_SeparableChecks.l0, if_pos hi, h1, Option.bind_some, a1, Option.bind_some, h2, Option.bind_some, wrap_in (n := 1 + r2.1) (by omega) (by omega), b1, Option.bind_some]
  by_cases c : (a.1.length : Int) > 0
  · obtain ⟨r4, h4, h4a, h4b, h4c⟩ := next_o t b.2 3 b4 ht (by omega) (by omega)
    rw [if_pos c, h4, Option.bind_some]
    exact jj1 t ht x1 x2 x3 x4 x5 x6 i a.1 b.1 (by omega) (by omega) _ (fun _ => by omega) r4.2 h4c h0 hi k hk
  · rw [if_neg c]
    exact jj1 t ht x1 x2 x3 x4 x5 x6 i a.1 b.1 (by omega) (by omega) false (fun h => by cases h) b.2 b4 h0 hi k hk

theorem SeparableChecks : tilefarmlaw10_SeparableChecks.Pure := by
  intro t l1 l2 x3 x4 x5 x6 hl hl8 _ hl1 hl1' _ hl2 hl2' _ _ _ _ _
  have ht : t.length ≤ 4611686018427387904 := by omega
  obtain ⟨K, hK⟩ : ∃ K : Nat, 400 ≤ K := ⟨400, Nat.le_refl _⟩
  refine ⟨K + 1 + 1 + 1 + 1 + 1 + 1 + 1 + 1 + 1 + 1 + 1 + 1 + 1 + 1 + 1 + 1 + 1, ?_⟩
  obtain ⟨s1, h1, e1⟩ := round t ht l1 l2 x3 x4 x5 x6 0 0 (by omega) (by omega) (by omega) (K + 1 + 1 + 1 + 1 + 1 + 1 + 1 + 1 + 1 + 1 + 1 + 1 + 1 + 1) (by omega)
  obtain ⟨s2, h2, e2⟩ := round t ht l1 l2 x3 x4 x5 x6 1 s1 h1 (by omega) (by omega) (K + 1 + 1 + 1 + 1 + 1 + 1 + 1 + 1 + 1 + 1 + 1) (by omega)
  obtain ⟨s3, h3, e3⟩ := round t ht l1 l2 x3 x4 x5 x6 2 s2 h2 (by omega) (by omega) (K + 1 + 1 + 1 + 1 + 1 + 1 + 1 + 1) (by omega)
  obtain ⟨s4, h4, e4⟩ := round t ht l1 l2 x3 x4 x5 x6 3 s3 h3 (by omega) (by omega) (K + 1 + 1 + 1 + 1 + 1) (by omega)
  obtain ⟨s5, h5, e5⟩ := round t ht l1 l2 x3 x4 x5 x6 4 s4 h4 (by omega) (by omega) (K + 1 + 1) (by omega)
  have hsane : tilefarmlaw10_sane.f (K + 1) = some true := at_rounds tilefarmlaw10_sane.mono (by omega) sane_eq
  unfold tilefarmlaw10_SeparableChecks.f tilefarmgen_New.f
  rw [Option.bind_some]
  refine e1.trans (e2.trans (e3.trans (e4.trans (e5.trans ?_))))
  rw [tilefarmlaw10_SeparableChecks.l0, if_neg (show ¬ (4 + 1 : Int) < 5 by omega)]
  by_cases c : (l1.length : Int) > 1000
  · rw [if_pos c, hsane, Option.bind_some]
  · rw [if_neg c]
    by_cases c2 : (l2.length : Int) > 1000
    · rw [if_pos c2, hsane, Option.bind_some]
    · obtain ⟨v, g1, g2⟩ := check_same K (by omega) x3 l1 l2 (by omega) (by omega) x4 x5 x6
      have g2' := tilefarmref10_Check.mono x3 l1 l2 x4 x5 x6 K _ g2
      rw [if_neg c2, g1, Option.bind_some, g2', Option.bind_some, if_pos rfl, hsane, Option.bind_some]


end Go.Proofs.Ytcfllciehmgikaa.Pure
namespace Go.Proofs.Ytcfllciehmgikaa
open Go.ChangeShapes Go.WideShapes
/-- The print's own word, under the name that the printed row uses. -/
theorem PrintWords.sized_ints {H : Type} {enc : TypeId × Value → H} {P : Program} {W : World} {base : Nat} {spare : Nat → Bool} {held : Bool} {t e : TypeId} {k : IntKind} {a : Option Addr} {len cap : Nat} {d : DataW H} {ps : List MemPlace} {ts : List TypeId} {ds : List (DataW H)} {j : Nat}
    (hsz : (DataW.weightsEach P ts ds).all (· ≤ reachBytes) = true) (ht : ts[j]? = some t) (hd : ds[j]? = some d) (hu : P.underlying t = some (.slice e)) (he : P.underlying e = some (.int k)) (hc : P.cellsOf e = 1) {B : Nat} (hB : P.bytesOf e = B)
    (h : DataW.Trod enc P W base spare held t (.slice a len cap) d ps) : len * B ≤ 140737488351232 :=
  Go.Proofs.YtcfllciehmgikaaW.PrintWords.sized_ints hsz ht hd hu he hc hB h
end Go.Proofs.Ytcfllciehmgikaa

/- Weighted sums of numbers from a range are within the bounds, which are attained: for every tape. -/
import Derived.Test.YtepbjipmfchpnaaPFixedWithinx3
import Derived.Test.YtepbjipmfchpnaaWSized
namespace Go.Proofs.Ytepbjipmfchpnaa.Pure
open Go.RowKit Go.Proofs.Ytepbjipmfchpnaa.PFixedWithin Go.Proofs.YtepbjipmfchpnaaW.PrintWords Go.Proofs.YtepbjipmfchpnaaW.PrintLast Go.Proofs.YtepbjipmfchpnaaW.PrintMore
set_option linter.unusedVariables false
set_option linter.unusedSimpArgs false

theorem wrap_in {n : Int} (h : -9223372036854775808 ≤ n) (h' : n ≤ 9223372036854775807) : wrap64 n = n := by unfold wrap64; omega

theorem tmod_emod (a n : Int) (h : 0 < n) : (0 ≤ Int.tmod a n ∧ Int.tmod a n = a % n) ∨ (Int.tmod a n < 0 ∧ Int.tmod a n + n = a % n) := by
  have h1 := Int.tmod_eq_emod (a := a) (b := n)
  have h2 := Int.emod_nonneg a (by omega : n ≠ 0)
  have h3 := Int.emod_lt_of_pos a h
  split at h1 <;> omega

theorem mod_eq (a n : Int) (h : 0 < n) (hn : n ≤ 4611686018427387904) : tilefarmgen_Mod.f a n = some (a % n) := by
  have h2 := Int.emod_nonneg a (by omega : n ≠ 0)
  have h3 := Int.emod_lt_of_pos a h
  unfold tilefarmgen_Mod.f
  rw [if_neg (by omega)]
  rcases tmod_emod a n h with ⟨h4, h5⟩ | ⟨h4, h5⟩
  · rw [if_neg (by omega), h5]
  · rw [if_pos h4, wrap_in (by omega) (by omega), h5]

theorem sd_true {p : Prop} [Decidable p] (h : p) : some true = some (decide p) := by rw [decide_eq_true h]
theorem sd_false {p : Prop} [Decidable p] (h : ¬ p) : some false = some (decide p) := by rw [decide_eq_false h]
theorem sd_iff {p q : Prop} [Decidable p] [Decidable q] (h : q ↔ p) : some (decide q) = some (decide p) := by rw [decide_eq_decide.2 h]

theorem mx_max (a b : Int) : mx a b = max a b := by unfold mx; omega
theorem mn_min (a b : Int) : mn a b = min a b := by unfold mn; omega

theorem mul_bd {x y B C : Int} (hx : 0 ≤ x) (hy : 0 ≤ y) (hxB : x ≤ B) (hyB : y ≤ C) : 0 ≤ x * y ∧ x * y ≤ B * C :=
  ⟨Int.mul_nonneg hx hy, Int.mul_le_mul hxB hyB hy (by omega)⟩

theorem dec_iff {p q : Prop} [Decidable p] [Decidable q] (h : p ↔ q) : decide p = decide q := decide_eq_decide.2 h
theorem and_not_dec (p q : Prop) [Decidable p] [Decidable q] : (decide p && !decide q) = decide (p ∧ ¬ q) := by
  by_cases hp : p <;> by_cases hq : q <;> simp [hp, hq]

theorem wrap64_range (n : Int) : -9223372036854775808 ≤ wrap64 n ∧ wrap64 n ≤ 9223372036854775807 := by unfold wrap64; omega

theorem wf_range {n : Int} (h : (Lit.int .i64 n).wf = true) : -9223372036854775808 ≤ n ∧ n ≤ 9223372036854775807 := by
  simp only [Lit.wf, IntKind.min, IntKind.max, IntKind.signed, IntKind.bits, Bool.and_eq_true, decide_eq_true_eq, if_true] at h
  omega


theorem next_spec (l : List Int) (s n : Int) (hs : 0 ≤ s) (hl : l.length ≤ 4611686018427387904) (h : 0 < n) (hn : n ≤ 4611686018427387904) :
    ∃ r s', tilefarmgen_Tape_Next.f l s n = some (r, s') ∧ 0 ≤ r ∧ r < n ∧ 0 ≤ s' := by
  unfold tilefarmgen_Tape_Next.f
  rw [if_neg (by omega)]
  by_cases h1 : s ≥ (l.length : Int)
  · rw [if_pos h1]; exact ⟨_, _, rfl, by omega, by omega, hs⟩
  · have e1 : wrap64 (s + 1) = s + 1 := wrap_in (by omega) (by omega)
    have e2 : wrap64 (s + 1 - 1) = s := by rw [wrap_in (by omega) (by omega)]; omega
    rw [if_neg h1]
    simp only [e1, e2]
    rw [if_pos hs, if_pos (by omega), mod_eq _ _ h hn]
    exact ⟨_, _, rfl, Int.emod_nonneg _ (by omega), Int.emod_lt_of_pos _ h, by omega⟩


theorem sane_eq : tilefarmlaw7_sane.f 20 = some true := by decide +kernel

theorem rd_mem (l : List Int) (i : Nat) (h : i < l.length) : rd l (i : Int) ∈ l := by
  simp [rd, h]

theorem rd_drop (l : List Int) (i : Nat) (h : i < l.length) : l.drop i = rd l (i : Int) :: l.drop (i + 1) := by
  rw [List.drop_eq_getElem_cons h]
  simp [rd, h]

theorem mulb {w x W X : Int} (h1 : -W ≤ w) (h2 : w ≤ W) (h3 : -X ≤ x) (h4 : x ≤ X) : -(W * X) ≤ w * x ∧ w * x ≤ W * X := by
  have p1 := Int.mul_nonneg (show 0 ≤ W - w by omega) (show 0 ≤ X + x by omega)
  have p2 := Int.mul_nonneg (show 0 ≤ W + w by omega) (show 0 ≤ X - x by omega)
  have p3 := Int.mul_nonneg (show 0 ≤ W - w by omega) (show 0 ≤ X - x by omega)
  have p4 := Int.mul_nonneg (show 0 ≤ W + w by omega) (show 0 ≤ X + x by omega)
  simp only [Int.sub_mul, Int.add_mul, Int.mul_sub, Int.mul_add] at p1 p2 p3 p4
  omega

def LO (lo hi : Int) : List Int → Int
  | [] => 0
  | w :: l => min (w * lo) (w * hi) + LO lo hi l

def HI (lo hi : Int) : List Int → Int
  | [] => 0
  | w :: l => max (w * lo) (w * hi) + HI lo hi l

theorem i64_low {n : Int} (h : -9223372036854775808 ≤ n) (h' : n ≤ 9223372036854775807) : Go.bits .and .i64 n 4294967295 = n % 4294967296 := by
  unfold Go.bits
  show IntKind.i64.wrap (((BitVec.ofInt 64 n) &&& (BitVec.ofInt 64 4294967295)).toNat : Int) = _
  rw [BitVec.toNat_and, BitVec.toNat_ofInt, BitVec.toNat_ofInt]
  have e1 : ((4294967295 : Int) % ((2 ^ 64 : Nat) : Int)).toNat = 2 ^ 32 - 1 := by decide +kernel
  rw [e1, Nat.and_two_pow_sub_one_eq_mod, Go.IntKind.wrap_i64]
  omega

theorem add_eq {a b n : Int} (hn : -10000 ≤ n) (hn' : n ≤ 10000) (hb : 0 ≤ b) (hb' : b ≤ 1000000000000) (ha : -1000 ≤ a) (ha' : a ≤ 1000) :
    ∃ a' b', fixed_wide_add.f a b n = some (a', b') ∧ a' * 4294967296 + b' = a * 4294967296 + b + n ∧ b ≤ b' ∧ b' ≤ b + 4294967296 := by
  unfold fixed_wide_add.f
  rw [i64_low (by omega) (by omega), wrap_in (by omega) (by omega), wrap_in (by omega) (by omega)]
  exact ⟨_, _, rfl, by omega, by omega, by omega⟩

theorem value_eq {a b T : Int} (hT : a * 4294967296 + b = T) (h : -100000 ≤ T) (h' : T ≤ 100000) (hb : 0 ≤ b) (hb' : b ≤ 1000000000000) : ∃ u v, fixed_wide_value.f a b = some (T, true, u, v) := by
  unfold fixed_wide_value.f fixed_sum.f
  rw [if_neg (by omega), if_neg (by omega), wrap_in (n := a * 4294967296) (by omega) (by omega), hT, wrap_in (by omega) (by omega), if_pos (by omega), decide_eq_true (by omega)]
  exact ⟨_, _, rfl⟩

theorem idx {i n L : Nat} (h : i + (n + 1) = L) : i + 1 + n = L ∧ i < L := by omega
theorem next_i {i L : Nat} (h : i < L) (hL : L ≤ 9) : wrap64 ((i : Int) + 1) = ((i + 1 : Nat) : Int) ∧ (i : Int) ≤ 9 ∧ (i : Int) < (L : Int) ∧ 0 ≤ (i : Int) := by
  refine ⟨?_, by omega, by omega, by omega⟩
  rw [wrap_in (by omega) (by omega)]; omega
theorem minmax_bd {x y : Int} (h : -(20 * 449) ≤ x ∧ x ≤ 20 * 449) (h' : -(20 * 449) ≤ y ∧ y ≤ 20 * 449) : (-8980 ≤ min x y ∧ min x y ≤ 8980) ∧ (-8980 ≤ max x y ∧ max x y ≤ 8980) ∧ wrap64 x = x ∧ wrap64 y = y :=
  ⟨by omega, by omega, wrap_in (by omega) (by omega), wrap_in (by omega) (by omega)⟩

theorem add_step {a b S n i : Int} (hi : i ≤ 9) (hS : a * 4294967296 + b = S) (b1 : 0 ≤ b) (b2 : b ≤ 4294967296 * i) (s1 : -9000 * i ≤ S) (s2 : S ≤ 9000 * i) (hn : -8980 ≤ n ∧ n ≤ 8980) :
    ∃ a' b', fixed_wide_add.f a b n = some (a', b') ∧ a' * 4294967296 + b' = S + n ∧ (0 ≤ b' ∧ b' ≤ 4294967296 * (i + 1)) ∧ (-9000 * (i + 1) ≤ S + n ∧ S + n ≤ 9000 * (i + 1)) := by
  obtain ⟨a', b', f1, f2, f3, f4⟩ := add_eq (a := a) (b := b) (n := n) (by omega) (by omega) b1 (by omega) (by omega) (by omega)
  exact ⟨a', b', f1, by omega, ⟨by omega, by omega⟩, ⟨by omega, by omega⟩⟩

theorem bounds_loop (l : List Int) (hl : l.length ≤ 9) (hw : ∀ w ∈ l, -20 ≤ w ∧ w ≤ 20) (lo hi : Int) (h1 : -449 ≤ lo) (h2 : lo ≤ hi) (h3 : hi ≤ 449) (n : Nat) :
    ∀ (k i : Nat) (a b c d S T : Int), i + n = l.length → n + 2 ≤ k → a * 4294967296 + b = S → c * 4294967296 + d = T → 0 ≤ b → b ≤ 4294967296 * i → 0 ≤ d → d ≤ 4294967296 * i →
      -9000 * (i : Int) ≤ S → S ≤ 9000 * i → -9000 * (i : Int) ≤ T → T ≤ 9000 * i →
      fixed_Bounds.l0 k l lo hi (i : Int) a b c d = some (S + LO lo hi (l.drop i), T + HI lo hi (l.drop i), true) := by
  induction n with
  | zero =>
    intro k i a b c d S T hi' hk hS hT b1 b2 d1 d2 s1 s2 t1 t2
    obtain ⟨k, rfl⟩ : ∃ m, k = m + 1 := ⟨k - 1, by omega⟩
    simp only [fixed_Bounds.l0]
    obtain ⟨u, v, e1⟩ := value_eq hS (by omega) (by omega) b1 (by omega)
    obtain ⟨u', v', e2⟩ := value_eq hT (by omega) (by omega) d1 (by omega)
    rw [if_neg (by omega), e1, e2, List.drop_of_length_le (by omega)]
    simp [LO, HI]
  | succ n ih =>
    intro k i a b c d S T hi' hk hS hT b1 b2 d1 d2 s1 s2 t1 t2
    obtain ⟨k, rfl⟩ : ∃ m, k = m + 1 := ⟨k - 1, (Nat.sub_add_cancel (Nat.le_trans (Nat.le_add_left 1 _) hk)).symm⟩
    obtain ⟨hidx, hlt⟩ := idx hi'
    obtain ⟨e1, hi9, hI, hP⟩ := next_i hlt hl
    have hm := hw _ (rd_mem l i hlt)
    obtain ⟨hu, hv, wx, wy⟩ := minmax_bd (mulb (X := 449) hm.1 hm.2 h1 (Int.le_trans h2 h3)) (mulb (X := 449) hm.1 hm.2 (Int.le_trans h1 h2) h3)
    rw [rd_drop l i hlt]
    simp only [fixed_Bounds.l0, LO, HI]
    rw [if_pos hI, if_pos hP, e1, wx, wy, mn_min, mx_max]
    generalize min (rd l (i : Int) * lo) (rd l (i : Int) * hi) = u at hu ⊢
    generalize max (rd l (i : Int) * lo) (rd l (i : Int) * hi) = v at hv ⊢
    obtain ⟨a', b', f1, f2, f3, f4⟩ := add_step hi9 hS b1 b2 s1 s2 hu
    obtain ⟨c', d', g1, g2, g3, g4⟩ := add_step hi9 hT d1 d2 t1 t2 hv
    rw [f1, g1]
    simp only [Option.bind_some]
    have hc : ((i + 1 : Nat) : Int) = (i : Int) + 1 := Int.natCast_succ i
    rw [ih k (i + 1) a' b' c' d' (S + u) (T + v) hidx (Nat.le_of_succ_le_succ hk) f2 g2 f3.1 (by rw [hc]; exact f3.2) g3.1 (by rw [hc]; exact g3.2) (by rw [hc]; exact f4.1) (by rw [hc]; exact f4.2) (by rw [hc]; exact g4.1) (by rw [hc]; exact g4.2)]
    rw [Int.add_assoc, Int.add_assoc]

theorem weights_loop (l : List Int) (hl : l.length ≤ 9) (hw : ∀ w ∈ l, -20 ≤ w ∧ w ≤ 20) (n : Nat) :
    ∀ (k i : Nat), i + n = l.length → n + 1 ≤ k → fixed_Weights.l0 k l (l.length : Int) (i : Int) = some 0 := by
  induction n with
  | zero =>
    intro k i hi hk
    obtain ⟨k, rfl⟩ : ∃ m, k = m + 1 := ⟨k - 1, by omega⟩
    simp only [fixed_Weights.l0]
    rw [if_neg (by omega)]
  | succ n ih =>
    intro k i hi hk
    obtain ⟨k, rfl⟩ : ∃ m, k = m + 1 := ⟨k - 1, by omega⟩
    have hm := hw _ (rd_mem l i (by omega))
    have e1 : wrap64 ((i : Int) + 1) = ((i + 1 : Nat) : Int) := by rw [wrap_in (by omega) (by omega)]; omega
    simp only [fixed_Weights.l0]
    rw [if_pos (by omega), if_pos (by omega), if_pos (by omega), if_neg (by omega), if_neg (by omega), e1]
    exact ih k (i + 1) (by omega) (by omega)

theorem bounds_eq (k : Nat) (hk : 30 ≤ k) (l : List Int) (h0 : 0 < l.length) (hl : l.length ≤ 9) (hw : ∀ w ∈ l, -20 ≤ w ∧ w ≤ 20) (lo hi : Int) (h1 : -449 ≤ lo) (h2 : lo ≤ hi) (h3 : hi ≤ 449) :
    fixed_Bounds.f k l lo hi = some (LO lo hi l, HI lo hi l, true) := by
  obtain ⟨k, rfl⟩ : ∃ m, k = m + 1 := ⟨k - 1, by omega⟩
  have hb := bounds_loop l hl hw lo hi h1 h2 h3 l.length (k + 1) 0 0 0 0 0 0 0 (by omega) (by omega) (by omega) (by omega) (by omega) (by omega) (by omega) (by omega) (by omega) (by omega) (by omega) (by omega)
  have hww := weights_loop l hl hw l.length k 0 (by omega) (by omega)
  simp only [Int.cast_ofNat_Int, List.drop_zero, Int.zero_add] at hb hww
  unfold fixed_Bounds.f fixed_Weights.f
  rw [if_neg (by omega), decide_eq_false (by omega)]
  simp only [fixed_Weights.j0, Bool.false_eq_true, if_false, hww, Option.bind_some, if_true]
  rw [if_neg (by omega), if_neg (by omega), if_neg (by omega)]
  exact hb

theorem pick_spec (l : List Int) (s : Int) (xs : List Int) (hs : 0 ≤ s) (hl : l.length ≤ 4611686018427387904) (h : 0 < xs.length) (hx : xs.length ≤ 100) :
    ∃ v s', tilefarmgen_Tape_Pick.f l s xs = some (v, s') ∧ v ∈ xs ∧ 0 ≤ s' := by
  obtain ⟨r, s', h1, h2, h3, h4⟩ := next_spec l s (xs.length : Int) hs hl (by omega) (by omega)
  refine ⟨rd xs r, s', ?_, ?_, h4⟩
  · unfold tilefarmgen_Tape_Pick.f
    rw [h1]
    simp only [Option.bind_some]
    rw [if_pos h2, if_pos h3]
  · obtain ⟨n, rfl⟩ := Int.eq_ofNat_of_zero_le h2
    exact rd_mem xs n (by omega)

theorem tweights_loop (l : List Int) (hl : l.length ≤ 4611686018427387904) (N : Nat) (hN : N ≤ 9) (n : Nat) :
    ∀ (k i : Nat) (xs : List Int) (s : Int), i + n = N → n + 1 ≤ k → xs.length = i → (∀ w ∈ xs, -20 ≤ w ∧ w ≤ 20) → 0 ≤ s →
      ∃ ys s', (ys.length = N ∧ (∀ w ∈ ys, -20 ≤ w ∧ w ≤ 20) ∧ 0 ≤ s') ∧ tilefarmgen_Tape_Weights.l0 k (N : Int) xs (i : Int) l s = some (ys, s') := by
  induction n with
  | zero =>
    intro k i xs s hi hk hx hw hs
    obtain ⟨k, rfl⟩ : ∃ m, k = m + 1 := ⟨k - 1, by omega⟩
    simp only [tilefarmgen_Tape_Weights.l0]
    rw [if_neg (by omega)]
    exact ⟨xs, s, ⟨by omega, hw, hs⟩, rfl⟩
  | succ n ih =>
    intro k i xs s hi hk hx hw hs
    obtain ⟨k, rfl⟩ : ∃ m, k = m + 1 := ⟨k - 1, by omega⟩
    have e1 : wrap64 ((i : Int) + 1) = ((i + 1 : Nat) : Int) := by rw [wrap_in (by omega) (by omega)]; omega
    obtain ⟨r, s1, a1, a2, a3, a4⟩ := next_spec l s 41 hs hl (by decide) (by decide)
    obtain ⟨v, s2, b1, b2, b3⟩ := pick_spec l s1 [1, 2, (-1), 0, r - 20, 5] a4 hl (by simp) (by simp)
    obtain ⟨ys, s', c1, c2⟩ := ih k (i + 1) (xs ++ [v]) s2 (by omega) (by omega) (by simp; omega) (fun w hm => by
      rcases List.mem_append.1 hm with hm | hm
      · exact hw w hm
      · simp only [List.mem_singleton] at hm
        subst hm
        simp only [List.mem_cons, List.not_mem_nil, or_false] at b2
        omega) b3
    refine ⟨ys, s', c1, ?_⟩
    simp only [tilefarmgen_Tape_Weights.l0]
    rw [if_pos (by omega), a1]
    simp only [Option.bind_some]
    rw [wrap_in (n := r - 20) (by omega) (by omega), b1]
    simp only [Option.bind_some]
    rw [if_pos (by omega), e1]
    exact c2

theorem range_bd {lo hi : Int} (h1 : -449 ≤ lo) (h2 : lo ≤ hi) (h3 : hi ≤ 449) : wrap64 (wrap64 (hi - lo) + 1) = hi - lo + 1 ∧ 0 < hi - lo + 1 ∧ hi - lo + 1 ≤ 4611686018427387904 := by
  refine ⟨?_, by omega, by omega⟩
  rw [wrap_in (n := hi - lo) (by omega) (by omega), wrap_in (by omega) (by omega)]

theorem choice_bd {lo hi r : Int} (h1 : -449 ≤ lo) (h2 : lo ≤ hi) (h3 : hi ≤ 449) (a2 : 0 ≤ r) (a3 : r < hi - lo + 1) : lo ≤ lo + r ∧ lo + r ≤ hi ∧ wrap64 (lo + r) = lo + r :=
  ⟨by omega, by omega, wrap_in (by omega) (by omega)⟩

theorem between {w lo hi x : Int} (h1 : -20 ≤ w) (h2 : w ≤ 20) (c1 : lo ≤ x) (c2 : x ≤ hi) : min (w * lo) (w * hi) ≤ w * x ∧ w * x ≤ max (w * lo) (w * hi) := by
  by_cases hs : 0 ≤ w
  · have x1 : w * lo ≤ w * x := Int.mul_le_mul_of_nonneg_left c1 hs
    have x2 : w * x ≤ w * hi := Int.mul_le_mul_of_nonneg_left c2 hs
    omega
  · have x1 : w * x ≤ w * lo := Int.mul_le_mul_of_nonpos_left (by omega) c1
    have x2 : w * hi ≤ w * x := Int.mul_le_mul_of_nonpos_left (by omega) c2
    omega

theorem sums_bd {i s low high u v z : Int} (hi9 : i ≤ 9) (hu : -8980 ≤ u ∧ u ≤ 8980) (hv : -8980 ≤ v ∧ v ≤ 8980) (m4 : u ≤ z ∧ z ≤ v) (q1 : low ≤ s) (q2 : s ≤ high) (q3 : -9000 * i ≤ low) (q4 : high ≤ 9000 * i) :
    wrap64 (s + z) = s + z ∧ wrap64 (low + u) = low + u ∧ wrap64 (high + v) = high + v ∧ low + u ≤ s + z ∧ s + z ≤ high + v ∧ -9000 * (i + 1) ≤ low + u ∧ high + v ≤ 9000 * (i + 1) :=
  ⟨wrap_in (by omega) (by omega), wrap_in (by omega) (by omega), wrap_in (by omega) (by omega), by omega, by omega, by omega, by omega⟩

theorem law_loop (tl : List Int) (htl : tl.length ≤ 4611686018427387904) (l : List Int) (hl : l.length ≤ 9) (hw : ∀ w ∈ l, -20 ≤ w ∧ w ≤ 20) (lo hi : Int) (h1 : -449 ≤ lo) (h2 : lo ≤ hi) (h3 : hi ≤ 449) (n : Nat) :
    ∀ (k i : Nat) (s low high p : Int), i + n = l.length → n + 50 ≤ k → 0 ≤ p → low ≤ s → s ≤ high →
      -9000 * (i : Int) ≤ low → high ≤ 9000 * i →
      tilefarmlaw7_FixedWithin.l0 k l lo hi (low + LO lo hi (l.drop i)) (high + HI lo hi (l.drop i)) s low high (i : Int) tl p = some true := by
  induction n with
  | zero =>
    intro k i s low high p hi' hk hp q1 q2 q3 q4
    obtain ⟨k, rfl⟩ : ∃ m, k = (m + 20) + 1 := ⟨k - 21, by omega⟩
    have hs : tilefarmlaw7_sane.f (k + 20) = some true := at_rounds tilefarmlaw7_sane.mono (by omega) sane_eq
    simp only [tilefarmlaw7_FixedWithin.l0]
    rw [if_neg (by omega), List.drop_of_length_le (by omega)]
    simp only [LO, HI, Int.add_zero]
    rw [if_pos q1, if_pos q2, if_pos trivial, if_pos trivial, hs]
    rfl
  | succ n ih =>
    intro k i s low high p hi' hk hp q1 q2 q3 q4
    obtain ⟨k, rfl⟩ : ∃ m, k = m + 1 := ⟨k - 1, (Nat.sub_add_cancel (Nat.le_trans (Nat.le_add_left 1 _) (Nat.le_trans (Nat.le_add_left 50 (n + 1)) hk |> fun h => (show 0 + 1 ≤ k from Nat.le_trans (by decide) h)))).symm⟩
    obtain ⟨hidx, hlt⟩ := idx hi'
    obtain ⟨e1, hi9, hI, hP⟩ := next_i hlt hl
    have hm := hw _ (rd_mem l i hlt)
    obtain ⟨w1, w2, w3⟩ := range_bd h1 h2 h3
    obtain ⟨r, p', a1, a2, a3, a4⟩ := next_spec tl p (hi - lo + 1) hp htl w2 w3
    obtain ⟨c1, c2, c3⟩ := choice_bd h1 h2 h3 a2 a3
    have m4 := between hm.1 hm.2 c1 c2
    have m3 := mulb (X := 449) hm.1 hm.2 (Int.le_trans h1 c1) (Int.le_trans c2 h3)
    obtain ⟨hu, hv, wx, wy⟩ := minmax_bd (mulb (X := 449) hm.1 hm.2 h1 (Int.le_trans h2 h3)) (mulb (X := 449) hm.1 hm.2 (Int.le_trans h1 h2) h3)
    rw [rd_drop l i hlt]
    simp only [tilefarmlaw7_FixedWithin.l0, LO, HI]
    rw [if_pos hI, if_pos hP, w1, a1]
    simp only [Option.bind_some]
    rw [e1, c3, wx, wy, wrap_in (n := rd l (i : Int) * (lo + r)) (Int.le_trans (by decide) m3.1) (Int.le_trans m3.2 (by decide)), mn_min, mx_max]
    generalize min (rd l (i : Int) * lo) (rd l (i : Int) * hi) = u at hu m4 ⊢
    generalize max (rd l (i : Int) * lo) (rd l (i : Int) * hi) = v at hv m4 ⊢
    generalize rd l (i : Int) * (lo + r) = z at m4 ⊢
    have hc : ((i + 1 : Nat) : Int) = (i : Int) + 1 := Int.natCast_succ i
    obtain ⟨d1, d2, d3, d4, d5, d6, d7⟩ := sums_bd hi9 hu hv m4 q1 q2 q3 q4
    rw [d1, d2, d3, ← Int.add_assoc, ← Int.add_assoc]
    exact ih k (i + 1) (s + z) (low + u) (high + v) p' hidx (by clear hw; omega) a4 d4 d5 (by rw [hc]; exact d6) (by rw [hc]; exact d7)

theorem FixedWithin : tilefarmlaw7_FixedWithin.Pure := by
  intro l hm hm2 hx
  have hl : l.length ≤ 4611686018427387904 := by omega
  obtain ⟨K, hK⟩ : ∃ K : Nat, 200 ≤ K := ⟨200, Nat.le_refl _⟩
  refine ⟨K, ?_⟩
  unfold tilefarmlaw7_FixedWithin.f tilefarmgen_New.f
  simp only [Option.bind_some]
  obtain ⟨r, s1, a1, a2, a3, a4⟩ := next_spec l 0 9 (by decide) hl (by decide) (by decide)
  rw [a1]
  simp only [Option.bind_some]
  obtain ⟨N, hN⟩ := Int.eq_ofNat_of_zero_le (show 0 ≤ 1 + r by omega)
  obtain ⟨ws, s2, ⟨b1, b2, b3⟩, b4⟩ := tweights_loop l hl N (by omega) N K 0 [] s1 (by omega) (by omega) rfl (by simp) a4
  have b5 : tilefarmgen_Tape_Weights.f K l s1 (N : Int) = some (ws, s2) := b4
  rw [wrap_in (n := 1 + r) (by omega) (by omega), hN, b5]
  simp only [Option.bind_some]
  obtain ⟨r2, s3, c1, c2, c3, c4⟩ := next_spec l s2 300 b3 hl (by decide) (by decide)
  rw [c1]
  simp only [Option.bind_some]
  obtain ⟨r3, s4, d1, d2, d3, d4⟩ := next_spec l s3 300 c4 hl (by decide) (by decide)
  rw [d1]
  simp only [Option.bind_some]
  rw [wrap_in (n := r2 - 150) (by omega) (by omega), wrap_in (n := r2 - 150 + r3) (by omega) (by omega)]
  have hb := bounds_eq K (by omega) ws (by omega) (by omega) b2 (r2 - 150) (r2 - 150 + r3) (by omega) (by omega) (by omega)
  have hlw := law_loop l hl ws (by omega) b2 (r2 - 150) (r2 - 150 + r3) (by omega) (by omega) (by omega) ws.length K 0 0 0 0 s4 (by omega) (by omega) d4 (by omega) (by omega) (by omega) (by omega)
  simp only [Int.cast_ofNat_Int, List.drop_zero, Int.zero_add] at hlw
  rw [hb]
  simp only [Option.bind_some, if_true]
  exact hlw


end Go.Proofs.Ytepbjipmfchpnaa.Pure
namespace Go.Proofs.Ytepbjipmfchpnaa
open Go.ChangeShapes Go.WideShapes
/-- The print's own word, under the name that the printed row uses. -/
theorem PrintWords.sized_ints {H : Type} {enc : TypeId × Value → H} {P : Program} {W : World} {base : Nat} {spare : Nat → Bool} {held : Bool} {t e : TypeId} {k : IntKind} {a : Option Addr} {len cap : Nat} {d : DataW H} {ps : List MemPlace} {ts : List TypeId} {ds : List (DataW H)} {j : Nat}
    (hsz : (DataW.weightsEach P ts ds).all (· ≤ reachBytes) = true) (ht : ts[j]? = some t) (hd : ds[j]? = some d) (hu : P.underlying t = some (.slice e)) (he : P.underlying e = some (.int k)) (hc : P.cellsOf e = 1) {B : Nat} (hB : P.bytesOf e = B)
    (h : DataW.Trod enc P W base spare held t (.slice a len cap) d ps) : len * B ≤ 140737488351232 :=
  Go.Proofs.YtepbjipmfchpnaaW.PrintWords.sized_ints hsz ht hd hu he hc hB h
end Go.Proofs.Ytepbjipmfchpnaa

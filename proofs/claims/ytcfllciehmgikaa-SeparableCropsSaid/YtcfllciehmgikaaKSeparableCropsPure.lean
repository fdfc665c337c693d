/- The tile of a rectangle is the crop of the tile of the whole plane, with both shifts: for every tape. -/
import Derived.Test.YtcfllciehmgikaaKSeparableCropsx13
import Derived.Test.YtcfllciehmgikaaKSeparableCropsa
namespace Go.Proofs.Ytcfllciehmgikaa.Pure
open Go.RowKit Go.Proofs.Ytcfllciehmgikaa.PSeparableCrops Go.Proofs.YtcfllciehmgikaaW.PrintWords Go.Proofs.YtcfllciehmgikaaW.PrintLast Go.Proofs.YtcfllciehmgikaaW.PrintMore
set_option linter.unusedVariables false
set_option linter.unusedSimpArgs false

theorem wrap_in {n : Int} (h : -9223372036854775808 ≤ n) (h' : n ≤ 9223372036854775807) : wrap64 n = n := by unfold wrap64; omega

theorem tmod_emod (a n : Int) (h : 0 < n) : (0 ≤ Int.tmod a n ∧ Int.tmod a n = a % n) ∨ (Int.tmod a n < 0 ∧ Int.tmod a n + n = a % n) := by
  have h1 := Int.tmod_eq_emod (a := a) (b := n)
  have h2 := Int.emod_nonneg a (by omega : n ≠ 0)
  have h3 := Int.emod_lt_of_pos a h
  split at h1 <;> omega

theorem mod_eq (a n : Int) (h : 0 < n) (hn : n ≤ 4611686018427387904) : tilefarmgen_Mod.f a n = some (a % n) := by
  have h2 := Int.emod_nonneg a (by omega : n ≠ 0)
  have h3 := Int.emod_lt_of_pos a h
  unfold tilefarmgen_Mod.f
  rw [if_neg (by omega)]
  rcases tmod_emod a n h with ⟨h4, h5⟩ | ⟨h4, h5⟩
  · rw [if_neg (by omega), h5]
  · rw [if_pos h4, wrap_in (by omega) (by omega), h5]

theorem sd_true {p : Prop} [Decidable p] (h : p) : some true = some (decide p) := by rw [decide_eq_true h]
theorem sd_false {p : Prop} [Decidable p] (h : ¬ p) : some false = some (decide p) := by rw [decide_eq_false h]
theorem sd_iff {p q : Prop} [Decidable p] [Decidable q] (h : q ↔ p) : some (decide q) = some (decide p) := by rw [decide_eq_decide.2 h]

theorem mx_max (a b : Int) : mx a b = max a b := by unfold mx; omega
theorem mn_min (a b : Int) : mn a b = min a b := by unfold mn; omega

theorem mul_bd {x y B C : Int} (hx : 0 ≤ x) (hy : 0 ≤ y) (hxB : x ≤ B) (hyB : y ≤ C) : 0 ≤ x * y ∧ x * y ≤ B * C :=
  ⟨Int.mul_nonneg hx hy, Int.mul_le_mul hxB hyB hy (by omega)⟩

theorem dec_iff {p q : Prop} [Decidable p] [Decidable q] (h : p ↔ q) : decide p = decide q := decide_eq_decide.2 h
theorem and_not_dec (p q : Prop) [Decidable p] [Decidable q] : (decide p && !decide q) = decide (p ∧ ¬ q) := by
  by_cases hp : p <;> by_cases hq : q <;> simp [hp, hq]

theorem wrap64_range (n : Int) : -9223372036854775808 ≤ wrap64 n ∧ wrap64 n ≤ 9223372036854775807 := by unfold wrap64; omega

theorem wf_range {n : Int} (h : (Lit.int .i64 n).wf = true) : -9223372036854775808 ≤ n ∧ n ≤ 9223372036854775807 := by
  simp only [Lit.wf, IntKind.min, IntKind.max, IntKind.signed, IntKind.bits, Bool.and_eq_true, decide_eq_true_eq, if_true] at h
  omega


theorem next_spec (l : List Int) (s n : Int) (hs : 0 ≤ s) (hl : l.length ≤ 4611686018427387904) (h : 0 < n) (hn : n ≤ 4611686018427387904) :
    ∃ r s', tilefarmgen_Tape_Next.f l s n = some (r, s') ∧ 0 ≤ r ∧ r < n ∧ 0 ≤ s' := by
  unfold tilefarmgen_Tape_Next.f
  rw [if_neg (by omega)]
  by_cases h1 : s ≥ (l.length : Int)
  · rw [if_pos h1]; exact ⟨_, _, rfl, by omega, by omega, hs⟩
  · have e1 : wrap64 (s + 1) = s + 1 := wrap_in (by omega) (by omega)
    have e2 : wrap64 (s + 1 - 1) = s := by rw [wrap_in (by omega) (by omega)]; omega
    rw [if_neg h1]
    simp only [e1, e2]
    rw [if_pos hs, if_pos (by omega), mod_eq _ _ h hn]
    exact ⟨_, _, rfl, Int.emod_nonneg _ (by omega), Int.emod_lt_of_pos _ h, by omega⟩


theorem rd_mem (l : List Int) (i : Nat) (h : i < l.length) : rd l (i : Int) ∈ l := by
  simp [rd, h]

theorem rd_drop (l : List Int) (i : Nat) (h : i < l.length) : l.drop i = rd l (i : Int) :: l.drop (i + 1) := by
  rw [List.drop_eq_getElem_cons h]
  simp [rd, h]

theorem next_o (l : List Int) (s n : Int) (hs : 0 ≤ s) (hl : l.length ≤ 4611686018427387904) (h : 0 < n) (hn : n ≤ 4611686018427387904) :
    ∃ bt, tilefarmgen_Tape_Next.f l s n = some bt ∧ 0 ≤ bt.1 ∧ bt.1 < n ∧ 0 ≤ bt.2 := by
  obtain ⟨r, s', h1, h2, h3, h4⟩ := next_spec l s n hs hl h hn
  exact ⟨(r, s'), h1, h2, h3, h4⟩

theorem pick_o (l : List Int) (s : Int) (xs : List Int) (hs : 0 ≤ s) (hl : l.length ≤ 4611686018427387904) (h : 0 < xs.length) (hx : xs.length ≤ 100) :
    ∃ bt, tilefarmgen_Tape_Pick.f l s xs = some bt ∧ bt.1 ∈ xs ∧ 0 ≤ bt.2 := by
  obtain ⟨r, s', h1, h2, h3, h4⟩ := next_spec l s (xs.length : Int) hs hl (by omega) (by omega)
  refine ⟨(rd xs r, s'), ?_, ?_, h4⟩
  · unfold tilefarmgen_Tape_Pick.f
    rw [h1, Option.bind_some, if_pos h2, if_pos h3]
  · obtain ⟨n, rfl⟩ := Int.eq_ofNat_of_zero_le h2
    exact rd_mem xs n (by omega)


abbrev V (a b c d : Int) : Prop := (a = 0 ∧ b = 0 ∧ c = 0 ∧ d = 0) ∨ (-1048576 ≤ a ∧ a ≤ 1048576 ∧ -1048576 ≤ b ∧ b ≤ 1048576 ∧ -1048576 ≤ c ∧ c ≤ 1048576 ∧ -1048576 ≤ d ∧ d ≤ 1048576 ∧ a < c ∧ b < d)

theorem empty_eq (a b c d : Int) : rect_Empty.f a b c d = some (decide (a = 0 ∧ b = 0 ∧ c = 0 ∧ d = 0)) := by
  unfold rect_Empty.f
  congr 1
  rw [Bool.eq_iff_iff]
  simp

theorem coord_eq (a : Int) : rect_coord.f a = some (decide (-1048576 ≤ a ∧ a ≤ 1048576)) := by
  unfold rect_coord.f
  split <;> congr 1 <;> rw [Bool.eq_iff_iff] <;> simp <;> omega

theorem valid_eq (a b c d : Int) : rect_Valid.f a b c d = some (decide (V a b c d)) := by
  unfold rect_Valid.f
  simp only [empty_eq, coord_eq, Option.bind_some, decide_eq_true_eq]
  repeat' split
  all_goals first | (refine sd_iff ?_; omega) | (refine sd_true ?_; omega) | (refine sd_false ?_; omega)

theorem ref_coord_eq (a : Int) : tilefarmref2_coord.f a = some (decide (-1048576 ≤ a ∧ a ≤ 1048576)) := by
  unfold tilefarmref2_coord.f
  split <;> congr 1 <;> rw [Bool.eq_iff_iff] <;> simp <;> omega

theorem ref_valid_eq (a b c d : Int) : tilefarmref2_Valid.f a b c d = some (decide (V a b c d)) := by
  unfold tilefarmref2_Valid.f
  simp only [ref_coord_eq, Option.bind_some, decide_eq_true_eq, V, Bool.and_eq_true, beq_iff_eq]
  repeat' split
  all_goals first | (refine sd_iff ?_; omega) | (refine sd_true ?_; omega) | (refine sd_false ?_; omega)

def ix (a0 a1 a2 a3 b0 b1 b2 b3 : Int) : Int × Int × Int × Int :=
  if V a0 a1 a2 a3 ∧ V b0 b1 b2 b3 ∧ mx a0 b0 < mn a2 b2 ∧ mx a1 b1 < mn a3 b3 then (mx a0 b0, mx a1 b1, mn a2 b2, mn a3 b3) else (0, 0, 0, 0)

theorem intersect_eq (k : Nat) (a0 a1 a2 a3 b0 b1 b2 b3 : Int) : rect_Intersect.f (k + 1) a0 a1 a2 a3 b0 b1 b2 b3 = some (ix a0 a1 a2 a3 b0 b1 b2 b3) := by
  unfold rect_Intersect.f ix
  simp only [valid_eq, Option.bind_some, rect_Intersect.j0, decide_eq_true_eq, Bool.not_eq_true', decide_eq_false_iff_not, if_true]
  by_cases h1 : V a0 a1 a2 a3
  · by_cases h2 : V b0 b1 b2 b3
    · rw [if_pos h1, if_neg (fun h => h h2)]
      by_cases h3 : mx a0 b0 < mn a2 b2
      · by_cases h4 : mx a1 b1 < mn a3 b3
        · rw [if_neg (by omega), if_neg (by omega), if_pos ⟨h1, h2, h3, h4⟩]
        · rw [if_neg (by omega), if_pos (by omega), if_neg (fun h => h4 h.2.2.2)]
      · rw [if_pos (by omega), if_neg (fun h => h3 h.2.2.1)]
    · rw [if_pos h1, if_pos h2, if_neg (fun h => h2 h.2.1)]
  · rw [if_neg h1, if_neg (fun h => h1 h.1)]

theorem ix_spec {a0 a1 a2 a3 b0 b1 b2 b3 c0 c1 c2 c3 : Int} (hc : ix a0 a1 a2 a3 b0 b1 b2 b3 = (c0, c1, c2, c3)) (ha : V a0 a1 a2 a3) (hb : V b0 b1 b2 b3) :
    (c0 = 0 ∧ c1 = 0 ∧ c2 = 0 ∧ c3 = 0 ∧ (min a2 b2 ≤ max a0 b0 ∨ min a3 b3 ≤ max a1 b1)) ∨ (c0 = max a0 b0 ∧ c1 = max a1 b1 ∧ c2 = min a2 b2 ∧ c3 = min a3 b3 ∧ c0 < c2 ∧ c1 < c3) := by
  simp only [ix, mx_max, mn_min] at hc
  split at hc
  · next h =>
    simp only [Prod.mk.injEq] at hc
    exact .inr (by omega)
  · next h =>
    simp only [Prod.mk.injEq] at hc
    refine .inl ?_
    have : ¬ (max a0 b0 < min a2 b2 ∧ max a1 b1 < min a3 b3) := fun h' => h ⟨ha, hb, h'⟩
    omega

theorem ix_inside {a0 a1 a2 a3 b0 b1 b2 b3 c0 c1 c2 c3 : Int} (h : (c0 = 0 ∧ c1 = 0 ∧ c2 = 0 ∧ c3 = 0 ∧ (min a2 b2 ≤ max a0 b0 ∨ min a3 b3 ≤ max a1 b1)) ∨ (c0 = max a0 b0 ∧ c1 = max a1 b1 ∧ c2 = min a2 b2 ∧ c3 = min a3 b3 ∧ c0 < c2 ∧ c1 < c3))
    (hy : ¬ (c0 = 0 ∧ c1 = 0 ∧ c2 = 0 ∧ c3 = 0)) : a0 ≤ c0 ∧ c0 < c2 ∧ c2 ≤ a2 ∧ a1 ≤ c1 ∧ c1 < c3 ∧ c3 ≤ a3 := by
  rcases h with h | h
  · exact absurd ⟨h.1, h.2.1, h.2.2.1, h.2.2.2.1⟩ hy
  · omega

theorem V_range {a b c d : Int} (h : V a b c d) : -1048576 ≤ a ∧ c ≤ 1048576 ∧ -1048576 ≤ b ∧ d ≤ 1048576 := by omega
theorem V_mono {a b c d : Int} (h : V a b c d) : a ≤ c ∧ b ≤ d := by omega


theorem mul_some (a b c : Int) : ∃ p, extent_Mul.f a b c = some p := by
  unfold extent_Mul.f
  by_cases c1 : a < 0
  · rw [if_pos c1]; exact ⟨_, rfl⟩
  · rw [if_neg c1]
    by_cases c2 : b < 0
    · rw [if_pos c2]; exact ⟨_, rfl⟩
    · rw [if_neg c2]
      by_cases c3 : c < 0
      · rw [if_pos c3]; exact ⟨_, rfl⟩
      · rw [if_neg c3]
        by_cases c4 : a = 0
        · rw [if_pos c4]; exact ⟨_, rfl⟩
        · rw [if_neg c4]
          by_cases c5 : b > wrap64 (Int.tdiv c a)
          · rw [if_pos c5]; exact ⟨_, rfl⟩
          · rw [if_neg c5]; exact ⟨_, rfl⟩

/-- Which sizes a plane can have. -/
abbrev SZ (a b m : Int) : Prop := 1 ≤ a ∧ a ≤ 128 ∧ 1 ≤ b ∧ b ≤ 128 ∧ a * b ≤ 4096 ∧ 1 ≤ m ∧ m ≤ 4294967296

theorem size_no {a b m : Int} (h : ¬ SZ a b m) : some false = some (decide (SZ a b m)) := by rw [decide_eq_false h]

theorem size_val (a b m : Int) : plane_size.f a b m = some (decide (SZ a b m)) := by
  unfold plane_size.f
  by_cases c1 : a ≥ 1
  · by_cases c2 : a ≤ 128
    · by_cases c3 : b ≥ 1
      · by_cases c4 : b ≤ 128
        · obtain ⟨b0, b1⟩ := mul_bd (x := a) (y := b) (B := 128) (C := 128) (by omega) (by omega) c2 c4
          have hq : b ≤ 4096 / a ↔ b * a ≤ 4096 := Int.le_ediv_iff_mul_le (by omega)
          have q0 : 0 ≤ 4096 / a := Int.ediv_nonneg (by decide) (by omega)
          have q1 : 4096 / a ≤ 4096 := Int.ediv_le_self _ (by decide)
          rw [Int.mul_comm b a] at hq
          unfold extent_Mul.f
          rw [if_neg (show ¬ a < 0 by omega), if_neg (show ¬ b < 0 by omega), if_neg (show ¬ (4096 : Int) < 0 by decide), if_neg (show ¬ a = 0 by omega), Int.tdiv_eq_ediv_of_nonneg (by decide), wrap_in (n := 4096 / a) (by omega) (by omega), wrap_in (n := a * b) (by omega) (by omega)]
          by_cases c5 : b > 4096 / a
          · rw [if_pos c5]
            exact size_no (fun h => by have := hq.2 h.2.2.2.2.1; omega)
          · rw [if_neg c5, Option.bind_some]
            simp only [if_pos c1, if_pos c2, if_pos c3, if_pos c4, if_true]
            by_cases c6 : m ≥ 1
            · rw [if_pos c6]
              have := hq.1 (by omega)
              exact congrArg some (decide_eq_decide.2 ⟨fun h => ⟨c1, c2, c3, c4, this, c6, h⟩, fun h => h.2.2.2.2.2.2⟩)
            · rw [if_neg c6]
              exact size_no (fun h => c6 h.2.2.2.2.2.1)
        · obtain ⟨p, hp⟩ := mul_some a b 4096
          rw [hp, Option.bind_some]
          simp only [if_pos c1, if_pos c2, if_pos c3, if_neg c4, ite_self]
          exact size_no (fun h => c4 h.2.2.2.1)
      · obtain ⟨p, hp⟩ := mul_some a b 4096
        rw [hp, Option.bind_some]
        simp only [if_pos c1, if_pos c2, if_neg c3, ite_self]
        exact size_no (fun h => c3 h.2.2.1)
    · obtain ⟨p, hp⟩ := mul_some a b 4096
      rw [hp, Option.bind_some]
      simp only [if_pos c1, if_neg c2, ite_self]
      exact size_no (fun h => c2 h.2.1)
  · obtain ⟨p, hp⟩ := mul_some a b 4096
    rw [hp, Option.bind_some]
    simp only [if_neg c1, ite_self]
    exact size_no (fun h => c1 h.1)

/-- Which planes are valid. -/
abbrev PV (a b m : Int) (l : List Int) : Prop := SZ a b m ∧ (l.length : Int) = a * b ∧ ∀ v ∈ l, 0 ≤ v ∧ v ≤ m

theorem vloop_spec (a b m : Int) (l : List Int) (hl : l.length ≤ 4611686018427387904) : ∀ (d k i : Nat), i + d = l.length → d < k →
    plane_Valid.l0 k l (l.length : Int) (i : Int) a b m l = some (decide (∀ v ∈ l.drop i, 0 ≤ v ∧ v ≤ m))
  | 0, k, i, hi, hk => by
    obtain ⟨k, rfl⟩ : ∃ n, k = n + 1 := ⟨k - 1, by omega⟩
    rw [plane_Valid.l0, if_neg (show ¬ (i : Int) < (l.length : Int) by omega), List.drop_eq_nil_of_le (by omega)]
    simp
  | d + 1, k, i, hi, hk => by
    obtain ⟨k, rfl⟩ : ∃ n, k = n + 1 := ⟨k - 1, by omega⟩
    rw [plane_Valid.l0, rd_drop l i (by omega)]
    simp only [if_pos (show (i : Int) < (l.length : Int) by omega), if_pos (show 0 ≤ (i : Int) by omega), List.mem_cons, forall_eq_or_imp]
    rw [wrap_in (n := (i : Int) + 1) (by omega) (by omega), show ((i : Int) + 1) = ((i + 1 : Nat) : Int) from rfl, vloop_spec a b m l hl d k (i + 1) (by omega) (by omega)]
    by_cases c1 : rd l (i : Int) < 0
    · rw [if_pos c1]
      exact sd_false (fun h => by omega)
    · rw [if_neg c1]
      by_cases c2 : rd l (i : Int) > m
      · rw [if_pos c2]
        exact sd_false (fun h => by omega)
      · rw [if_neg c2]
        exact sd_iff ⟨fun h => ⟨by omega, h⟩, fun h => h.2⟩

theorem pvalid_spec (k : Nat) (a b m : Int) (l : List Int) (hl : l.length ≤ 4611686018427387904) (hk : l.length + 1 < k) : plane_Valid.f k a b m l = some (decide (PV a b m l)) := by
  obtain ⟨k, rfl⟩ : ∃ n, k = n + 1 := ⟨k - 1, by omega⟩
  unfold plane_Valid.f
  rw [size_val, Option.bind_some]
  by_cases c1 : SZ a b m
  · rw [decide_eq_true c1, if_pos rfl]
    obtain ⟨b0, b1⟩ := mul_bd (x := a) (y := b) (B := 128) (C := 128) (by omega) (by omega) c1.2.1 c1.2.2.2.1
    simp only [plane_Valid.j0]
    rw [wrap_in (n := a * b) (by omega) (by omega)]
    by_cases c2 : (l.length : Int) = a * b
    · rw [bne_eq_false_iff_eq.2 c2, if_neg Bool.false_ne_true]
      have hv := vloop_spec a b m l hl l.length k 0 (by omega) (by omega)
      rw [List.drop_zero] at hv
      exact hv.trans (sd_iff ⟨fun h => ⟨c1, c2, h⟩, fun h => h.2.2⟩)
    · rw [bne_iff_ne.2 c2, if_pos rfl]
      exact sd_false (fun h => c2 h.2.1)
  · rw [decide_eq_false c1, if_neg Bool.false_ne_true]
    exact sd_false (fun h => c1 h.1)


theorem set_all (P : Int → Prop) (l : List Int) (i : Nat) (v : Int) (h : ∀ x ∈ l, P x) (hv : P v) : ∀ x ∈ l.set i v, P x := by
  intro x hx
  rcases List.mem_or_eq_of_mem_set hx with hx | hx
  · exact h x hx
  · rw [hx]; exact hv

theorem sized_loop (t : List Int) (ht : t.length ≤ 4611686018427387904) (a b m : Int) (hm : 1 ≤ m) (hm' : m ≤ 4294967296) : ∀ (d k i : Nat) (s : Int) (l : List Int), 0 ≤ s → i + d = l.length → l.length ≤ 100000 → d < k →
    (∀ v ∈ l, 0 ≤ v ∧ v ≤ m) → ∃ bt, tilefarmgen_Tape_Sized.l0 k (i : Int) t s a b m l = some bt ∧ bt.1 = a ∧ bt.2.1 = b ∧ bt.2.2.1 = m ∧ bt.2.2.2.1.length = l.length ∧ (∀ v ∈ bt.2.2.2.1, 0 ≤ v ∧ v ≤ m) ∧ 0 ≤ bt.2.2.2.2
  | 0, k, i, s, l, hs, hi, hl, hk, hv => by
    obtain ⟨k, rfl⟩ : ∃ n, k = n + 1 := ⟨k - 1, by omega⟩
    rw [tilefarmgen_Tape_Sized.l0, if_neg (show ¬ (i : Int) < (l.length : Int) by omega)]
    exact ⟨_, rfl, rfl, rfl, rfl, rfl, hv, hs⟩
  | d + 1, k, i, s, l, hs, hi, hl, hk, hv => by
    obtain ⟨k, rfl⟩ : ∃ n, k = n + 1 := ⟨k - 1, by omega⟩
    rw [tilefarmgen_Tape_Sized.l0, if_pos (show (i : Int) < (l.length : Int) by omega), wrap_in (n := m + 1) (by omega) (by omega)]
    obtain ⟨r1, h1, h1a, h1b, h1c⟩ := next_o t s (m + 1) hs ht (by omega) (by omega)
    obtain ⟨r2, h2, h2a, h2b, h2c⟩ := next_o t r1.2 (m + 1) h1c ht (by omega) (by omega)
    obtain ⟨r3, h3, h3a, h3b⟩ := pick_o t r2.2 [r1.1, r2.1, m, 0] h2c ht (by simp) (by simp)
    rw [h1, Option.bind_some, h2, Option.bind_some, h3, Option.bind_some, if_pos (show 0 ≤ (i : Int) by omega), wrap_in (n := (i : Int) + 1) (by omega) (by omega)]
    have hr : 0 ≤ r3.1 ∧ r3.1 ≤ m := by
      simp only [List.mem_cons, List.not_mem_nil, or_false] at h3a
      clear h1 h2 h3 hv
      omega
    obtain ⟨bt, g1, g2, g3, g4, g5, g6, g7⟩ := sized_loop t ht a b m hm hm' d k (i + 1) r3.2 (l.set (i : Int).toNat r3.1) h3b (by rw [List.length_set]; omega) (by rw [List.length_set]; omega) (by omega) (set_all _ l _ _ hv hr)
    exact ⟨bt, g1, g2, g3, g4, by rw [g5, List.length_set], g6, g7⟩

theorem sized_spec (K : Nat) (hK : 2000 ≤ K) (t : List Int) (ht : t.length ≤ 4611686018427387904) (s a b : Int) (hs : 0 ≤ s) (ha : 1 ≤ a) (ha' : a ≤ 30) (hb : 1 ≤ b) (hb' : b ≤ 30) :
    ∃ bt, tilefarmgen_Tape_Sized.f K t s a b = some bt ∧ bt.1 = a ∧ bt.2.1 = b ∧ 1 ≤ bt.2.2.1 ∧ bt.2.2.1 ≤ 65535 ∧ (bt.2.2.2.1.length : Int) = a * b ∧ (∀ v ∈ bt.2.2.2.1, 0 ≤ v ∧ v ≤ bt.2.2.1) ∧ 0 ≤ bt.2.2.2.2 := by
  obtain ⟨r, h1, h1a, h1b⟩ := pick_o t s [255, 255, 65535, 1, 7] hs ht (by simp) (by simp)
  have hr : 1 ≤ r.1 ∧ r.1 ≤ 65535 := by
    simp only [List.mem_cons, List.not_mem_nil, or_false] at h1a
    clear h1
    omega
  obtain ⟨m0, m1⟩ := mul_bd (x := a) (y := b) (B := 30) (C := 30) (by omega) (by omega) ha' hb'
  unfold tilefarmgen_Tape_Sized.f
  rw [h1, Option.bind_some, wrap_in (n := a * b) (by omega) (by omega), if_pos m0, if_pos (show (a * b : Int).toNat ≤ 35184372088832 by omega)]
  obtain ⟨bt, g1, g2, g3, g4, g5, g6, g7⟩ := sized_loop t ht a b r.1 hr.1 (by omega) (a * b : Int).toNat K 0 r.2 (List.replicate (a * b : Int).toNat 0) h1b (by rw [List.length_replicate]; omega) (by rw [List.length_replicate]; omega) (by omega) (fun v hv => by rw [List.eq_of_mem_replicate hv]; omega)
  rw [List.length_replicate] at g5
  exact ⟨bt, g1, g2, g3, by rw [g4]; exact hr.1, by rw [g4]; exact hr.2, by rw [g5]; omega, by rw [g4]; exact g6, g7⟩


theorem plane_spec (K : Nat) (hK : 2000 ≤ K) (t : List Int) (ht : t.length ≤ 4611686018427387904) (s : Int) (hs : 0 ≤ s) :
    ∃ bt, tilefarmgen_Tape_Plane.f K t s = some bt ∧ 1 ≤ bt.1 ∧ bt.1 ≤ 6 ∧ 1 ≤ bt.2.1 ∧ bt.2.1 ≤ 5 ∧ 1 ≤ bt.2.2.1 ∧ bt.2.2.1 ≤ 65535 ∧ (bt.2.2.2.1.length : Int) = bt.1 * bt.2.1 ∧ (∀ v ∈ bt.2.2.2.1, 0 ≤ v ∧ v ≤ bt.2.2.1) ∧ 0 ≤ bt.2.2.2.2 := by
  obtain ⟨r1, h1, h1a, h1b, h1c⟩ := next_o t s 6 hs ht (by omega) (by omega)
  obtain ⟨r2, h2, h2a, h2b, h2c⟩ := next_o t r1.2 5 h1c ht (by omega) (by omega)
  obtain ⟨bt, g1, g2, g3, g4, g5, g6, g7, g8⟩ := sized_spec K hK t ht r2.2 (1 + r1.1) (1 + r2.1) h2c (by omega) (by omega) (by omega) (by omega)
  refine ⟨bt, ?_, by omega, by omega, by omega, by omega, g4, g5, by rw [g6, g2, g3], g7, g8⟩
  unfold tilefarmgen_Tape_Plane.f
  rw [h1, Option.bind_some, h2, Option.bind_some, wrap_in (n := 1 + r1.1) (by omega) (by omega), wrap_in (n := 1 + r2.1) (by omega) (by omega), g1, Option.bind_some]

theorem plane_PV {a b m : Int} {l : List Int} (h1 : 1 ≤ a) (h2 : a ≤ 6) (h3 : 1 ≤ b) (h4 : b ≤ 5) (h5 : 1 ≤ m) (h6 : m ≤ 65535) (h7 : (l.length : Int) = a * b) (h8 : ∀ v ∈ l, 0 ≤ v ∧ v ≤ m) : PV a b m l ∧ l.length ≤ 30 := by
  obtain ⟨m0, m1⟩ := mul_bd (x := a) (y := b) (B := 6) (C := 5) (by omega) (by omega) h2 h4
  exact ⟨⟨⟨h1, by omega, h3, by omega, by omega, h5, by omega⟩, h7, h8⟩, by omega⟩


theorem within_spec (l : List Int) (s w h : Int) (hs : 0 ≤ s) (hl : l.length ≤ 4611686018427387904) (hw : 0 < w) (hw2 : w ≤ 1000000) (hh : 0 < h) (hh2 : h ≤ 1000000) :
    ∃ a b c d s', tilefarmgen_Tape_Within.f l s w h = some (a, b, c, d, s') ∧ 0 ≤ s' ∧ 0 ≤ a ∧ a < c ∧ c ≤ w ∧ 0 ≤ b ∧ b < d ∧ d ≤ h := by
  obtain ⟨r1, s1, h1, h1a, h1b, h1c⟩ := next_spec l s w hs hl (by omega) (by omega)
  obtain ⟨r2, s2, h2, h2a, h2b, h2c⟩ := next_spec l s1 h h1c hl (by omega) (by omega)
  obtain ⟨r3, s3, h3, h3a, h3b, h3c⟩ := next_spec l s2 (w - r1) h2c hl (by omega) (by omega)
  obtain ⟨r4, s4, h4, h4a, h4b, h4c⟩ := next_spec l s3 (h - r2) h3c hl (by omega) (by omega)
  refine ⟨r1, r2, r1 + 1 + r3, r2 + 1 + r4, s4, ?_, h4c, h1a, by omega, by omega, h2a, by omega, by omega⟩
  unfold tilefarmgen_Tape_Within.f
  simp only [h1, h2, Option.bind_some]
  rw [wrap_in (n := w - r1) (by omega) (by omega), h3]
  simp only [Option.bind_some]
  rw [wrap_in (n := h - r2) (by omega) (by omega), h4]
  simp only [Option.bind_some]
  rw [wrap_in (n := r1 + 1) (by omega) (by omega), wrap_in (n := r1 + 1 + r3) (by omega) (by omega), wrap_in (n := r2 + 1) (by omega) (by omega), wrap_in (n := r2 + 1 + r4) (by omega) (by omega)]


theorem edge_o (t : List Int) (ht : t.length ≤ 4611686018427387904) (s m : Int) (hs : 0 ≤ s) (hm : 0 ≤ m) (hm' : m ≤ 4294967296) :
    ∃ bt, tilefarmgen_Tape_Edge.f t s m = some bt ∧ 0 ≤ bt.1 ∧ bt.1 ≤ 3 ∧ 0 ≤ bt.2.1 ∧ bt.2.1 ≤ m ∧ (bt.1 = 3 ∨ bt.2.1 = 0) ∧ 0 ≤ bt.2.2 := by
  obtain ⟨r, h1, h1a, h1b, h1c⟩ := next_o t s 4 hs ht (by omega) (by omega)
  unfold tilefarmgen_Tape_Edge.f
  rw [h1, Option.bind_some]
  by_cases c : r.1 = 3
  · obtain ⟨q, g1, g2, g3⟩ := pick_o t r.2 [0, m, wrap64 (Int.tdiv m 2)] h1c ht (by simp) (by simp)
    rw [if_pos c, g1, Option.bind_some]
    refine ⟨_, rfl, h1a, by show r.1 ≤ 3; omega, ?_, ?_, .inl c, g3⟩
    · show 0 ≤ q.1
      simp only [List.mem_cons, List.not_mem_nil, or_false] at g2
      rw [Int.tdiv_eq_ediv_of_nonneg hm, wrap_in (by omega) (by omega)] at g2
      clear g1 h1
      omega
    · show q.1 ≤ m
      simp only [List.mem_cons, List.not_mem_nil, or_false] at g2
      rw [Int.tdiv_eq_ediv_of_nonneg hm, wrap_in (by omega) (by omega)] at g2
      clear g1 h1
      omega
  · rw [if_neg c]
    exact ⟨_, rfl, h1a, by show r.1 ≤ 3; omega, Int.le_refl _, hm, .inr rfl, h1c⟩


theorem bvalid_ok (k : Nat) (hk : 0 < k) (p f m : Int) (h0 : 0 ≤ p) (h1 : p ≤ 3) (hf : 0 ≤ f) (hf' : f ≤ m) (h : p = 3 ∨ f = 0) : border_Valid.f k p f m = some true := by
  obtain ⟨k, rfl⟩ : ∃ n, k = n + 1 := ⟨k - 1, by omega⟩
  unfold border_Valid.f
  by_cases c0 : p = 0
  · rw [if_pos c0]
    simp only [border_Valid.j0, c0, beq_self_eq_true, if_true]
    rw [show f = 0 by omega]; rfl
  · rw [if_neg c0]
    by_cases c1 : p = 1
    · rw [if_pos c1]
      simp only [border_Valid.j0, c1, beq_self_eq_true, if_true]
      rw [show f = 0 by omega]; rfl
    · rw [if_neg c1]
      by_cases c2 : p = 2
      · simp only [border_Valid.j0, c2, beq_self_eq_true, if_true]
        rw [show f = 0 by omega]; rfl
      · have e : (p == 2) = false := beq_eq_false_iff_ne.2 c2
        simp only [border_Valid.j0, e, if_neg Bool.false_ne_true]
        rw [if_pos (show p = 3 by omega), if_pos (show f ≥ 0 from hf), decide_eq_true hf']


/-- The rectangle is full and in the plane. -/
abbrev IN (W H x0 y0 x1 y1 : Int) : Prop := 0 ≤ x0 ∧ x0 < x1 ∧ x1 ≤ W ∧ 0 ≤ y0 ∧ y0 < y1 ∧ y1 ≤ H

theorem inside_p (k : Nat) {W H : Int} (hW : 1 ≤ W) (hW' : W ≤ 128) (hH : 1 ≤ H) (hH' : H ≤ 128) {a b c d : Int} (hz : ¬ (a = 0 ∧ b = 0 ∧ c = 0 ∧ d = 0)) : rect_Inside.f (k + 1) a b c d 0 0 W H = some (decide (IN W H a b c d)) := by
  have hb : V 0 0 W H := .inr (by omega)
  unfold rect_Inside.f
  rw [valid_eq, Option.bind_some]
  by_cases ha : V a b c d
  · rw [decide_eq_true ha, if_pos rfl, valid_eq, Option.bind_some, decide_eq_true hb, if_pos rfl, intersect_eq, Option.bind_some]
    simp only [ix, mx_max, mn_min]
    by_cases h : max a 0 < min c W ∧ max b 0 < min d H
    · rw [if_pos ⟨ha, hb, h.1, h.2⟩]
      congr 1
      rw [Bool.eq_iff_iff]
      simp only [Bool.and_eq_true, beq_iff_eq, decide_eq_true_eq]
      omega
    · rw [if_neg (fun g => h g.2.2)]
      congr 1
      rw [Bool.eq_iff_iff]
      simp only [Bool.and_eq_true, beq_iff_eq, decide_eq_true_eq]
      omega
  · rw [decide_eq_false ha, if_neg Bool.false_ne_true]
    exact sd_false (fun g => ha (.inr (by omega)))


theorem bmod_eq (a n : Int) (h : 0 < n) (hn : n ≤ 4611686018427387904) : border_mod.f a n = some (a % n) := by
  have h2 := Int.emod_nonneg a (by omega : n ≠ 0)
  have h3 := Int.emod_lt_of_pos a h
  unfold border_mod.f
  rw [if_neg (by omega)]
  rcases tmod_emod a n h with ⟨h4, h5⟩ | ⟨h4, h5⟩
  · rw [if_neg (by omega), h5]
  · rw [if_pos h4, wrap_in (by omega) (by omega), h5]

/-- What a coordinate is mapped to. -/
def ixv (i n p : Int) : Option Int :=
  if n < 1 ∨ n > 128 then none
  else if p = 0 then some (min (max i 0) (n - 1))
  else if p = 1 then some (min (i % (2 * n)) (2 * n - 1 - i % (2 * n)))
  else if p = 2 then some (i % n)
  else if p = 3 ∧ 0 ≤ i ∧ i < n then some i
  else none

def pr (v : Option Int) : Int × Bool := match v with
  | some v => (v, true)
  | none => (0, false)

theorem index_eq (k : Nat) (i n p : Int) : border_Index.f (k + 1) i n p = some (pr (ixv i n p)) := by
  unfold border_Index.f ixv
  by_cases h1 : n < 1
  · rw [if_pos h1, if_pos (.inl h1)]
    simp only [border_Index.j0, if_true, pr]
  · rw [if_neg h1]
    by_cases h2 : n > 128
    · rw [if_pos (.inr h2), decide_eq_true h2]
      simp only [border_Index.j0, if_true, pr]
    · rw [if_neg (by omega), decide_eq_false h2]
      have e1 : wrap64 (n - 1) = n - 1 := wrap_in (by omega) (by omega)
      have e2 : wrap64 (2 * n) = 2 * n := wrap_in (by omega) (by omega)
      have e3 : wrap64 (2 * n - 1) = 2 * n - 1 := wrap_in (by omega) (by omega)
      have g1 := Int.emod_nonneg i (by omega : 2 * n ≠ 0)
      have g2 := Int.emod_lt_of_pos i (by omega : 0 < 2 * n)
      simp only [border_Index.j0, if_neg Bool.false_ne_true, e1, e2, e3, bmod_eq i (2 * n) (by omega) (by omega), bmod_eq i n (by omega) (by omega), Option.bind_some, mx_max, mn_min]
      rw [wrap_in (n := 2 * n - 1 - i % (2 * n)) (by omega) (by omega)]
      by_cases q0 : p = 0
      · rw [if_pos q0, if_pos q0]; rfl
      · rw [if_neg q0, if_neg q0]
        by_cases q1 : p = 1
        · rw [if_pos q1, if_pos q1]; rfl
        · rw [if_neg q1, if_neg q1]
          by_cases q2 : p = 2
          · rw [if_pos q2, if_pos q2]; rfl
          · rw [if_neg q2, if_neg q2]
            by_cases q3 : p = 3
            · rw [if_pos q3]
              by_cases c1 : i ≥ 0
              · by_cases c2 : i < n
                · rw [if_pos c1, if_pos c2, if_pos (by omega)]; rfl
                · rw [if_pos c1, if_neg c2, if_neg (by omega)]; rfl
              · rw [if_neg c1, if_neg (by omega)]; rfl
            · rw [if_neg q3, if_neg (fun h => q3 h.1)]; rfl

theorem index_eq' {k : Nat} (hk : 0 < k) (i n p : Int) : border_Index.f k i n p = some (pr (ixv i n p)) := by
  obtain ⟨k, rfl⟩ : ∃ m, k = m + 1 := ⟨k - 1, by omega⟩
  exact index_eq k i n p

theorem ixv_none {i n p : Int} (h : n < 1 ∨ n > 128) : ixv i n p = none := by unfold ixv; rw [if_pos h]
theorem ixv_clamp {i n : Int} (h : 1 ≤ n) (h' : n ≤ 128) : ixv i n 0 = some (min (max i 0) (n - 1)) := by unfold ixv; rw [if_neg (by omega), if_pos rfl]
theorem ixv_mirror {i n : Int} (h : 1 ≤ n) (h' : n ≤ 128) : ixv i n 1 = some (min (i % (2 * n)) (2 * n - 1 - i % (2 * n))) := by unfold ixv; rw [if_neg (by omega), if_neg (by omega), if_pos rfl]
theorem ixv_wrap {i n : Int} (h : 1 ≤ n) (h' : n ≤ 128) : ixv i n 2 = some (i % n) := by unfold ixv; rw [if_neg (by omega), if_neg (by omega), if_neg (by omega), if_pos rfl]
theorem ixv_const {i n : Int} (h : 1 ≤ n) (h' : n ≤ 128) : ixv i n 3 = if 0 ≤ i ∧ i < n then some i else none := by
  unfold ixv; rw [if_neg (by omega), if_neg (by omega), if_neg (by omega), if_neg (by omega)]
  by_cases c : 0 ≤ i ∧ i < n
  · rw [if_pos ⟨rfl, c⟩, if_pos c]
  · rw [if_neg (fun h => c h.2), if_neg c]
theorem ixv_other {i n p : Int} (h : p ≠ 0) (h1 : p ≠ 1) (h2 : p ≠ 2) (h3 : p ≠ 3) : ixv i n p = none := by
  unfold ixv
  by_cases c : n < 1 ∨ n > 128
  · rw [if_pos c]
  · rw [if_neg c, if_neg h, if_neg h1, if_neg h2, if_neg (fun h => h3 h.1)]

/-- The policies 1 and 2 repeat after two lengths. -/
theorem emod_two (i n t : Int) (h : 0 < n) : (i + t * (2 * n)) % n = i % n := by
  rw [show t * (2 * n) = n * (t * 2) by grind]
  exact Int.add_mul_emod_self_left ..
theorem ixv_period {i n p t : Int} (hp : p ≠ 0) (hp3 : p ≠ 3) : ixv (i + t * (2 * n)) n p = ixv i n p := by
  unfold ixv
  by_cases c : n < 1 ∨ n > 128
  · rw [if_pos c, if_pos c]
  · rw [if_neg c, if_neg c, if_neg hp, if_neg hp, show (i + t * (2 * n)) % (2 * n) = i % (2 * n) from Int.add_mul_emod_self_right .., emod_two i n t (by omega)]
    by_cases c1 : p = 1
    · rw [if_pos c1, if_pos c1]
    · rw [if_neg c1, if_neg c1]
      by_cases c2 : p = 2
      · rw [if_pos c2, if_pos c2]
      · rw [if_neg c2, if_neg c2, if_neg (fun h => hp3 h.1), if_neg (fun h => hp3 h.1)]

theorem ixv_bounds {i n p v : Int} (h : ixv i n p = some v) : 0 ≤ v ∧ v < n ∧ 1 ≤ n ∧ n ≤ 128 := by
  unfold ixv at h
  split at h
  · cases h
  · next hn =>
    have g1 := Int.emod_nonneg i (by omega : 2 * n ≠ 0)
    have g2 := Int.emod_lt_of_pos i (by omega : 0 < 2 * n)
    have g3 := Int.emod_nonneg i (by omega : n ≠ 0)
    have g4 := Int.emod_lt_of_pos i (by omega : 0 < n)
    generalize i % (2 * n) = m at *
    generalize i % n = m2 at *
    split at h
    · cases h; omega
    · split at h
      · cases h; omega
      · split at h
        · cases h; omega
        · split at h
          · cases h; omega
          · cases h

theorem mulb {w x W X : Int} (h1 : -W ≤ w) (h2 : w ≤ W) (h3 : -X ≤ x) (h4 : x ≤ X) : -(W * X) ≤ w * x ∧ w * x ≤ W * X := by
  have p1 := Int.mul_nonneg (show 0 ≤ W - w by omega) (show 0 ≤ X + x by omega)
  have p2 := Int.mul_nonneg (show 0 ≤ W + w by omega) (show 0 ≤ X - x by omega)
  have p3 := Int.mul_nonneg (show 0 ≤ W - w by omega) (show 0 ≤ X - x by omega)
  have p4 := Int.mul_nonneg (show 0 ≤ W + w by omega) (show 0 ≤ X + x by omega)
  simp only [Int.sub_mul, Int.add_mul, Int.mul_sub, Int.mul_add] at p1 p2 p3 p4
  omega

theorem i64_low {n : Int} (h : -9223372036854775808 ≤ n) (h' : n ≤ 9223372036854775807) : Go.bits .and .i64 n 4294967295 = n % 4294967296 := by
  unfold Go.bits
  show IntKind.i64.wrap (((BitVec.ofInt 64 n) &&& (BitVec.ofInt 64 4294967295)).toNat : Int) = _
  rw [BitVec.toNat_and, BitVec.toNat_ofInt, BitVec.toNat_ofInt]
  have e1 : ((4294967295 : Int) % ((2 ^ 64 : Nat) : Int)).toNat = 2 ^ 32 - 1 := by decide +kernel
  rw [e1, Nat.and_two_pow_sub_one_eq_mod, Go.IntKind.wrap_i64]
  omega

theorem add_eq {a b n : Int} (hn : -2251799813685248 ≤ n) (hn' : n ≤ 2251799813685248) (hb : 0 ≤ b) (hb' : b ≤ 1000000000000) (ha : -100000000 ≤ a) (ha' : a ≤ 100000000) :
    ∃ a' b', fixed_wide_add.f a b n = some (a', b') ∧ a' * 4294967296 + b' = a * 4294967296 + b + n ∧ b ≤ b' ∧ b' ≤ b + 4294967296 := by
  unfold fixed_wide_add.f
  rw [i64_low (by omega) (by omega), wrap_in (by omega) (by omega), wrap_in (by omega) (by omega)]
  exact ⟨_, _, rfl, by omega, by omega, by omega⟩

theorem add_step {a b S n i : Int} (hi0 : 0 ≤ i) (hi : i ≤ 81) (hS : a * 4294967296 + b = S) (b1 : 0 ≤ b) (b2 : b ≤ 4294967296 * i) (s1 : -2251799813685248 * i ≤ S) (s2 : S ≤ 2251799813685248 * i) (hn : -2251799813685248 ≤ n ∧ n ≤ 2251799813685248) :
    ∃ a' b', fixed_wide_add.f a b n = some (a', b') ∧ a' * 4294967296 + b' = S + n ∧ (0 ≤ b' ∧ b' ≤ 4294967296 * (i + 1)) ∧ (-2251799813685248 * (i + 1) ≤ S + n ∧ S + n ≤ 2251799813685248 * (i + 1)) ∧ wrap64 (S + n) = S + n := by
  obtain ⟨a', b', f1, f2, f3, f4⟩ := add_eq (a := a) (b := b) (n := n) hn.1 hn.2 b1 (by omega) (by omega) (by omega)
  exact ⟨a', b', f1, by omega, ⟨by omega, by omega⟩, ⟨by omega, by omega⟩, wrap_in (by omega) (by omega)⟩

def inAcc (S : Int) : Bool := decide (-17592186044416 ≤ S) && decide (S ≤ 17592186044416)

theorem value_eq {a b S : Int} (hS : a * 4294967296 + b = S) (hb : 0 ≤ b) (hb' : b ≤ 4294967296 * 81) : ∃ p u v, fixed_wide_value.f a b = some (p, inAcc S, u, v) ∧ (inAcc S = true → p = S) := by
  unfold fixed_wide_value.f fixed_sum.f inAcc
  by_cases c1 : a < -1048576
  · rw [if_pos c1, decide_eq_false (show ¬ -17592186044416 ≤ S by omega)]
    exact ⟨_, _, _, rfl, fun h => by cases h⟩
  · rw [if_neg c1]
    by_cases c2 : a > 1048576
    · rw [if_pos c2, decide_eq_false (show ¬ S ≤ 17592186044416 by omega), Bool.and_false]
      exact ⟨_, _, _, rfl, fun h => by cases h⟩
    · rw [if_neg c2, wrap_in (n := a * 4294967296) (by omega) (by omega), hS, wrap_in (n := S) (by omega) (by omega)]
      by_cases c3 : S ≥ -17592186044416
      · rw [if_pos c3, decide_eq_true (show -17592186044416 ≤ S from c3), Bool.true_and]
        exact ⟨_, _, _, rfl, fun _ => rfl⟩
      · rw [if_neg c3, decide_eq_false (show ¬ -17592186044416 ≤ S from c3), Bool.false_and]
        exact ⟨_, _, _, rfl, fun h => by cases h⟩

theorem idx {i n L : Nat} (h : i + (n + 1) = L) : i + 1 + n = L ∧ i < L := by omega
theorem next_i {i L : Nat} (h : i < L) (hL : L ≤ 1000) : wrap64 ((i : Int) + 1) = ((i + 1 : Nat) : Int) ∧ (i : Int) ≤ 1000 ∧ (i : Int) < (L : Int) ∧ 0 ≤ (i : Int) := by
  refine ⟨?_, by omega, by omega, by omega⟩
  rw [wrap_in (by omega) (by omega)]; omega
theorem minmax_bd {x y : Int} (h : -(32767 * 68719476736) ≤ x ∧ x ≤ 32767 * 68719476736) (h' : -(32767 * 68719476736) ≤ y ∧ y ≤ 32767 * 68719476736) : (-2251799813685248 ≤ min x y ∧ min x y ≤ 2251799813685248) ∧ (-2251799813685248 ≤ max x y ∧ max x y ≤ 2251799813685248) ∧ wrap64 x = x ∧ wrap64 y = y :=
  ⟨by omega, by omega, wrap_in (by omega) (by omega), wrap_in (by omega) (by omega)⟩
theorem small_i {i L : Nat} (h : i < L) (hL : L ≤ 81) : (i : Int) ≤ 81 := by omega
theorem end_bd {b : Int} {i L : Nat} (h : i + 0 = L) (hL : L ≤ 81) (hb : b ≤ 4294967296 * (i : Int)) : b ≤ 4294967296 * 81 ∧ ¬ (i : Int) < (L : Int) := by omega


theorem cell_in {i j W H : Int} (h0 : 0 ≤ i) (h1 : i < W) (h2 : 0 ≤ j) (h3 : j < H) : 0 ≤ j * W ∧ j * W + i < W * H := by
  refine ⟨Int.mul_nonneg h2 (by omega), ?_⟩
  have := Int.mul_le_mul_of_nonneg_right (show j + 1 ≤ H by omega) (show 0 ≤ W by omega)
  rw [Int.add_mul, Int.one_mul, Int.mul_comm H W] at this
  omega


/-! A pixel, which can lie outside. -/
def pix (W H : Int) (P : List Int) (p f x y : Int) : Int :=
  match ixv x W p, ixv y H p with
  | some i, some j => rd P (j * W + i)
  | _, _ => f

theorem rd_bd' {o : List Int} {B : Int} (hB : 0 ≤ B) (ho : ∀ v ∈ o, 0 ≤ v ∧ v ≤ B) (b : Int) : 0 ≤ rd o b ∧ rd o b ≤ B := by
  simp only [rd, List.getD_eq_getElem?_getD]
  rcases h : o[b.toNat]? with _ | v
  · exact ⟨Int.le_refl _, hB⟩
  · exact ho v (List.mem_of_getElem? h)

theorem pix_bd {W H m : Int} {P : List Int} (hP : ∀ v ∈ P, 0 ≤ v ∧ v ≤ m) (hm : 0 ≤ m) (p : Int) {f : Int} (hf : 0 ≤ f ∧ f ≤ m) (x y : Int) : 0 ≤ pix W H P p f x y ∧ pix W H P p f x y ≤ m := by
  unfold pix
  split
  · exact rd_bd' hm hP _
  · exact hf

theorem pixel_eq (k : Nat) (hk : 0 < k) (W H m : Int) (P : List Int) (p f x y : Int) (hl : (P.length : Int) = W * H) (hWH : W * H ≤ 4096) : plane_Pixel.f k W H m P p f x y = some (pix W H P p f x y) := by
  unfold plane_Pixel.f pix
  rw [index_eq' hk, index_eq' hk, Option.bind_some, Option.bind_some]
  rcases hx : ixv x W p with _ | i
  · rw [if_neg (show ¬ (pr none).2 = true by decide)]
  · rcases hy : ixv y H p with _ | j
    · rw [if_pos (show (pr (some i)).2 = true from rfl), if_neg (show ¬ (pr none).2 = true by decide)]
    · obtain ⟨a1, a2, a3, a4⟩ := ixv_bounds hx
      obtain ⟨b1, b2, b3, b4⟩ := ixv_bounds hy
      obtain ⟨c1, c2⟩ := cell_in a1 a2 b1 b2
      have e : wrap64 (wrap64 ((pr (some j)).1 * W) + (pr (some i)).1) = j * W + i := by
        show wrap64 (wrap64 (j * W) + i) = _
        rw [wrap_in (n := j * W) (by omega) (by omega), wrap_in (n := j * W + i) (by omega) (by omega)]
      rw [if_pos (show (pr (some i)).2 = true from rfl), if_pos (show (pr (some j)).2 = true from rfl), e, if_pos (show 0 ≤ j * W + i by omega), if_pos (show j * W + i < (P.length : Int) by omega)]

theorem pix_in {W H : Int} (P : List Int) {p f x y : Int} (hp : 0 ≤ p) (hp3 : p ≤ 3) (hW : W ≤ 128) (hH : H ≤ 128) (h0 : 0 ≤ x) (h1 : x < W) (h2 : 0 ≤ y) (h3 : y < H) : pix W H P p f x y = rd P (y * W + x) := by
  have e : ∀ {i n : Int}, 0 ≤ i → i < n → n ≤ 128 → ixv i n p = some i := by
    intro i n h0 h hn
    unfold ixv
    rw [if_neg (by omega), Int.emod_eq_of_lt h0 (by omega : i < 2 * n), Int.emod_eq_of_lt h0 h]
    by_cases q0 : p = 0
    · rw [if_pos q0]; congr 1; omega
    · rw [if_neg q0]
      by_cases q1 : p = 1
      · rw [if_pos q1]; congr 1; omega
      · rw [if_neg q1]
        by_cases q2 : p = 2
        · rw [if_pos q2]
        · rw [if_neg q2, if_pos (by omega)]
  unfold pix
  rw [e h0 h1 hW, e h2 h3 hH]


/-! Sums. -/
def sumN : Nat → (Nat → Int) → Int
  | 0, _ => 0
  | d + 1, f => sumN d f + f d

theorem sumN_congr {f g : Nat → Int} : ∀ n, (∀ j, j < n → f j = g j) → sumN n f = sumN n g
  | 0, _ => rfl
  | n + 1, h => by
    simp only [sumN]
    rw [sumN_congr n (fun j hj => h j (by omega)), h n (by omega)]

theorem sumN_bd {f : Nat → Int} {B : Int} : ∀ n, (∀ j, j < n → -B ≤ f j ∧ f j ≤ B) → -(B * (n : Int)) ≤ sumN n f ∧ sumN n f ≤ B * (n : Int)
  | 0, _ => by simp [sumN]
  | n + 1, h => by
    have a := sumN_bd n (fun j hj => h j (by omega))
    have b := h n (by omega)
    simp only [sumN]
    rw [show ((n + 1 : Nat) : Int) = (n : Int) + 1 from rfl, Int.mul_add, Int.mul_one]
    omega


/-! The tape's weights. -/
theorem tw_loop (l : List Int) (hl : l.length ≤ 4611686018427387904) (N : Nat) (hN : N ≤ 100) (n : Nat) :
    ∀ (k i : Nat) (xs : List Int) (s : Int), i + n = N → n + 1 ≤ k → xs.length = i → 0 ≤ s → (∀ w ∈ xs, -20 ≤ w ∧ w ≤ 20) →
      ∃ bt, 0 ≤ bt.2 ∧ tilefarmgen_Tape_Weights.l0 k (N : Int) xs (i : Int) l s = some bt ∧ bt.1.length = N ∧ ∀ w ∈ bt.1, -20 ≤ w ∧ w ≤ 20 := by
  induction n with
  | zero =>
    intro k i xs s hi hk hx hs hw
    obtain ⟨k, rfl⟩ : ∃ m, k = m + 1 := ⟨k - 1, by omega⟩
    simp only [tilefarmgen_Tape_Weights.l0]
    rw [if_neg (by omega)]
    exact ⟨(xs, s), hs, rfl, by show xs.length = N; omega, hw⟩
  | succ n ih =>
    intro k i xs s hi hk hx hs hw
    obtain ⟨k, rfl⟩ : ∃ m, k = m + 1 := ⟨k - 1, by omega⟩
    have e1 : wrap64 ((i : Int) + 1) = ((i + 1 : Nat) : Int) := by rw [wrap_in (by omega) (by omega)]; omega
    obtain ⟨bt, a1, a2, a3, a4⟩ := next_o l s 41 hs hl (by decide) (by decide)
    obtain ⟨bu, b1, b2, b3⟩ := pick_o l bt.2 [1, 2, (-1), 0, wrap64 (bt.1 - 20), 5] a4 hl (by simp) (by simp)
    have hb : -20 ≤ bu.1 ∧ bu.1 ≤ 20 := by
      simp only [List.mem_cons, List.not_mem_nil, or_false] at b2
      rw [wrap_in (by omega) (by omega)] at b2
      clear a1 b1 hw
      omega
    obtain ⟨bv, c1, c2, c3, c4⟩ := ih k (i + 1) (xs ++ [bu.1]) bu.2 (by omega) (by omega) (by simp; omega) b3 (fun w hw' => by
      rcases List.mem_append.1 hw' with h | h
      · exact hw w h
      · rw [List.mem_singleton.1 h]; exact hb)
    refine ⟨bv, c1, ?_, c3, c4⟩
    simp only [tilefarmgen_Tape_Weights.l0]
    rw [if_pos (by omega), a1, Option.bind_some, b1, Option.bind_some, if_pos (by omega), e1]
    exact c2

theorem tw_o (k : Nat) (hk : 200 ≤ k) (l : List Int) (hl : l.length ≤ 4611686018427387904) (s : Int) (N : Nat) (hs : 0 ≤ s) (hN : N ≤ 100) :
    ∃ bt, tilefarmgen_Tape_Weights.f k l s (N : Int) = some bt ∧ bt.1.length = N ∧ (∀ w ∈ bt.1, -20 ≤ w ∧ w ≤ 20) ∧ 0 ≤ bt.2 := by
  obtain ⟨bt, h1, h2, h3, h4⟩ := tw_loop l hl N hN N k 0 [] s (by omega) (by omega) rfl hs (fun w hw => by simp at hw)
  exact ⟨bt, h2, h3, h4, h1⟩


/-! The checks of small weights. -/
theorem w_loop (l : List Int) (hl : l.length ≤ 81) (hw : ∀ w ∈ l, -32767 ≤ w ∧ w ≤ 32767) : ∀ (d k i : Nat), i + d = l.length → fixed_Weights.l0 (k + d + 1) l (l.length : Int) (i : Int) = some 0
  | 0, k, i, hi => by rw [fixed_Weights.l0, if_neg (show ¬ (i : Int) < (l.length : Int) by omega)]
  | d + 1, k, i, hi => by
    have hm := hw _ (rd_mem l i (by omega))
    rw [show k + (d + 1) + 1 = (k + d + 1) + 1 from rfl, fixed_Weights.l0]
    simp only [if_pos (show (i : Int) < (l.length : Int) by omega), if_pos (show 0 ≤ (i : Int) by omega)]
    rw [if_neg (show ¬ rd l (i : Int) < -32767 by omega), if_neg (show ¬ rd l (i : Int) > 32767 by omega), wrap_in (n := (i : Int) + 1) (by omega) (by omega)]
    exact w_loop l hl hw d k (i + 1) (by omega)

theorem w_ok (K : Nat) (hK : 100 ≤ K) (l : List Int) (h0 : 1 ≤ l.length) (hl : l.length ≤ 81) (hw : ∀ w ∈ l, -32767 ≤ w ∧ w ≤ 32767) : fixed_Weights.f K l = some 0 := by
  obtain ⟨k, rfl⟩ : ∃ k, K = (k + l.length + 1) + 1 := ⟨K - l.length - 2, by omega⟩
  unfold fixed_Weights.f
  rw [if_neg (show ¬ (l.length : Int) = 0 by omega), decide_eq_false (show ¬ (l.length : Int) > 81 by omega)]
  simp only [fixed_Weights.j0, Bool.false_eq_true, if_false]
  exact w_loop l hl hw l.length k 0 (by omega)

theorem small_acc {S : Int} {i : Nat} (hi : i ≤ 81) (h : -(1310700 * (i : Int)) ≤ S ∧ S ≤ 1310700 * (i : Int)) : inAcc S = true := by
  unfold inAcc
  rw [decide_eq_true (show -17592186044416 ≤ S by omega), decide_eq_true (show S ≤ 17592186044416 by omega)]
  rfl

theorem b_step {S u : Int} {i : Nat} (hS : -(1310700 * (i : Int)) ≤ S ∧ S ≤ 1310700 * (i : Int)) (hu : -1310700 ≤ u ∧ u ≤ 1310700) : -(1310700 * ((i + 1 : Nat) : Int)) ≤ S + u ∧ S + u ≤ 1310700 * ((i + 1 : Nat) : Int) := by omega
theorem b_wide {S : Int} {i : Nat} (h : -(1310700 * (i : Int)) ≤ S ∧ S ≤ 1310700 * (i : Int)) : -2251799813685248 * (i : Int) ≤ S ∧ S ≤ 2251799813685248 * (i : Int) := by omega
theorem b_minmax {x : Int} (h : -(20 * 65535) ≤ x ∧ x ≤ 20 * 65535) : wrap64 0 = 0 ∧ wrap64 x = x ∧ (-1310700 ≤ mn 0 x ∧ mn 0 x ≤ 1310700) ∧ (-1310700 ≤ mx 0 x ∧ mx 0 x ≤ 1310700) ∧ (-2251799813685248 ≤ mn 0 x ∧ mn 0 x ≤ 2251799813685248) ∧ (-2251799813685248 ≤ mx 0 x ∧ mx 0 x ≤ 2251799813685248) := by
  rw [mn_min, mx_max]
  exact ⟨wrap_in (by decide) (by decide), wrap_in (by omega) (by omega), by omega, by omega, by omega, by omega⟩

theorem b_loop (l : List Int) (hl : l.length ≤ 81) (hw : ∀ w ∈ l, -20 ≤ w ∧ w ≤ 20) (m : Int) (h0 : 0 ≤ m) (hm : m ≤ 65535) : ∀ (d k i : Nat) (a b c e S T : Int), i + d = l.length → a * 4294967296 + b = S → c * 4294967296 + e = T → (0 ≤ b ∧ b ≤ 4294967296 * (i : Int)) → (0 ≤ e ∧ e ≤ 4294967296 * (i : Int)) →
    (-(1310700 * (i : Int)) ≤ S ∧ S ≤ 1310700 * (i : Int)) → (-(1310700 * (i : Int)) ≤ T ∧ T ≤ 1310700 * (i : Int)) → ∃ u v, fixed_Bounds.l0 (k + d + 1) l 0 m (i : Int) a b c e = some (u, v, true)
  | 0, k, i, a, b, c, e, S, T, hi, hS, hT, hb, he, bS, bT => by
    obtain ⟨g1, g2⟩ := end_bd hi hl hb.2
    obtain ⟨g3, -⟩ := end_bd hi hl he.2
    obtain ⟨p, u, v, e1, -⟩ := value_eq hS hb.1 g1
    obtain ⟨p', u', v', e2, -⟩ := value_eq hT he.1 g3
    have hi' : i ≤ 81 := by clear hS hT bS bT hb he; omega
    rw [small_acc hi' bS] at e1
    rw [small_acc hi' bT] at e2
    rw [fixed_Bounds.l0, if_neg g2, e1, Option.bind_some, e2, Option.bind_some, if_pos rfl, if_pos rfl]
    exact ⟨_, _, rfl⟩
  | d + 1, k, i, a, b, c, e, S, T, hi, hS, hT, hb, he, bS, bT => by
    obtain ⟨hidx, hlt⟩ := idx hi
    obtain ⟨e1, -, hI, hP⟩ := next_i hlt (Nat.le_trans hl (by decide))
    have hi9 := small_i hlt hl
    have hmem := hw _ (rd_mem l i hlt)
    obtain ⟨z0, z1, z2, z3, z4, z5⟩ := b_minmax (mulb (X := 65535) hmem.1 hmem.2 (by omega) hm)
    obtain ⟨a', b', f1, f2, f3, -, -⟩ := add_step hP hi9 hS hb.1 hb.2 (b_wide bS).1 (b_wide bS).2 z4
    obtain ⟨c', e', g1, g2, g3, -, -⟩ := add_step hP hi9 hT he.1 he.2 (b_wide bT).1 (b_wide bT).2 z5
    have hc : ((i + 1 : Nat) : Int) = (i : Int) + 1 := Int.natCast_succ i
    obtain ⟨u, v, r⟩ := b_loop l hl hw m h0 hm d k (i + 1) a' b' c' e' _ _ hidx f2 g2 (by rw [hc]; exact f3) (by rw [hc]; exact g3) (b_step bS z2) (b_step bT z3)
    refine ⟨u, v, ?_⟩
    rw [show k + (d + 1) + 1 = (k + d + 1) + 1 from rfl, fixed_Bounds.l0, if_pos hI, if_pos hP, e1, Int.mul_zero, z0, z1, f1, Option.bind_some, g1, Option.bind_some]
    exact r

theorem bounds_ok (K : Nat) (hK : 200 ≤ K) (l : List Int) (h1 : 1 ≤ l.length) (hl : l.length ≤ 81) (hw : ∀ w ∈ l, -20 ≤ w ∧ w ≤ 20) (m : Int) (h0 : 0 ≤ m) (hm : m ≤ 65535) : ∃ u v, fixed_Bounds.f K l 0 m = some (u, v, true) := by
  obtain ⟨k, hk⟩ : ∃ k, K = k + l.length + 1 := ⟨K - l.length - 1, by omega⟩
  obtain ⟨u, v, r⟩ := b_loop l hl hw m h0 hm l.length k 0 0 0 0 0 0 0 (by omega) (by decide) (by decide) (by decide) (by decide) (by decide) (by decide)
  refine ⟨u, v, ?_⟩
  unfold fixed_Bounds.f
  rw [w_ok K (by omega) l h1 hl (fun w h => by have := hw w h; omega), Option.bind_some, if_pos rfl, if_neg (show ¬ (0 : Int) > m by omega), if_neg (show ¬ (0 : Int) < -68719476736 by decide), if_neg (show ¬ m > 68719476736 by omega), hk]
  exact r


/-! The pixels of a rectangle. -/
def rowg (g : Int → Int → Int) (y : Int) : Nat → Int → List Int
  | 0, _ => []
  | d + 1, x => g x y :: rowg g y d (x + 1)

def rowsg (g : Int → Int → Int) (x0 : Int) (w : Nat) : Nat → Int → List Int
  | 0, _ => []
  | d + 1, y => rowg g y w x0 ++ rowsg g x0 w d (y + 1)

theorem rowg_len (g : Int → Int → Int) (y : Int) : ∀ (d : Nat) (x : Int), (rowg g y d x).length = d
  | 0, _ => rfl
  | d + 1, x => by simp only [rowg]; rw [List.length_cons, rowg_len g y d (x + 1)]

theorem rowsg_len (g : Int → Int → Int) (x0 : Int) (w : Nat) : ∀ (d : Nat) (y : Int), (rowsg g x0 w d y).length = d * w
  | 0, _ => by simp [rowsg]
  | d + 1, y => by simp only [rowsg]; rw [List.length_append, rowg_len, rowsg_len g x0 w d (y + 1), Nat.add_mul]; omega

theorem rowg_get (g : Int → Int → Int) (y : Int) : ∀ (d : Nat) (x : Int) (i : Nat), i < d → (rowg g y d x)[i]? = some (g (x + (i : Int)) y)
  | 0, _, i, h => by omega
  | d + 1, x, 0, h => by simp [rowg]
  | d + 1, x, i + 1, h => by
    simp only [rowg, List.getElem?_cons_succ]
    rw [rowg_get g y d (x + 1) i (by omega), show x + 1 + (i : Int) = x + ((i + 1 : Nat) : Int) by omega]

theorem rowsg_get (g : Int → Int → Int) (x0 : Int) (w : Nat) : ∀ (d : Nat) (y : Int) (j i : Nat), j < d → i < w → (rowsg g x0 w d y)[j * w + i]? = some (g (x0 + (i : Int)) (y + (j : Int)))
  | 0, _, j, i, h, _ => by omega
  | d + 1, y, 0, i, h, hi => by
    simp only [rowsg]
    rw [List.getElem?_append_left (by rw [rowg_len]; omega), Nat.zero_mul, Nat.zero_add, rowg_get g y w x0 i hi]
    simp
  | d + 1, y, j + 1, i, h, hi => by
    simp only [rowsg]
    rw [List.getElem?_append_right (by rw [rowg_len, Nat.add_mul]; omega), rowg_len, show (j + 1) * w + i - w = j * w + i by rw [Nat.add_mul]; omega, rowsg_get g x0 w d (y + 1) j i (by omega) hi, show y + 1 + (j : Int) = y + ((j + 1 : Nat) : Int) by omega]

theorem rowsg_rd (g : Int → Int → Int) (x0 : Int) (w d : Nat) (y : Int) (j i : Nat) (hj : j < d) (hi : i < w) : rd (rowsg g x0 w d y) ((j * w + i : Nat) : Int) = g (x0 + (i : Int)) (y + (j : Int)) := by
  simp only [rd, Int.toNat_natCast, List.getD_eq_getElem?_getD]
  rw [rowsg_get g x0 w d y j i hj hi]
  rfl

theorem rowg_all (Q : Int → Prop) (g : Int → Int → Int) (h : ∀ x y, Q (g x y)) (y : Int) : ∀ (d : Nat) (x : Int), ∀ v ∈ rowg g y d x, Q v
  | 0, _, v, hv => by simp [rowg] at hv
  | d + 1, x, v, hv => by
    simp only [rowg, List.mem_cons] at hv
    rcases hv with hv | hv
    · rw [hv]; exact h _ _
    · exact rowg_all Q g h y d (x + 1) v hv

theorem rowsg_all (Q : Int → Prop) (g : Int → Int → Int) (h : ∀ x y, Q (g x y)) (x0 : Int) (w : Nat) : ∀ (d : Nat) (y : Int), ∀ v ∈ rowsg g x0 w d y, Q v
  | 0, _, v, hv => by simp [rowsg] at hv
  | d + 1, y, v, hv => by
    simp only [rowsg, List.mem_append] at hv
    rcases hv with hv | hv
    · exact rowg_all Q g h y w x0 v hv
    · exact rowsg_all Q g h x0 w d (y + 1) v hv


/-! Shift and clamp. -/
def shv (t s : Int) : Int := if -17592186044416 ≤ t ∧ t ≤ 17592186044416 then (if s = 0 then t else shr .i64 (wrap64 (t + (shl .i64 1 (wrap64 (s - 1))))) s) else 0

theorem shift_eq (k : Nat) (hk : 0 < k) (t s : Int) (hs : 0 ≤ s) (hs' : s ≤ 24) : fixed_Shift.f k t s = some (shv t s) := by
  obtain ⟨k, rfl⟩ : ∃ n, k = n + 1 := ⟨k - 1, by omega⟩
  unfold fixed_Shift.f fixed_sum.f shv
  have no : ∀ b : Bool, b = true → fixed_Shift.j0 (k + 1) t s b = some 0 := fun b hb => by rw [fixed_Shift.j0, if_pos hb]
  by_cases c1 : t ≥ -17592186044416
  · rw [if_pos c1, Option.bind_some]
    by_cases c2 : t ≤ 17592186044416
    · rw [decide_eq_true c2, if_pos rfl, if_neg (show ¬ s < 0 by omega), decide_eq_false (show ¬ s > 24 by omega), fixed_Shift.j0, if_neg Bool.false_ne_true, if_pos (show -17592186044416 ≤ t ∧ t ≤ 17592186044416 from ⟨c1, c2⟩)]
      by_cases c3 : s = 0
      · rw [if_pos c3, if_pos c3]
      · rw [if_neg c3, if_neg c3, if_pos (show 0 ≤ wrap64 (s - 1) by rw [wrap_in (by omega) (by omega)]; omega), if_pos hs]
    · rw [decide_eq_false c2, if_neg Bool.false_ne_true, no true rfl, if_neg (fun h => c2 h.2)]
  · rw [if_neg c1, Option.bind_some, if_neg Bool.false_ne_true, no true rfl, if_neg (fun h => c1 h.1)]


/-! Bounds of small weights over a range. -/
theorem b2_mul {B : Int} (i : Nat) (h0 : 0 ≤ B) (hB : B ≤ 420000000) : 0 ≤ B * (i : Int) ∧ B * (i : Int) ≤ 420000000 * (i : Int) ∧ B * ((i + 1 : Nat) : Int) = B * (i : Int) + B :=
  ⟨Int.mul_nonneg h0 (Int.natCast_nonneg i), Int.mul_le_mul_of_nonneg_right hB (Int.natCast_nonneg i), by rw [Int.natCast_succ, Int.mul_add, Int.mul_one]⟩

theorem b2_acc {S M : Int} {i : Nat} (hi : i ≤ 81) (hM : M ≤ 420000000 * (i : Int)) (h : -M ≤ S ∧ S ≤ M) : inAcc S = true := by
  unfold inAcc
  rw [decide_eq_true (show -17592186044416 ≤ S by omega), decide_eq_true (show S ≤ 17592186044416 by omega)]
  rfl

theorem b2_wide {S M : Int} {i : Nat} (hM : M ≤ 420000000 * (i : Int)) (h : -M ≤ S ∧ S ≤ M) : -2251799813685248 * (i : Int) ≤ S ∧ S ≤ 2251799813685248 * (i : Int) := by omega

theorem b2_mm {x y B : Int} (hB : B ≤ 420000000) (hx : -B ≤ x ∧ x ≤ B) (hy : -B ≤ y ∧ y ≤ B) : wrap64 x = x ∧ wrap64 y = y ∧ (-B ≤ mn x y ∧ mn x y ≤ B) ∧ (-B ≤ mx x y ∧ mx x y ≤ B) ∧ (-2251799813685248 ≤ mn x y ∧ mn x y ≤ 2251799813685248) ∧ (-2251799813685248 ≤ mx x y ∧ mx x y ≤ 2251799813685248) ∧ mn x y ≤ mx x y := by
  rw [mn_min, mx_max]
  exact ⟨wrap_in (by omega) (by omega), wrap_in (by omega) (by omega), by omega, by omega, by omega, by omega, by omega⟩

theorem b2_step {S n M M' B : Int} (e : M' = M + B) (hS : -M ≤ S ∧ S ≤ M) (hn : -B ≤ n ∧ n ≤ B) : -M' ≤ S + n ∧ S + n ≤ M' := by omega

theorem b2_loop (l : List Int) (hl : l.length ≤ 81) (lo hi B : Int) (hB0 : 0 ≤ B) (hB : B ≤ 420000000) (hlo : ∀ w ∈ l, -B ≤ w * lo ∧ w * lo ≤ B) (hhi : ∀ w ∈ l, -B ≤ w * hi ∧ w * hi ≤ B) : ∀ (d k i : Nat) (a b c e S T : Int), i + d = l.length → a * 4294967296 + b = S → c * 4294967296 + e = T → (0 ≤ b ∧ b ≤ 4294967296 * (i : Int)) → (0 ≤ e ∧ e ≤ 4294967296 * (i : Int)) →
    (-(B * (i : Int)) ≤ S ∧ S ≤ B * (i : Int)) → (-(B * (i : Int)) ≤ T ∧ T ≤ B * (i : Int)) → S ≤ T → ∃ u v, fixed_Bounds.l0 (k + d + 1) l lo hi (i : Int) a b c e = some (u, v, true) ∧ u ≤ v ∧ -(B * (l.length : Int)) ≤ u ∧ v ≤ B * (l.length : Int)
  | 0, k, i, a, b, c, e, S, T, hi', hS, hT, hb, he, bS, bT, hST => by
    obtain ⟨g1, g2⟩ := end_bd hi' hl hb.2
    obtain ⟨g3, -⟩ := end_bd hi' hl he.2
    obtain ⟨p, u, v, e1, p1⟩ := value_eq hS hb.1 g1
    obtain ⟨p', u', v', e2, p2⟩ := value_eq hT he.1 g3
    have hi2 : i = l.length := hi'
    have hi'' : i ≤ 81 := by rw [hi2]; exact hl
    obtain ⟨m1, m2, m3⟩ := b2_mul i hB0 hB
    have aS := b2_acc hi'' m2 bS
    have aT := b2_acc hi'' m2 bT
    rw [aS] at e1
    rw [aT] at e2
    rw [fixed_Bounds.l0, if_neg g2, e1, Option.bind_some, e2, Option.bind_some, if_pos rfl, if_pos rfl, ← hi2]
    exact ⟨_, _, rfl, by rw [p1 aS, p2 aT]; exact hST, by rw [p1 aS]; exact bS.1, by rw [p2 aT]; exact bT.2⟩
  | d + 1, k, i, a, b, c, e, S, T, hi', hS, hT, hb, he, bS, bT, hST => by
    obtain ⟨hidx, hlt⟩ := idx hi'
    obtain ⟨e1, -, hI, hP⟩ := next_i hlt (Nat.le_trans hl (by decide))
    have hi9 := small_i hlt hl
    have hmem := rd_mem l i hlt
    obtain ⟨z0, z1, z2, z3, z4, z5, z6⟩ := b2_mm hB (hlo _ hmem) (hhi _ hmem)
    obtain ⟨m1, m2, m3⟩ := b2_mul i hB0 hB
    obtain ⟨a', b', f1, f2, f3, -, -⟩ := add_step hP hi9 hS hb.1 hb.2 (b2_wide m2 bS).1 (b2_wide m2 bS).2 z4
    obtain ⟨c', e', g1, g2, g3, -, -⟩ := add_step hP hi9 hT he.1 he.2 (b2_wide m2 bT).1 (b2_wide m2 bT).2 z5
    have hc : ((i + 1 : Nat) : Int) = (i : Int) + 1 := Int.natCast_succ i
    obtain ⟨u, v, r⟩ := b2_loop l hl lo hi B hB0 hB hlo hhi d k (i + 1) a' b' c' e' _ _ hidx f2 g2 (by rw [hc]; exact f3) (by rw [hc]; exact g3) (b2_step m3 bS z2) (b2_step m3 bT z3) (Int.add_le_add hST z6)
    refine ⟨u, v, ?_, r.2⟩
    rw [show k + (d + 1) + 1 = (k + d + 1) + 1 from rfl, fixed_Bounds.l0, if_pos hI, if_pos hP, e1, z0, z1, f1, Option.bind_some, g1, Option.bind_some]
    exact r.1

theorem boundsB_ok (K : Nat) (hK : 200 ≤ K) (l : List Int) (h1 : 1 ≤ l.length) (hl : l.length ≤ 81) {wt : Int} (hwt : wt ≤ 32767) (hw : ∀ w ∈ l, -wt ≤ w ∧ w ≤ wt) {lo hi X : Int} (hX0 : 0 ≤ X) (hX : X ≤ 21000000) (hB0 : 0 ≤ wt * X) (hB : wt * X ≤ 420000000) (h0 : -X ≤ lo) (hlh : lo ≤ hi) (h2 : hi ≤ X) :
    ∃ u v, fixed_Bounds.f K l lo hi = some (u, v, true) ∧ u ≤ v ∧ -(wt * X * (l.length : Int)) ≤ u ∧ v ≤ wt * X * (l.length : Int) := by
  obtain ⟨k, hk⟩ : ∃ k, K = k + l.length + 1 := ⟨K - l.length - 1, by omega⟩
  have m : ∀ x, -X ≤ x → x ≤ X → ∀ w ∈ l, -(wt * X) ≤ w * x ∧ w * x ≤ wt * X := fun x hx hx' w h => mulb (hw w h).1 (hw w h).2 hx hx'
  obtain ⟨u, v, r, r2⟩ := b2_loop l hl lo hi (wt * X) hB0 hB (m lo h0 (by omega)) (m hi (by omega) h2) l.length k 0 0 0 0 0 0 0 (by omega) (by decide) (by decide) (by decide) (by decide) (by simp) (by simp) (Int.le_refl 0)
  refine ⟨u, v, ?_, r2⟩
  unfold fixed_Bounds.f
  rw [w_ok K (by omega) l h1 hl (fun w h => by have := hw w h; omega), Option.bind_some, if_pos rfl, if_neg (show ¬ lo > hi by omega), if_neg (show ¬ lo < -68719476736 by omega), if_neg (show ¬ hi > 68719476736 by omega), hk]
  exact r

theorem bounds2_ok (K : Nat) (hK : 200 ≤ K) (l : List Int) (h1 : 1 ≤ l.length) (hl : l.length ≤ 81) (hw : ∀ w ∈ l, -20 ≤ w ∧ w ≤ 20) {lo hi X : Int} (hX0 : 0 ≤ X) (hX : X ≤ 21000000) (h0 : -X ≤ lo) (hlh : lo ≤ hi) (h2 : hi ≤ X) :
    ∃ u v, fixed_Bounds.f K l lo hi = some (u, v, true) ∧ u ≤ v ∧ -(20 * X * (l.length : Int)) ≤ u ∧ v ≤ 20 * X * (l.length : Int) :=
  boundsB_ok K hK l h1 hl (wt := 20) (by decide) hw hX0 hX (by omega) (by omega) h0 hlh h2

/-! Shifts. -/
theorem half_bd : ∀ n : Fin 24, 0 ≤ shl .i64 1 (wrap64 (((n.val : Nat) : Int) + 1 - 1)) ∧ shl .i64 1 (wrap64 (((n.val : Nat) : Int) + 1 - 1)) ≤ 8388608 := by decide +kernel

theorem shv_form {s : Int} (hs : 0 ≤ s) (hs' : s ≤ 24) : ∃ D H : Int, 1 ≤ D ∧ 0 ≤ H ∧ H ≤ 8388608 ∧ ∀ t, -17592186044416 ≤ t → t ≤ 17592186044416 → shv t s = (t + H) / D := by
  by_cases c : s = 0
  · refine ⟨1, 0, by decide, by decide, by decide, fun t h h' => ?_⟩
    unfold shv
    rw [if_pos ⟨h, h'⟩, if_pos c, Int.add_zero, Int.ediv_one]
  · have hb := half_bd ⟨s.toNat - 1, by omega⟩
    have e : ((s.toNat - 1 : Nat) : Int) + 1 = s := by omega
    simp only [e] at hb
    refine ⟨2 ^ (min s.toNat 64), shl .i64 1 (wrap64 (s - 1)), ?_, hb.1, hb.2, fun t h h' => ?_⟩
    · have : (0 : Int) < 2 ^ (min s.toNat 64) := Int.pow_pos (by decide)
      omega
    · unfold shv
      rw [if_pos ⟨h, h'⟩, if_neg c, wrap_in (n := t + shl .i64 1 (wrap64 (s - 1))) (by omega) (by omega)]
      unfold shr
      rfl

theorem ediv_bd {n D B : Int} (hD : 1 ≤ D) (h : -B ≤ n) (h' : n ≤ B) (hB : 0 ≤ B) : -B ≤ n / D ∧ n / D ≤ B := by
  constructor
  · rw [Int.le_ediv_iff_mul_le (by omega)]
    have := Int.mul_le_mul_of_nonneg_left hD hB
    rw [Int.mul_one] at this
    rw [Int.neg_mul]
    omega
  · have : n / D < B + 1 := by
      rw [Int.ediv_lt_iff_lt_mul (by omega)]
      have := Int.mul_le_mul_of_nonneg_left hD (show 0 ≤ B + 1 by omega)
      rw [Int.mul_one] at this
      omega
    omega

theorem shv_bd {s t B : Int} (hs : 0 ≤ s) (hs' : s ≤ 24) (hB : 0 ≤ B) (hB' : B ≤ 17592186044416) (h : -B ≤ t) (h' : t ≤ B) : -(B + 8388608) ≤ shv t s ∧ shv t s ≤ B + 8388608 := by
  obtain ⟨D, H, d1, d2, d3, d4⟩ := shv_form hs hs'
  rw [d4 t (by omega) (by omega)]
  exact ediv_bd d1 (by omega) (by omega) (by omega)

theorem shv_mono {s t t' : Int} (hs : 0 ≤ s) (hs' : s ≤ 24) (h : -17592186044416 ≤ t) (h2 : t ≤ t') (h' : t' ≤ 17592186044416) : shv t s ≤ shv t' s := by
  obtain ⟨D, H, d1, d2, d3, d4⟩ := shv_form hs hs'
  rw [d4 t (by omega) (by omega), d4 t' (by omega) (by omega)]
  exact Int.ediv_le_ediv (by omega) (by omega)

/-! separable.Tile. -/
/-- What the arguments are like. -/
structure SH (W H m : Int) (P : List Int) (p f : Int) (r c : List Int) (s u o : Int) : Prop where
  v : PV W H m P
  m' : m ≤ 65535
  p0 : 0 ≤ p
  p3 : p ≤ 3
  f0 : 0 ≤ f
  f1 : f ≤ m
  pf : p = 3 ∨ f = 0
  r1 : 1 ≤ r.length
  r9 : r.length ≤ 9
  rw : ∀ w ∈ r, -20 ≤ w ∧ w ≤ 20
  c1 : 1 ≤ c.length
  c9 : c.length ≤ 9
  cw : ∀ w ∈ c, -20 ≤ w ∧ w ≤ 20
  s0 : 0 ≤ s
  s24 : s ≤ 24
  u0 : 0 ≤ u
  u24 : u ≤ 24
  o1 : 1 ≤ o
  o2 : o ≤ 4294967296

def hf (W H : Int) (P : List Int) (p f : Int) (r : List Int) (x y : Int) (i : Nat) : Int := rd r (i : Int) * pix W H P p f (x + (i : Int) - (r.length : Int) / 2) y
/-- h of the chapter. -/
def hm (W H : Int) (P : List Int) (p f : Int) (r : List Int) (s x y : Int) : Int := shv (sumN r.length (hf W H P p f r x y)) s
def vf (W H : Int) (P : List Int) (p f : Int) (r c : List Int) (s x y : Int) (j : Nat) : Int := rd c (j : Int) * hm W H P p f r s x (y - (c.length : Int) / 2 + (j : Int))
/-- A pixel. -/
def sg (W H : Int) (P : List Int) (p f : Int) (r c : List Int) (s u o x y : Int) : Int := mx (mn (shv (sumN c.length (vf W H P p f r c s x y)) u) o) 0

theorem sg_bd (W H : Int) (P : List Int) (p f : Int) (r c : List Int) (s u o : Int) (ho : 1 ≤ o) (x y : Int) : 0 ≤ sg W H P p f r c s u o x y ∧ sg W H P p f r c s u o x y ≤ o := by
  unfold sg
  rw [mx_max, mn_min]
  omega

theorem rd_sm {l : List Int} (hl : ∀ w ∈ l, -20 ≤ w ∧ w ≤ 20) (b : Int) : -20 ≤ rd l b ∧ rd l b ≤ 20 := by
  simp only [rd, List.getD_eq_getElem?_getD]
  cases e : l[b.toNat]? with
  | none => exact ⟨by decide, by decide⟩
  | some v => exact hl v (List.mem_of_getElem? e)

section
variable {W H m : Int} {P : List Int} {p f : Int} {r c : List Int} {s u o : Int}

theorem hf_bd (h : SH W H m P p f r c s u o) (x y : Int) (i : Nat) : -1310700 ≤ hf W H P p f r x y i ∧ hf W H P p f r x y i ≤ 1310700 := by
  have a := rd_sm h.rw (i : Int)
  have b := pix_bd (W := W) (H := H) h.v.2.2 (Int.le_trans (by decide) h.v.1.2.2.2.2.2.1) p ⟨h.f0, h.f1⟩ (x + (i : Int) - (r.length : Int) / 2) y
  have h2 := h.m'
  exact mulb (W := 20) (X := 65535) a.1 a.2 (by omega) (by omega)

theorem hs_bd (h : SH W H m P p f r c s u o) (x y : Int) (n : Nat) (hn : n ≤ 9) : -11796300 ≤ sumN n (hf W H P p f r x y) ∧ sumN n (hf W H P p f r x y) ≤ 11796300 := by
  have := sumN_bd n (fun j _ => hf_bd h x y j)
  omega

theorem hm_bd (h : SH W H m P p f r c s u o) (x y : Int) : -21000000 ≤ hm W H P p f r s x y ∧ hm W H P p f r s x y ≤ 21000000 := by
  obtain ⟨a, b⟩ := hs_bd h x y r.length h.r9
  have := shv_bd h.s0 h.s24 (B := 11796300) (by decide) (by decide) a b
  unfold hm
  omega

theorem vf_bd (h : SH W H m P p f r c s u o) (x y : Int) (j : Nat) : -420000000 ≤ vf W H P p f r c s x y j ∧ vf W H P p f r c s x y j ≤ 420000000 := by
  have a := rd_sm h.cw (j : Int)
  have b := hm_bd h x (y - (c.length : Int) / 2 + (j : Int))
  exact mulb (W := 20) (X := 21000000) a.1 a.2 b.1 b.2

theorem vs_bd (h : SH W H m P p f r c s u o) (x y : Int) (n : Nat) (hn : n ≤ 9) : -3780000000 ≤ sumN n (vf W H P p f r c s x y) ∧ sumN n (vf W H P p f r c s x y) ≤ 3780000000 := by
  have := sumN_bd n (fun j _ => vf_bd h x y j)
  omega

theorem h_idx {x : Int} {i n : Nat} (hx : 0 ≤ x) (hx' : x ≤ 200) (hi : i < n) (hn : n ≤ 9) : wrap64 ((wrap64 (x + (i : Int))) - (wrap64 ((n : Int) / 2))) = x + (i : Int) - (n : Int) / 2 ∧ wrap64 ((i : Int) + 1) = ((i + 1 : Nat) : Int) := by
  rw [wrap_in (n := (n : Int) / 2) (by omega) (by omega), wrap_in (n := x + (i : Int)) (by omega) (by omega), wrap_in (by omega) (by omega), wrap_in (by omega) (by omega)]
  exact ⟨rfl, rfl⟩

theorem h_l1 (h : SH W H m P p f r c s u o) (x y x0 y0 x1 y1 : Int) (hx : 0 ≤ x) (hx' : x ≤ 200) (acc : List Int) (hacc : acc.length ≤ 1000000) : ∀ (d k i : Nat), i + d = r.length → 1 ≤ k →
    separable_Tile_1.l1 (k + d + 1) y acc x (sumN i (hf W H P p f r x y)) r (r.length : Int) (i : Int) x0 y0 x1 y1 r W H m P p f s = separable_Tile_1.l0 k y (acc ++ [hm W H P p f r s x y]) (x + 1) x0 y0 x1 y1 r W H m P p f s
  | 0, k, i, hi, hk => by
    have hi' : i = r.length := hi
    rw [hi', separable_Tile_1.l1, if_neg (Int.lt_irrefl _), shift_eq _ (by omega) _ _ h.s0 h.s24, Option.bind_some, if_pos (show acc.length < 17592186044416 by omega), wrap_in (n := x + 1) (by omega) (by omega)]
    rfl
  | d + 1, k, i, hi, hk => by
    have hi' : i < r.length := by omega
    have hiI : (i : Int) < (r.length : Int) := Int.ofNat_lt.2 hi'
    obtain ⟨e1, e2⟩ := h_idx hx hx' hi' h.r9
    have b1 := hf_bd h x y i
    have b2 := hs_bd h x y (i + 1) (by have := h.r9; omega)
    have e3 : wrap64 (rd r (i : Int) * pix W H P p f (x + (i : Int) - (r.length : Int) / 2) y) = hf W H P p f r x y i := wrap_in (n := hf W H P p f r x y i) (by omega) (by omega)
    have e4 : wrap64 (sumN i (hf W H P p f r x y) + hf W H P p f r x y i) = sumN (i + 1) (hf W H P p f r x y) := wrap_in (n := sumN (i + 1) (hf W H P p f r x y)) (by omega) (by omega)
    rw [show k + (d + 1) + 1 = (k + d + 1) + 1 from rfl, separable_Tile_1.l1, if_pos hiI, if_pos (Int.natCast_nonneg i), if_pos hiI, e1, pixel_eq _ (by omega) W H m P p f _ y h.v.2.1 h.v.1.2.2.2.2.1, Option.bind_some, e3, e4, e2]
    exact h_l1 h x y x0 y0 x1 y1 hx hx' acc hacc d k (i + 1) (by omega) hk

theorem h_l0 (h : SH W H m P p f r c s u o) (y x0 y0 x1 y1 : Int) (hx1 : x1 ≤ 128) : ∀ (d k : Nat) (x : Int) (acc : List Int), x + (d : Int) = x1 → 0 ≤ x → acc.length + d ≤ 1000000 → 1 ≤ k →
    separable_Tile_1.l0 (k + d * (r.length + 2) + 1) y acc x x0 y0 x1 y1 r W H m P p f s = some (acc ++ rowg (hm W H P p f r s) y d x)
  | 0, k, x, acc, hx, hx0, hacc, hk => by
    rw [separable_Tile_1.l0, if_neg (show ¬ x < x1 by omega)]
    simp only [rowg, List.append_nil]
  | d + 1, k, x, acc, hx, hx0, hacc, hk => by
    have ih := h_l0 h y x0 y0 x1 y1 hx1 d k (x + 1) (acc ++ [hm W H P p f r s x y]) (by omega) (by omega) (by rw [List.length_append, List.length_singleton]; omega) hk
    have l := h_l1 h x y x0 y0 x1 y1 hx0 (by omega) acc (by omega) r.length (k + d * (r.length + 2) + 1) 0 (Nat.zero_add _) (by omega)
    rw [show k + (d + 1) * (r.length + 2) + 1 = (k + d * (r.length + 2) + 1 + r.length + 1) + 1 by rw [Nat.succ_mul]; omega, separable_Tile_1.l0, if_pos (show x < x1 by omega)]
    refine l.trans (ih.trans ?_)
    rw [List.append_assoc]
    rfl

theorem h_ok (h : SH W H m P p f r c s u o) (y x0 y0 x1 y1 : Int) (h0 : 0 ≤ x0) (hx : x0 ≤ x1) (hx1 : x1 ≤ 128) (K : Nat) (hK : 2000 ≤ K) :
    separable_Tile_1.f K y x0 y0 x1 y1 r W H m P p f s = some (rowg (hm W H P p f r s) y (x1 - x0).toNat x0) := by
  have hb : (x1 - x0).toNat * (r.length + 2) ≤ 128 * 11 := Nat.mul_le_mul (by omega) (by have := h.r9; omega)
  have l := h_l0 h y x0 y0 x1 y1 hx1 (x1 - x0).toNat (K - (x1 - x0).toNat * (r.length + 2) - 1) x0 [] (by omega) h0 (by rw [List.length_nil]; omega) (by omega)
  rw [show K - (x1 - x0).toNat * (r.length + 2) - 1 + (x1 - x0).toNat * (r.length + 2) + 1 = K by omega] at l
  exact l
end

theorem rdL_set {L : List (List Int)} {v : List Int} {n i : Nat} (hn : n < L.length) : rd_L1 (L.set ((n : Nat) : Int).toNat v) (i : Int) = if n = i then v else rd_L1 L (i : Int) := by
  simp only [rd_L1, Int.toNat_natCast, List.getD_eq_getElem?_getD, List.getElem?_set]
  by_cases h : n = i
  · rw [if_pos h, if_pos h, if_pos hn]; rfl
  · rw [if_neg h, if_neg h]

theorem mod_inj {k a b n : Nat} (ha : a < n) (hb : b < n) (hab : a ≤ b) (h : (k + a) % n = (k + b) % n) : a = b := by
  have e1 := Nat.div_add_mod (k + a) n
  have e2 := Nat.div_add_mod (k + b) n
  rw [h] at e1
  generalize (k + b) % n = z at *
  rcases Nat.lt_or_ge ((k + a) / n) ((k + b) / n) with q | q
  · have := Nat.mul_le_mul_left n (show (k + a) / n + 1 ≤ (k + b) / n from q)
    rw [Nat.mul_add, Nat.mul_one] at this
    omega
  · have := Nat.mul_le_mul_left n q
    omega

theorem mod_ne {k a b n : Nat} (ha : a < n) (hb : b < n) (hab : a ≠ b) : (k + a) % n ≠ (k + b) % n := by
  intro h
  rcases Nat.le_total a b with q | q
  · exact hab (mod_inj ha hb q h)
  · exact hab (mod_inj hb ha q h.symm).symm

theorem tmod_nat {k j n : Nat} (hk : k ≤ 1000) (hj : j ≤ 1000) : Int.tmod (wrap64 ((k : Int) + (j : Int))) (n : Int) = (((k + j) % n : Nat) : Int) := by
  rw [wrap_in (by omega) (by omega), Int.tmod_eq_emod_of_nonneg (by omega), Int.natCast_emod, Int.natCast_add]

theorem tmod_last {k n : Nat} (hk : k ≤ 1000) (hn : n ≤ 9) (hn1 : 1 ≤ n) : Int.tmod (wrap64 ((wrap64 ((k : Int) + (n : Int))) - 1)) (n : Int) = (((k + (n - 1)) % n : Nat) : Int) := by
  rw [wrap_in (n := (k : Int) + (n : Int)) (by omega) (by omega), wrap_in (by omega) (by omega), Int.tmod_eq_emod_of_nonneg (by omega), Int.natCast_emod, Int.natCast_add, show ((n - 1 : Nat) : Int) = (n : Int) - 1 by omega]
  congr 1
  omega

/-- The ring holds the rows from (first + k) on. -/
structure RG (W H : Int) (P : List Int) (p f : Int) (r : List Int) (s x0 first : Int) (w n : Nat) (ring : List (List Int)) (k e : Nat) : Prop where
  len : ring.length = n
  row : ∀ j, j < e → rd_L1 ring (((k + j) % n : Nat) : Int) = rowg (hm W H P p f r s) (first + (k : Int) + (j : Int)) w x0

section
variable {W H m : Int} {P : List Int} {p f : Int} {r c : List Int} {s u o : Int}

theorem rowg_at (q : Int → Int → Int) (y : Int) (n : Nat) (x : Int) (j : Nat) (hj : j < n) : rd (rowg q y n x) (j : Int) = q (x + (j : Int)) y := by
  simp only [rd, Int.toNat_natCast, List.getD_eq_getElem?_getD]
  rw [rowg_get q y n x j hj]
  rfl

theorem v_l3 (h : SH W H m P p f r c s u o) (x0 y0 x1 y1 q0 q1 q2 hh : Int) (w kk xx : Nat) (hkk : kk ≤ 200) (hxx : xx < w) (hw : w ≤ 128) (ring : List (List Int)) (hr : RG W H P p f r s x0 (y0 - (c.length : Int) / 2) w c.length ring kk c.length) (acc : List Int) (hacc : acc.length ≤ 1000000) (fi : Int) : ∀ (d k j : Nat), j + d = c.length → 1 ≤ k →
    separable_Tile.l3 (k + d + 1) c u o fi ring (kk : Int) (xx : Int) (sumN j (vf W H P p f r c s (x0 + (xx : Int)) (y0 + (kk : Int)))) hh (kk : Int) (w : Int) (xx : Int) c (c.length : Int) (j : Int) W H m P p f r s x0 y0 x1 y1 q0 q1 q2 acc =
      separable_Tile.l2 k c u o fi ring (kk : Int) hh (kk : Int) (w : Int) ((xx + 1 : Nat) : Int) W H m P p f r s x0 y0 x1 y1 q0 q1 q2 (acc ++ [sg W H P p f r c s u o (x0 + (xx : Int)) (y0 + (kk : Int))])
  | 0, k, j, hj, hk => by
    have hj' : j = c.length := hj
    rw [hj', separable_Tile.l3, if_neg (Int.lt_irrefl _), shift_eq _ (by omega) _ _ h.u0 h.u24, Option.bind_some]
    unfold fixed_Clamp.f
    rw [Option.bind_some, if_pos (show acc.length < 17592186044416 by omega), wrap_in (n := (xx : Int) + 1) (by omega) (by omega)]
    rfl
  | d + 1, k, j, hj, hk => by
    have hj' : j < c.length := by omega
    have hjI : (j : Int) < (c.length : Int) := Int.ofNat_lt.2 hj'
    have hc9 := h.c9
    have hm1 : (kk + j) % c.length < c.length := Nat.mod_lt _ (by omega)
    have row := hr.row j hj'
    have b1 := vf_bd h (x0 + (xx : Int)) (y0 + (kk : Int)) j
    have b2 := vs_bd h (x0 + (xx : Int)) (y0 + (kk : Int)) (j + 1) (by omega)
    have ev : rd c (j : Int) * hm W H P p f r s (x0 + (xx : Int)) (y0 - (c.length : Int) / 2 + (kk : Int) + (j : Int)) = vf W H P p f r c s (x0 + (xx : Int)) (y0 + (kk : Int)) j := by
      unfold vf
      rw [show y0 - (c.length : Int) / 2 + (kk : Int) + (j : Int) = y0 + (kk : Int) - (c.length : Int) / 2 + (j : Int) by omega]
    have e3 : wrap64 (vf W H P p f r c s (x0 + (xx : Int)) (y0 + (kk : Int)) j) = vf W H P p f r c s (x0 + (xx : Int)) (y0 + (kk : Int)) j := wrap_in (by omega) (by omega)
    have e4 : wrap64 (sumN j (vf W H P p f r c s (x0 + (xx : Int)) (y0 + (kk : Int))) + vf W H P p f r c s (x0 + (xx : Int)) (y0 + (kk : Int)) j) = sumN (j + 1) (vf W H P p f r c s (x0 + (xx : Int)) (y0 + (kk : Int))) := wrap_in (n := sumN (j + 1) (vf W H P p f r c s (x0 + (xx : Int)) (y0 + (kk : Int)))) (by omega) (by omega)
    rw [show k + (d + 1) + 1 = (k + d + 1) + 1 from rfl, separable_Tile.l3, if_pos hjI, if_pos (Int.natCast_nonneg j), if_pos hjI, if_neg (show ¬ (c.length : Int) = 0 by omega), tmod_nat (by omega) (by omega), if_pos (Int.natCast_nonneg _), if_pos (show (((kk + j) % c.length : Nat) : Int) < (ring.length : Int) by rw [hr.len]; omega), if_pos (Int.natCast_nonneg xx), row, if_pos (show (xx : Int) < ((rowg (hm W H P p f r s) (y0 - (c.length : Int) / 2 + (kk : Int) + (j : Int)) w x0).length : Int) by rw [rowg_len]; omega), rowg_at _ _ _ _ _ hxx, ev, e3, e4, wrap_in (n := (j : Int) + 1) (by omega) (by omega)]
    exact v_l3 h x0 y0 x1 y1 q0 q1 q2 hh w kk xx hkk hxx hw ring hr acc hacc fi d k (j + 1) (by omega) hk

theorem v_l2 (h : SH W H m P p f r c s u o) (x0 y0 x1 y1 q0 q1 q2 hh : Int) (w kk : Nat) (hkk : kk ≤ 200) (hw : w ≤ 128) (ring : List (List Int)) (hr : RG W H P p f r s x0 (y0 - (c.length : Int) / 2) w c.length ring kk c.length) (fi : Int) : ∀ (d k xx : Nat) (acc : List Int), xx + d = w → acc.length + d ≤ 1000000 → 1 ≤ k →
    separable_Tile.l2 (k + d * (c.length + 2) + 1) c u o fi ring (kk : Int) hh (kk : Int) (w : Int) (xx : Int) W H m P p f r s x0 y0 x1 y1 q0 q1 q2 acc =
      separable_Tile.l1 k c u o fi ring hh ((kk + 1 : Nat) : Int) W H m P p f r s x0 y0 x1 y1 q0 q1 q2 (acc ++ rowg (sg W H P p f r c s u o) (y0 + (kk : Int)) d (x0 + (xx : Int)))
  | 0, k, xx, acc, hx, hacc, hk => by
    have hx' : xx = w := hx
    rw [hx', Nat.zero_mul, Nat.add_zero, separable_Tile.l2, if_neg (Int.lt_irrefl _), wrap_in (n := (kk : Int) + 1) (by omega) (by omega)]
    simp only [rowg, List.append_nil]
    rfl
  | d + 1, k, xx, acc, hx, hacc, hk => by
    have ih := v_l2 h x0 y0 x1 y1 q0 q1 q2 hh w kk hkk hw ring hr fi d k (xx + 1) (acc ++ [sg W H P p f r c s u o (x0 + (xx : Int)) (y0 + (kk : Int))]) (by omega) (by rw [List.length_append, List.length_singleton]; omega) hk
    have l := v_l3 h x0 y0 x1 y1 q0 q1 q2 hh w kk xx hkk (by omega) hw ring hr acc (by omega) fi c.length (k + d * (c.length + 2) + 1) 0 (Nat.zero_add _) (by omega)
    rw [show k + (d + 1) * (c.length + 2) + 1 = (k + d * (c.length + 2) + 1 + c.length + 1) + 1 by rw [Nat.succ_mul]; omega, separable_Tile.l2, if_pos (show (xx : Int) < (w : Int) by omega)]
    refine l.trans (ih.trans ?_)
    rw [List.append_assoc, show x0 + ((xx + 1 : Nat) : Int) = x0 + (xx : Int) + 1 by omega]
    rfl

theorem rg_put (h : SH W H m P p f r c s u o) {x0 first : Int} {w kk : Nat} {ring : List (List Int)} (hr : RG W H P p f r s x0 first w c.length ring kk (c.length - 1)) {y : Int} (hy : y = first + (kk : Int) + ((c.length - 1 : Nat) : Int)) :
    RG W H P p f r s x0 first w c.length (ring.set (((kk + (c.length - 1)) % c.length : Nat) : Int).toNat (rowg (hm W H P p f r s) y w x0)) kk c.length := by
  have h1 := h.c1
  have hlt : (kk + (c.length - 1)) % c.length < ring.length := by rw [hr.len]; exact Nat.mod_lt _ (by omega)
  refine ⟨by rw [List.length_set]; exact hr.len, fun j hj => ?_⟩
  rw [rdL_set hlt]
  by_cases q : j = c.length - 1
  · rw [q, if_pos rfl, hy]
  · rw [if_neg (mod_ne (by omega) hj (Ne.symm q)), hr.row j (by omega)]

theorem rg_next (h : SH W H m P p f r c s u o) {x0 first : Int} {w kk : Nat} {ring : List (List Int)} (hr : RG W H P p f r s x0 first w c.length ring kk c.length) : RG W H P p f r s x0 first w c.length ring (kk + 1) (c.length - 1) := by
  refine ⟨hr.len, fun j hj => ?_⟩
  have := hr.row (j + 1) (by omega)
  rw [show kk + 1 + j = kk + (j + 1) by omega, this]
  congr 1
  omega

theorem v_l1 (h : SH W H m P p f r c s u o) (x0 y0 x1 y1 q0 q1 q2 : Int) (w hh : Nat) (h0 : 0 ≤ x0) (hx : x1 = x0 + (w : Int)) (hx1 : x1 ≤ 128) (hy0 : 0 ≤ y0) (hy1 : y0 ≤ 128) (hh1 : hh ≤ 128) : ∀ (d k kk : Nat) (ring : List (List Int)) (acc : List Int), kk + d = hh → acc.length + d * w ≤ 1000000 → 3000 ≤ k →
    RG W H P p f r s x0 (y0 - (c.length : Int) / 2) w c.length ring kk (c.length - 1) →
    separable_Tile.l1 (k + d * (w * (c.length + 2) + 2) + 1) c u o (y0 - (c.length : Int) / 2) ring (hh : Int) (kk : Int) W H m P p f r s x0 y0 x1 y1 (w : Int) q1 q2 acc =
      some ((w : Int), q1, q2, acc ++ rowsg (sg W H P p f r c s u o) x0 w d (y0 + (kk : Int)), 0)
  | 0, k, kk, ring, acc, hk, hacc, hK, hr => by
    have hk' : kk = hh := hk
    rw [hk', separable_Tile.l1, if_neg (Int.lt_irrefl _)]
    simp only [rowsg, List.append_nil]
  | d + 1, k, kk, ring, acc, hk, hacc, hK, hr => by
    have hc1 := h.c1
    have hc9 := h.c9
    have ha : (d + 1) * w = d * w + w := Nat.succ_mul d w
    have hw : (x1 - x0).toNat = w := by omega
    have hr2 := rg_put h hr (y := y0 - (c.length : Int) / 2 + (kk : Int) + ((c.length - 1 : Nat) : Int)) rfl
    have hlt : (kk + (c.length - 1)) % c.length < c.length := Nat.mod_lt _ (by omega)
    have ih := v_l1 h x0 y0 x1 y1 q0 q1 q2 w hh h0 hx hx1 hy0 hy1 hh1 d k (kk + 1) _ (acc ++ rowg (sg W H P p f r c s u o) (y0 + (kk : Int)) w x0) (by omega) (by rw [List.length_append, rowg_len]; omega) hK (rg_next h hr2)
    have l := v_l2 h x0 y0 x1 y1 (w : Int) q1 q2 (hh : Int) w kk (by omega) (by omega) _ hr2 (y0 - (c.length : Int) / 2) w (k + d * (w * (c.length + 2) + 2) + 1) 0 acc (Nat.zero_add _) (by omega) (by omega)
    have hrow := h_ok h (y0 - (c.length : Int) / 2 + (kk : Int) + ((c.length - 1 : Nat) : Int)) x0 y0 x1 y1 h0 (by omega) hx1 (k + d * (w * (c.length + 2) + 2) + 1 + w * (c.length + 2) + 1) (by omega)
    rw [hw] at hrow
    have ey : wrap64 ((wrap64 ((wrap64 ((y0 - (c.length : Int) / 2) + (kk : Int))) + (c.length : Int))) - 1) = y0 - (c.length : Int) / 2 + (kk : Int) + ((c.length - 1 : Nat) : Int) := by
      rw [wrap_in (n := (y0 - (c.length : Int) / 2) + (kk : Int)) (by omega) (by omega), wrap_in (n := (y0 - (c.length : Int) / 2) + (kk : Int) + (c.length : Int)) (by omega) (by omega), wrap_in (by omega) (by omega)]
      omega
    rw [show k + (d + 1) * (w * (c.length + 2) + 2) + 1 = (k + d * (w * (c.length + 2) + 2) + 1 + w * (c.length + 2) + 1) + 1 by rw [Nat.succ_mul]; omega, separable_Tile.l1, if_pos (show (kk : Int) < (hh : Int) by omega), if_neg (show ¬ (c.length : Int) = 0 by omega), ey, hrow, Option.bind_some, tmod_last (by omega) hc9 hc1, if_pos (Int.natCast_nonneg _), if_pos (show (((kk + (c.length - 1)) % c.length : Nat) : Int) < (ring.length : Int) by rw [hr.len]; omega)]
    refine Eq.trans (by rw [show x0 + ((0 : Nat) : Int) = x0 from Int.add_zero x0] at l; exact l) (ih.trans ?_)
    rw [List.append_assoc, show y0 + ((kk + 1 : Nat) : Int) = y0 + (kk : Int) + 1 by omega]
    rfl
end

section
variable {W H m : Int} {P : List Int} {p f : Int} {r c : List Int} {s u o : Int}

theorem v_l0 (h : SH W H m P p f r c s u o) (x0 y0 x1 y1 q1 q2 : Int) (w hh : Nat) (hq : q1 = (hh : Int)) (h0 : 0 ≤ x0) (hx : x1 = x0 + (w : Int)) (hx1 : x1 ≤ 128) (hy0 : 0 ≤ y0) (hy1 : y0 ≤ 128) (hh1 : hh ≤ 128) (K : Nat) (hK : 2000 ≤ K) : ∀ (d k j : Nat) (ring : List (List Int)), j + d = c.length - 1 → K ≤ k →
    (ring.length = c.length ∧ ∀ i, i < j → rd_L1 ring (i : Int) = rowg (hm W H P p f r s) (y0 - (c.length : Int) / 2 + (i : Int)) w x0) →
    ∃ ring', RG W H P p f r s x0 (y0 - (c.length : Int) / 2) w c.length ring' 0 (c.length - 1) ∧ separable_Tile.l0 (k + d + 1) c u o (y0 - (c.length : Int) / 2) ring ((c.length : Int) - 1) (j : Int) W H m P p f r s x0 y0 x1 y1 (w : Int) q1 q2 =
      separable_Tile.l1 k c u o (y0 - (c.length : Int) / 2) ring' q1 0 W H m P p f r s x0 y0 x1 y1 (w : Int) q1 q2 []
  | 0, k, j, ring, hj, hk, hr => by
    have hc1 := h.c1
    have hj' : j = c.length - 1 := hj
    refine ⟨ring, ⟨hr.1, fun i hi => ?_⟩, ?_⟩
    · rw [Nat.zero_add, Nat.mod_eq_of_lt (show i < c.length by omega), hr.2 i (by omega)]
      congr 1
      omega
    · rw [separable_Tile.l0, if_neg (show ¬ (j : Int) < (c.length : Int) - 1 by omega)]
  | d + 1, k, j, ring, hj, hk, hr => by
    have hc1 := h.c1
    have hc9 := h.c9
    have hw : (x1 - x0).toNat = w := by omega
    have hrow := h_ok h (y0 - (c.length : Int) / 2 + (j : Int)) x0 y0 x1 y1 h0 (by omega) hx1 (k + d + 1) (by omega)
    rw [hw] at hrow
    obtain ⟨ring', g1, g2⟩ := v_l0 h x0 y0 x1 y1 q1 q2 w hh hq h0 hx hx1 hy0 hy1 hh1 K hK d k (j + 1) (ring.set ((j : Nat) : Int).toNat (rowg (hm W H P p f r s) (y0 - (c.length : Int) / 2 + (j : Int)) w x0)) (by omega) hk ⟨by rw [List.length_set]; exact hr.1, fun i hi => by
      rw [rdL_set (by rw [hr.1]; omega)]
      by_cases q : j = i
      · rw [if_pos q, q]
      · rw [if_neg q, hr.2 i (by omega)]⟩
    refine ⟨ring', g1, ?_⟩
    rw [show k + (d + 1) + 1 = (k + d + 1) + 1 from rfl, separable_Tile.l0, if_pos (show (j : Int) < (c.length : Int) - 1 by omega), wrap_in (n := y0 - (c.length : Int) / 2 + (j : Int)) (by omega) (by omega), hrow, Option.bind_some, if_pos (Int.natCast_nonneg j), if_pos (show (j : Int) < (ring.length : Int) by rw [hr.1]; omega), wrap_in (n := (j : Int) + 1) (by omega) (by omega)]
    exact g2

theorem sep_value {a : Int} (h : 1 ≤ a ∧ a ≤ 4294967296) : separable_value.f a = some true := by
  unfold separable_value.f
  rw [if_pos h.1, decide_eq_true h.2]

theorem sep_shift {a : Int} (h : 0 ≤ a ∧ a ≤ 24) : separable_shiftable.f a = some true := by
  unfold separable_shiftable.f
  rw [if_pos h.1, decide_eq_true h.2]

theorem sep_check (h : SH W H m P p f r c s u o) (K : Nat) (hK : 300 ≤ K) : separable_Check.f K m r c s u o = some 0 := by
  obtain ⟨k, rfl⟩ : ∃ n, K = n + 1 + 1 + 1 := ⟨K - 3, by omega⟩
  have hr1 := h.r1
  have hr9 := h.r9
  have hc1 := h.c1
  have hc9 := h.c9
  have hm1 := h.v.1.2.2.2.2.2.1
  have hm' := h.m'
  obtain ⟨a, b, e1, e2, e3, e4⟩ := bounds2_ok k (by omega) r hr1 (by omega) h.rw (lo := 0) (hi := m) (X := 65535) (by decide) (by decide) (by decide) (by omega) hm'
  have ha : -11796300 ≤ a := by omega
  have hb : b ≤ 11796300 := by omega
  have sa := shv_bd h.s0 h.s24 (B := 11796300) (t := a) (by decide) (by decide) ha (by omega)
  have sb := shv_bd h.s0 h.s24 (B := 11796300) (t := b) (by decide) (by decide) (by omega) hb
  have sm := shv_mono h.s0 h.s24 (t := a) (t' := b) (by omega) e2 (by omega)
  obtain ⟨a', b', f1, -⟩ := bounds2_ok k (by omega) c hc1 (by omega) h.cw (lo := shv a s) (hi := shv b s) (X := 21000000) (by decide) (by decide) (by omega) sm (by omega)
  have hsp : fixed_Span.f k a b s = some (shv a s, shv b s) := by
    unfold fixed_Span.f
    rw [shift_eq k (by omega) a s h.s0 h.s24, Option.bind_some, shift_eq k (by omega) b s h.s0 h.s24, Option.bind_some]
  unfold separable_Check.f
  rw [if_neg (show ¬ (r.length : Int) < 1 by omega), if_neg (show ¬ (r.length : Int) > 9 by omega), if_neg (show ¬ (c.length : Int) < 1 by omega), decide_eq_false (show ¬ (c.length : Int) > 9 by omega), separable_Check.j0, if_neg Bool.false_ne_true,
    w_ok (k + 1 + 1) (by omega) r hr1 (by omega) (fun w hw => by have := h.rw w hw; omega), Option.bind_some, if_pos rfl, w_ok (k + 1 + 1) (by omega) c hc1 (by omega) (fun w hw => by have := h.cw w hw; omega), Option.bind_some, if_pos rfl, sep_shift ⟨h.s0, h.s24⟩, Option.bind_some, if_pos rfl, sep_shift ⟨h.u0, h.u24⟩, Option.bind_some,
    separable_Check.j1, if_neg (show ¬ (!true) = true by decide), sep_value (by omega), Option.bind_some, if_pos rfl, sep_value ⟨h.o1, h.o2⟩, Option.bind_some, separable_Check.j2, if_neg (show ¬ (!true) = true by decide), e1, Option.bind_some, if_pos rfl, hsp, Option.bind_some, f1, Option.bind_some, if_pos rfl]

theorem tile_ok (h : SH W H m P p f r c s u o) {x0 y0 x1 y1 : Int} (hI : IN W H x0 y0 x1 y1) (K : Nat) (hK : 300000 ≤ K) :
    separable_Tile.f K W H m P p f r c s u o x0 y0 x1 y1 = some (x1 - x0, y1 - y0, o, rowsg (sg W H P p f r c s u o) x0 (x1 - x0).toNat (y1 - y0).toNat y0, 0) := by
  obtain ⟨i1, i2, i3, i4, i5, i6⟩ := hI
  have hW := h.v.1.2.1
  have hH := h.v.1.2.2.2.1
  have hc1 := h.c1
  have hc9 := h.c9
  have hlen : P.length ≤ 4096 := by have := h.v.2.1; have := h.v.1.2.2.2.2.1; omega
  obtain ⟨w, hw⟩ : ∃ w : Nat, (w : Int) = x1 - x0 := ⟨(x1 - x0).toNat, Int.toNat_of_nonneg (by omega)⟩
  obtain ⟨hh, hhh⟩ : ∃ d : Nat, (d : Int) = y1 - y0 := ⟨(y1 - y0).toNat, Int.toNat_of_nonneg (by omega)⟩
  have b1 : w * (c.length + 2) ≤ 128 * 11 := Nat.mul_le_mul (by omega) (by omega)
  have b2 : hh * (w * (c.length + 2) + 2) ≤ 128 * 1410 := Nat.mul_le_mul (by omega) (by omega)
  have b3 : hh * w ≤ 128 * 128 := Nat.mul_le_mul (by omega) (by omega)
  have hz : ¬ (x0 = 0 ∧ y0 = 0 ∧ x1 = 0 ∧ y1 = 0) := by omega
  obtain ⟨k, hk, hk3⟩ : ∃ k, K = ((k + hh * (w * (c.length + 2) + 2) + 1) + (c.length - 1) + 1) + 1 + 1 ∧ 3000 ≤ k := ⟨K - hh * (w * (c.length + 2) + 2) - (c.length - 1) - 4, by omega, by omega⟩
  obtain ⟨ring', g1, g2⟩ := v_l0 h x0 y0 x1 y1 (hh : Int) o w hh rfl i1 (by omega) (by omega) i4 (by omega) (by omega) 2000 (by omega) (c.length - 1) (k + hh * (w * (c.length + 2) + 2) + 1) 0 (List.replicate c.length []) (Nat.zero_add _) (by omega) ⟨List.length_replicate, fun i hi => absurd hi (Nat.not_lt_zero i)⟩
  have g3 := v_l1 h x0 y0 x1 y1 (w : Int) (hh : Int) o w hh i1 (by omega) (by omega) i4 (by omega) (by omega) hh k 0 ring' [] (Nat.zero_add _) (by rw [List.length_nil]; omega) hk3 g1
  unfold separable_Tile.f
  rw [pvalid_spec K W H m P (by omega) (by omega), Option.bind_some, decide_eq_true h.v, if_pos rfl, bvalid_ok K (by omega) p f m h.p0 h.p3 h.f0 h.f1 h.pf, Option.bind_some, hk, separable_Tile.j0, if_neg (show ¬ (!true) = true by decide),
    sep_check h _ (by omega), Option.bind_some, if_pos rfl, empty_eq, Option.bind_some, decide_eq_false hz, if_neg Bool.false_ne_true, inside_p _ h.v.1.1 hW h.v.1.2.2.1 hH hz, Option.bind_some, decide_eq_true (show IN W H x0 y0 x1 y1 from ⟨i1, i2, i3, i4, i5, i6⟩), separable_Tile.j1, if_neg (show ¬ (!true) = true by decide), if_pos (Int.natCast_nonneg _), Int.toNat_natCast, if_pos (show c.length ≤ 11728124029610 by omega),
    wrap_in (n := (c.length : Int) / 2) (by omega) (by omega), wrap_in (n := y0 - (c.length : Int) / 2) (by omega) (by omega), wrap_in (n := (c.length : Int) - 1) (by omega) (by omega), wrap_in (n := x1 - x0) (by omega) (by omega), wrap_in (n := y1 - y0) (by omega) (by omega), ← hw, ← hhh, Int.toNat_natCast, Int.toNat_natCast]
  refine Eq.trans g2 (Eq.trans g3 ?_)
  rw [show y0 + ((0 : Nat) : Int) = y0 from Int.add_zero y0]
  rfl
end

theorem vloop_eq : ∀ (k : Nat) (l : List Int) (i a b m : Int), plane_Valid.l0 k l (l.length : Int) i a b m l = tilefarmref4_Valid.l0 k i a b m l
  | 0, _, _, _, _, _ => rfl
  | k + 1, l, i, a, b, m => by
    simp only [plane_Valid.l0, tilefarmref4_Valid.l0]
    by_cases c1 : i < (l.length : Int)
    · by_cases c2 : 0 ≤ i
      · simp only [if_pos c1, if_pos c2, vloop_eq k]
      · simp only [if_pos c1, if_neg c2]
    · simp only [if_neg c1]

theorem rsize_no {a b m : Int} (h : ¬ SZ a b m) : some false = some (decide (SZ a b m)) := by rw [decide_eq_false h]

theorem rsize_val (a b m : Int) : tilefarmref4_Size.f a b m = some (decide (SZ a b m)) := by
  unfold tilefarmref4_Size.f
  by_cases c1 : a ≥ 1
  · rw [if_pos c1]
    by_cases c2 : a ≤ 128
    · rw [if_pos c2]
      by_cases c3 : b ≥ 1
      · rw [if_pos c3]
        by_cases c4 : b ≤ 128
        · obtain ⟨b0, b1⟩ := mul_bd (x := a) (y := b) (B := 128) (C := 128) (by omega) (by omega) c2 c4
          rw [if_pos c4, wrap_in (n := a * b) (by omega) (by omega)]
          by_cases c5 : a * b ≤ 4096
          · rw [if_pos c5]
            by_cases c6 : m ≥ 1
            · rw [if_pos c6]
              exact congrArg some (decide_eq_decide.2 ⟨fun h => ⟨c1, c2, c3, c4, c5, c6, h⟩, fun h => h.2.2.2.2.2.2⟩)
            · rw [if_neg c6]; exact rsize_no (fun h => c6 h.2.2.2.2.2.1)
          · rw [if_neg c5]; exact rsize_no (fun h => c5 h.2.2.2.2.1)
        · rw [if_neg c4]; exact rsize_no (fun h => c4 h.2.2.2.1)
      · rw [if_neg c3]; exact rsize_no (fun h => c3 h.2.2.1)
    · rw [if_neg c2]; exact rsize_no (fun h => c2 h.2.1)
  · rw [if_neg c1]; exact rsize_no (fun h => c1 h.1)

theorem rvalid_same (k : Nat) (a b m : Int) (l : List Int) : tilefarmref4_Valid.f k a b m l = plane_Valid.f k a b m l := by
  have hj : ∀ k t, plane_Valid.j0 k t a b m l = tilefarmref4_Valid.j0 k t a b m l := by
    intro k t
    cases k with
    | zero => rfl
    | succ k => simp only [plane_Valid.j0, tilefarmref4_Valid.j0, vloop_eq k]
  unfold plane_Valid.f tilefarmref4_Valid.f
  rw [size_val, rsize_val]
  simp only [hj]


theorem same_loop (L : List Int) (hL : L.length ≤ 100000) (d : Nat) : ∀ (k i : Nat), i + d = L.length → d < k → tilefarmref4_Same.l0 k L L (i : Int) = some true := by
  induction d with
  | zero =>
    intro k i hi hk
    obtain ⟨k, rfl⟩ : ∃ m, k = m + 1 := ⟨k - 1, by omega⟩
    rw [tilefarmref4_Same.l0, if_neg (by omega)]
  | succ d ih =>
    intro k i hi hk
    obtain ⟨k, rfl⟩ : ∃ m, k = m + 1 := ⟨k - 1, by omega⟩
    rw [tilefarmref4_Same.l0, if_pos (by omega), if_pos (by omega), if_pos (by omega), if_pos rfl, wrap_in (n := (i : Int) + 1) (by omega) (by omega)]
    exact ih k (i + 1) (by omega) (by omega)

theorem same_eq (L : List Int) (hL : L.length ≤ 10000) (K : Nat) (hK : 20000 ≤ K) : tilefarmref4_Same.f K L L = some true := by
  unfold tilefarmref4_Same.f
  rw [if_pos rfl]
  exact same_loop L (by omega) L.length K 0 (by omega) (by omega)

theorem equal_eq (a b m : Int) (L : List Int) (hL : L.length ≤ 10000) (K : Nat) (hK : 20000 ≤ K) : tilefarmref4_Equal.f K a b m L a b m L = some true := by
  unfold tilefarmref4_Equal.f
  rw [if_pos rfl, if_pos rfl, if_pos rfl, same_eq L hL K hK]
  rfl


theorem inside_r {W H : Int} (hW : 1 ≤ W) (hW' : W ≤ 128) (hH : 1 ≤ H) (hH' : H ≤ 128) {a b c d : Int} (ha : V a b c d) (hz : ¬ (a = 0 ∧ b = 0 ∧ c = 0 ∧ d = 0)) : tilefarmref2_Inside.f a b c d 0 0 W H = some (decide (IN W H a b c d)) := by
  have hb : V 0 0 W H := .inr (by omega)
  unfold tilefarmref2_Inside.f tilefarmref2_Empty.f
  rw [ref_valid_eq, Option.bind_some, decide_eq_true ha, if_pos rfl, ref_valid_eq, Option.bind_some, decide_eq_true hb, if_pos rfl, Option.bind_some, if_neg (show ¬ (a == 0 && (b == 0 && (c == 0 && d == 0))) = true by simp only [Bool.and_eq_true, beq_iff_eq]; exact hz)]
  by_cases c1 : a ≥ 0
  · rw [if_pos c1]
    by_cases c2 : b ≥ 0
    · rw [if_pos c2]
      by_cases c3 : c ≤ W
      · rw [if_pos c3]; exact sd_iff ⟨fun h => by omega, fun h => by omega⟩
      · rw [if_neg c3]; exact sd_false (fun h => by omega)
    · rw [if_neg c2]; exact sd_false (fun h => by omega)
  · rw [if_neg c1]; exact sd_false (fun h => by omega)


theorem rd_set {o : List Int} {i b : Int} {x : Int} (hi : 0 ≤ i) (hi' : i < (o.length : Int)) (hb : 0 ≤ b) : rd (o.set i.toNat x) b = if i = b then x else rd o b := by
  simp only [rd, List.getD_eq_getElem?_getD, List.getElem?_set]
  by_cases h : i = b
  · rw [if_pos (show i.toNat = b.toNat by omega), if_pos (show i.toNat < o.length by omega), if_pos h]
    rfl
  · rw [if_neg (show ¬ i.toNat = b.toNat by omega), if_neg h]

theorem rd_ext {a b : List Int} (hl : a.length = b.length) (h : ∀ i : Nat, i < a.length → rd a (i : Int) = rd b (i : Int)) : a = b := by
  refine List.ext_getElem hl (fun i h1 h2 => ?_)
  have := h i h1
  simpa [rd, h1, h2] using this

/-- Two lists agree in their first c places. -/
def Agree (L T : List Int) (c : Nat) : Prop := L.length = T.length ∧ ∀ i : Nat, i < c → rd L (i : Int) = rd T (i : Int)

theorem agree_step {L T : List Int} {c : Nat} (h : Agree L T c) (hc : c < T.length) : Agree (L.set ((c : Nat) : Int).toNat (rd T (c : Int))) T (c + 1) := by
  refine ⟨by rw [List.length_set]; exact h.1, fun i hi => ?_⟩
  rw [rd_set (by omega) (by rw [h.1]; omega) (by omega)]
  by_cases q : (c : Int) = (i : Int)
  · rw [if_pos q, q]
  · rw [if_neg q]; exact h.2 i (by omega)

theorem agree_end {L T : List Int} (h : Agree L T T.length) : L = T := rd_ext h.1 (fun i hi => h.2 i (by rw [← h.1]; exact hi))

section
variable {W H m : Int} {P : List Int} {x0 y0 x1 y1 : Int} {w d : Nat} {T : List Int}

theorem crop_idx {y x : Nat} {W H x0 y0 : Int} {w d L : Nat} (hx0 : 0 ≤ x0) (hx1 : x0 + (w : Int) ≤ W) (hy0 : 0 ≤ y0) (hy1 : y0 + (d : Int) ≤ H) (hy : y < d) (hx : x < w) (hWH : W * H ≤ 4096) (hL : (L : Int) = W * H) (hw : w ≤ 128) (hd : d ≤ 128) :
    wrap64 (wrap64 (wrap64 ((wrap64 ((y : Int) + y0)) * W) + (x : Int)) + x0) = ((y : Int) + y0) * W + ((x : Int) + x0) ∧ 0 ≤ ((y : Int) + y0) * W + ((x : Int) + x0) ∧ ((y : Int) + y0) * W + ((x : Int) + x0) < (L : Int) ∧
    wrap64 (wrap64 ((y : Int) * (w : Int)) + (x : Int)) = ((y * w + x : Nat) : Int) ∧ y * w + x < d * w ∧ wrap64 ((x : Int) + 1) = ((x + 1 : Nat) : Int) ∧ wrap64 ((y : Int) + 1) = ((y + 1 : Nat) : Int) := by
  have hc := cell_in (i := (x : Int) + x0) (j := (y : Int) + y0) (W := W) (H := H) (by omega) (by omega) (by omega) (by omega)
  have hja : y * w ≤ 128 * 128 := Nat.mul_le_mul (by omega) hw
  have hcast : (y : Int) * (w : Int) = ((y * w : Nat) : Int) := (Int.natCast_mul y w).symm
  have h1 : (y + 1) * w ≤ d * w := Nat.mul_le_mul_right _ hy
  rw [Nat.add_mul, Nat.one_mul] at h1
  have hH : H ≤ 4096 ∨ 4096 < H := by omega
  have hWW : 1 ≤ W := by omega
  have hHH : H ≤ W * H := by
    have := Int.mul_le_mul_of_nonneg_right hWW (show 0 ≤ H by omega)
    rw [Int.one_mul] at this
    exact this
  refine ⟨?_, by omega, by omega, ?_, by omega, ?_, ?_⟩
  · rw [wrap_in (n := (y : Int) + y0) (by omega) (by omega), wrap_in (n := ((y : Int) + y0) * W) (by omega) (by omega), wrap_in (n := ((y : Int) + y0) * W + (x : Int)) (by omega) (by omega), wrap_in (by omega) (by omega)]
    omega
  · rw [hcast, wrap_in (n := ((y * w : Nat) : Int)) (by omega) (by omega), wrap_in (by omega) (by omega)]; rfl
  · rw [wrap_in (by omega) (by omega)]; rfl
  · rw [wrap_in (by omega) (by omega)]; rfl

/-- What a crop is taken of, and what it is. -/
structure CR (W H : Int) (P : List Int) (x0 y0 : Int) (w d : Nat) (T : List Int) : Prop where
  hx0 : 0 ≤ x0
  hx1 : x0 + (w : Int) ≤ W
  hy0 : 0 ≤ y0
  hy1 : y0 + (d : Int) ≤ H
  hWH : W * H ≤ 4096
  hL : (P.length : Int) = W * H
  hw : w ≤ 128
  hd : d ≤ 128
  hT : T.length = d * w
  hv : ∀ y x : Nat, y < d → x < w → rd T ((y * w + x : Nat) : Int) = rd P (((y : Int) + y0) * W + ((x : Int) + x0))

theorem crop_l1 (h : CR W H P x0 y0 w d T) (q : Int) (y : Nat) (hy : y < d) : ∀ (e k x : Nat) (L : List Int), x + e = w → Agree L T (y * w + x) →
    ∃ L', tilefarmref4_Crop.l1 (k + e + 1) (y : Int) (x : Int) W H m P x0 y0 x1 y1 (w : Int) (d : Int) q L = tilefarmref4_Crop.l0 k ((y + 1 : Nat) : Int) W H m P x0 y0 x1 y1 (w : Int) (d : Int) q L' ∧ Agree L' T ((y + 1) * w)
  | 0, k, x, L, hx, ha => by
    have hxw : x = w := hx
    have hyd : wrap64 ((y : Int) + 1) = ((y + 1 : Nat) : Int) := by have := h.hd; rw [wrap_in (by omega) (by omega)]; rfl
    refine ⟨L, ?_, ?_⟩
    · rw [hxw, tilefarmref4_Crop.l1, if_neg (Int.lt_irrefl _), hyd]
    · rw [Nat.add_mul, Nat.one_mul, ← hxw]; rw [← hxw] at ha; exact ha
  | e + 1, k, x, L, hx, ha => by
    obtain ⟨hx1, hxw⟩ := idx hx
    obtain ⟨e1, e2, e3, e4, e5, e6, -⟩ := crop_idx h.hx0 h.hx1 h.hy0 h.hy1 hy hxw h.hWH h.hL h.hw h.hd
    have hlt : y * w + x < T.length := by rw [h.hT]; exact e5
    have hst := agree_step ha hlt
    rw [h.hv y x hy hxw] at hst
    obtain ⟨L', r1, r2⟩ := crop_l1 h q y hy e k (x + 1) _ hx1 hst
    refine ⟨L', ?_, r2⟩
    rw [show k + (e + 1) + 1 = (k + e + 1) + 1 from rfl, tilefarmref4_Crop.l1, if_pos (Int.ofNat_lt.2 hxw), e1, e4, e6, if_pos e2, if_pos e3, if_pos (Int.natCast_nonneg _), if_pos (Int.ofNat_lt.2 (by rw [ha.1]; exact hlt))]
    exact r1

theorem crop_l0 (h : CR W H P x0 y0 w d T) (q : Int) : ∀ (e k y : Nat) (L : List Int), y + e = d → Agree L T (y * w) →
    tilefarmref4_Crop.l0 (k + e * (w + 2) + 1) (y : Int) W H m P x0 y0 x1 y1 (w : Int) (d : Int) q L = some ((w : Int), (d : Int), q, T, true)
  | 0, k, y, L, hy, ha => by
    have hyd : y = d := hy
    rw [hyd, ← h.hT] at ha
    rw [hyd, tilefarmref4_Crop.l0, if_neg (Int.lt_irrefl _), agree_end ha]
  | e + 1, k, y, L, hy, ha => by
    have hfu : k + (e + 1) * (w + 2) + 1 = (k + e * (w + 2) + 1 + w + 1) + 1 := by rw [Nat.add_mul]; omega
    obtain ⟨hy1, hyd⟩ := idx hy
    obtain ⟨L', r1, r2⟩ := crop_l1 (m := m) (x1 := x1) (y1 := y1) h q y hyd w (k + e * (w + 2) + 1) 0 L (Nat.zero_add w) ha
    rw [hfu, tilefarmref4_Crop.l0, if_pos (Int.ofNat_lt.2 hyd)]
    exact r1.trans (crop_l0 h q e k (y + 1) L' hy1 r2)
end

/-- The sizes of a crop. -/
theorem crop_sz {W H m x0 y0 x1 y1 : Int} {L : Nat} (hI : IN W H x0 y0 x1 y1) (hS : SZ W H m) (hL : (L : Int) = W * H) : ∃ w d : Nat, (x1 - x0).toNat = w ∧ (y1 - y0).toNat = d ∧ x1 - x0 = (w : Int) ∧ y1 - y0 = (d : Int) ∧ x0 + (w : Int) ≤ W ∧ y0 + (d : Int) ≤ H ∧ w ≤ 128 ∧ d ≤ 128 ∧ SZ (w : Int) (d : Int) m ∧ (w : Int) * (d : Int) = ((d * w : Nat) : Int) ∧ d * w ≤ 4096 ∧ d * (w + 2) ≤ 20000 ∧ L ≤ 4096 ∧ ¬ (x0 = 0 ∧ y0 = 0 ∧ x1 = 0 ∧ y1 = 0) ∧ V x0 y0 x1 y1 ∧ wrap64 (w : Int) = (w : Int) ∧ wrap64 (d : Int) = (d : Int) := by
  obtain ⟨i1, i2, i3, i4, i5, i6⟩ := hI
  obtain ⟨s1, s2, s3, s4, s5, s6, s7⟩ := hS
  obtain ⟨w, hw⟩ : ∃ w : Nat, (x1 - x0).toNat = w := ⟨_, rfl⟩
  obtain ⟨d, hd⟩ : ∃ d : Nat, (y1 - y0).toNat = d := ⟨_, rfl⟩
  have hw' : x1 - x0 = (w : Int) := by omega
  have hd' : y1 - y0 = (d : Int) := by omega
  have hdw : d * (w + 2) ≤ 128 * 130 := Nat.mul_le_mul (by omega) (by omega)
  have hwd : (w : Int) * (d : Int) = ((d * w : Nat) : Int) := by rw [Int.mul_comm]; exact (Int.natCast_mul d w).symm
  have h1 : (w : Int) * (d : Int) ≤ W * H := Int.mul_le_mul (by omega) (by omega) (by omega) (by omega)
  have hdm : d * w ≤ 4096 := by
    rw [hwd] at h1
    clear hdw hwd hL
    omega
  have hwd' : (w : Int) * (d : Int) ≤ 4096 := Int.le_trans h1 s5
  refine ⟨w, d, hw, hd, hw', hd', by omega, by omega, by omega, by omega, ⟨by omega, by omega, by omega, by omega, hwd', s6, s7⟩, hwd, hdm, by omega, by omega, by omega, .inr (by omega), wrap_in (by omega) (by omega), wrap_in (by omega) (by omega)⟩

theorem crop_fuel {K n L : Nat} (hK : 30000 ≤ K) (hn : n ≤ 20000) (hL : L ≤ 4096) : ∃ k, K = (k + n + 1) + 1 ∧ L + 1 < K ∧ L ≤ 4611686018427387904 := ⟨K - n - 2, by omega, by omega, by omega⟩

theorem crop_ok {W H m : Int} {P : List Int} (hV : PV W H m P) {x0 y0 x1 y1 : Int} (hI : IN W H x0 y0 x1 y1) {T : List Int} (hT : T.length = (y1 - y0).toNat * (x1 - x0).toNat)
    (hv : ∀ y x : Nat, y < (y1 - y0).toNat → x < (x1 - x0).toNat → rd T ((y * (x1 - x0).toNat + x : Nat) : Int) = rd P (((y : Int) + y0) * W + ((x : Int) + x0))) (K : Nat) (hK : 30000 ≤ K) :
    tilefarmref4_Crop.f K W H m P x0 y0 x1 y1 = some (x1 - x0, y1 - y0, m, T, true) := by
  obtain ⟨w, d, hw, hd, hw', hd', a1, a2, a3, a4, hsz, hwd, hdm, hdw, hlen, hz, hVr, ew, ed⟩ := crop_sz hI hV.1 hV.2.1
  rw [hw, hd] at hT hv
  have hcr : CR W H P x0 y0 w d T := ⟨hI.1, a1, hI.2.2.2.1, a2, hV.1.2.2.2.2.1, hV.2.1, a3, a4, hT, hv⟩
  obtain ⟨k, hk, hk1, hk2⟩ := crop_fuel hK hdw hlen
  have hemp : (x0 == 0 && (y0 == 0 && (x1 == 0 && y1 == 0))) = false := by rw [Bool.eq_false_iff]; simp only [ne_eq, Bool.and_eq_true, beq_iff_eq]; exact hz
  have em : wrap64 ((d * w : Nat) : Int) = ((d * w : Nat) : Int) := by clear hwd hsz hw' hd' a1 a2 hVr hz; exact wrap_in (by omega) (by omega)
  have el : d * w ≤ 35184372088832 := Nat.le_trans hdm (by decide)
  unfold tilefarmref4_Crop.f
  rw [rvalid_same, pvalid_spec K W H m P hk2 hk1, Option.bind_some, decide_eq_true hV, if_pos rfl]
  unfold tilefarmref2_Empty.f tilefarmref4_Cover.f
  rw [Option.bind_some, hemp, if_neg Bool.false_ne_true, Option.bind_some, inside_r hV.1.1 hV.1.2.1 hV.1.2.2.1 hV.1.2.2.2.1 hVr hz, Option.bind_some, decide_eq_true hI, hk, tilefarmref4_Crop.j0, if_neg (show ¬ (!true) = true by decide), hw', hd', ew, ed]
  unfold tilefarmref4_New.f
  rw [rsize_val, Option.bind_some, decide_eq_true hsz, if_pos rfl, hwd, em, if_pos (Int.natCast_nonneg _), Int.toNat_natCast, if_pos el, Option.bind_some]
  exact crop_l0 hcr m d k 0 _ (Nat.zero_add d) ⟨by rw [List.length_replicate, hT], fun i hi => absurd hi (by rw [Nat.zero_mul]; exact Nat.not_lt_zero i)⟩


theorem sane_eq : tilefarmlaw10_sane.f 60 = some true := by decide +kernel

theorem within_b (l : List Int) (s w h : Int) (hs : 0 ≤ s) (hl : l.length ≤ 4611686018427387904) (hw : 0 < w) (hw2 : w ≤ 1000000) (hh : 0 < h) (hh2 : h ≤ 1000000) :
    ∃ bt, tilefarmgen_Tape_Within.f l s w h = some bt ∧ 0 ≤ bt.2.2.2.2 ∧ IN w h bt.1 bt.2.1 bt.2.2.1 bt.2.2.2.1 := by
  obtain ⟨a, b, c, d, s', h1, h2, h3, h4, h5, h6, h7, h8⟩ := within_spec l s w h hs hl hw hw2 hh hh2
  exact ⟨_, h1, h2, h3, h4, h5, h6, h7, h8⟩

theorem tile_PV {W H : Int} {g : Int → Int → Int} (hW : 1 ≤ W) (hW' : W ≤ 128) (hH : 1 ≤ H) (hH' : H ≤ 128) (hWH : W * H ≤ 4096) (hg : ∀ x y, 0 ≤ g x y ∧ g x y ≤ 65535) : PV W H 65535 (rowsg g 0 (W - 0).toNat (H - 0).toNat 0) := by
  refine ⟨⟨hW, hW', hH, hH', hWH, by decide, by decide⟩, ?_, rowsg_all (fun v => 0 ≤ v ∧ v ≤ 65535) g hg 0 _ _ 0⟩
  rw [rowsg_len, Int.natCast_mul, Int.toNat_of_nonneg (by omega), Int.toNat_of_nonneg (by omega), Int.mul_comm]
  congr 1 <;> omega

theorem SeparableCrops : tilefarmlaw10_SeparableCrops.Pure := by
  intro t hl hl8 _
  have ht : t.length ≤ 4611686018427387904 := by omega
  obtain ⟨K, hK⟩ : ∃ K : Nat, 300000 ≤ K := ⟨300000, Nat.le_refl _⟩
  refine ⟨K, ?_⟩
  obtain ⟨p, h1, p1, p2, p3, p4, p5, p6, p7, p8, p9⟩ := plane_spec K (by omega) t ht 0 (Int.le_refl _)
  obtain ⟨hV, hlen⟩ := plane_PV p1 p2 p3 p4 p5 p6 p7 p8
  obtain ⟨a, a1, a2, a3, a4⟩ := tw_o K (by omega) t ht p.2.2.2.2 3 p9 (by omega)
  obtain ⟨z, z1, z2, z3, z4⟩ := next_o t a.2 5 a4 ht (by omega) (by omega)
  obtain ⟨b, b1, b2, b3, b4⟩ := tw_o K (by omega) t ht z.2 (1 + z.1).toNat z4 (by omega)
  rw [Int.toNat_of_nonneg (show 0 ≤ 1 + z.1 by omega)] at b1
  obtain ⟨e, e1, e2, e3, e4, e5, e6, e7⟩ := edge_o t ht b.2 p.2.2.1 b4 (by omega) (by omega)
  obtain ⟨n, n1, n2, n3, n4⟩ := next_o t e.2.2 4 e7 ht (by omega) (by omega)
  obtain ⟨u, u1, u2, u3, u4⟩ := next_o t n.2 4 n4 ht (by omega) (by omega)
  obtain ⟨r, r1, r2, r3⟩ := within_b t u.2 p.1 p.2.1 u4 ht (by omega) (by omega) (by omega) (by omega)
  have hsh : SH p.1 p.2.1 p.2.2.1 p.2.2.2.1 e.1 e.2.1 a.1 b.1 n.1 u.1 65535 := ⟨hV, p6, e2, e3, e4, e5, e6, by omega, by omega, a3, by omega, by omega, b3, n2, by omega, u2, by omega, by decide, by decide⟩
  have hall : IN p.1 p.2.1 0 0 p.1 p.2.1 := by omega
  have hg : ∀ x y, 0 ≤ sg p.1 p.2.1 p.2.2.2.1 e.1 e.2.1 a.1 b.1 n.1 u.1 65535 x y ∧ sg p.1 p.2.1 p.2.2.2.1 e.1 e.2.1 a.1 b.1 n.1 u.1 65535 x y ≤ 65535 := sg_bd p.1 p.2.1 p.2.2.2.1 e.1 e.2.1 a.1 b.1 n.1 u.1 65535 (by decide)
  have f1 := tile_ok hsh hall K hK
  have f2 := tile_ok hsh r3 K hK
  have hPVq := tile_PV hV.1.1 hV.1.2.1 hV.1.2.2.1 hV.1.2.2.2.1 hV.1.2.2.2.2.1 hg
  have hsane : tilefarmlaw10_sane.f K = some true := at_rounds tilefarmlaw10_sane.mono (by omega) sane_eq
  have f3 := crop_ok hPVq r3 (T := rowsg (sg p.1 p.2.1 p.2.2.2.1 e.1 e.2.1 a.1 b.1 n.1 u.1 65535) r.1 (r.2.2.1 - r.1).toNat (r.2.2.2.1 - r.2.1).toNat r.2.1) (rowsg_len _ _ _ _ _) (fun y x hy hx => by
    rw [rowsg_rd _ _ _ _ _ y x hy hx]
    have hc : ((y : Int) + r.2.1) * p.1 + ((x : Int) + r.1) = (((y + r.2.1.toNat) * (p.1 - 0).toNat + (x + r.1.toNat) : Nat) : Int) := by
      rw [Int.natCast_add, Int.natCast_mul, Int.natCast_add, Int.natCast_add, Int.toNat_of_nonneg (by omega), Int.toNat_of_nonneg (by omega), Int.toNat_of_nonneg (by omega), Int.sub_zero]
    rw [hc, rowsg_rd _ _ _ _ _ (y + r.2.1.toNat) (x + r.1.toNat) (by omega) (by omega)]
    congr 1 <;> omega) K (by omega)
  have hlen2 : (rowsg (sg p.1 p.2.1 p.2.2.2.1 e.1 e.2.1 a.1 b.1 n.1 u.1 65535) r.1 (r.2.2.1 - r.1).toNat (r.2.2.2.1 - r.2.1).toNat r.2.1).length ≤ 10000 := by
    rw [rowsg_len]
    have : (r.2.2.2.1 - r.2.1).toNat * (r.2.2.1 - r.1).toNat ≤ 5 * 6 := Nat.mul_le_mul (by omega) (by omega)
    omega
  unfold tilefarmlaw10_SeparableCrops.f tilefarmgen_New.f
  rw [Option.bind_some, h1, Option.bind_some]
  rw [show (3 : Int) = ((3 : Nat) : Int) from rfl, a1, Option.bind_some, z1, Option.bind_some, wrap_in (n := 1 + z.1) (by omega) (by omega), b1, Option.bind_some, e1, Option.bind_some, n1, Option.bind_some, u1, Option.bind_some, r1, Option.bind_some]
  rw [f1, Option.bind_some, f2, Option.bind_some]
  simp only [Int.sub_zero] at f3 ⊢
  rw [f3, Option.bind_some, if_pos rfl, if_pos trivial, if_pos trivial, equal_eq _ _ _ _ hlen2 K (by omega), Option.bind_some, if_pos rfl, hsane, Option.bind_some]


end Go.Proofs.Ytcfllciehmgikaa.Pure
namespace Go.Proofs.Ytcfllciehmgikaa
open Go.ChangeShapes Go.WideShapes
/-- The print's own word, under the name that the printed row uses. -/
theorem PrintWords.sized_ints {H : Type} {enc : TypeId × Value → H} {P : Program} {W : World} {base : Nat} {spare : Nat → Bool} {held : Bool} {t e : TypeId} {k : IntKind} {a : Option Addr} {len cap : Nat} {d : DataW H} {ps : List MemPlace} {ts : List TypeId} {ds : List (DataW H)} {j : Nat}
    (hsz : (DataW.weightsEach P ts ds).all (· ≤ reachBytes) = true) (ht : ts[j]? = some t) (hd : ds[j]? = some d) (hu : P.underlying t = some (.slice e)) (he : P.underlying e = some (.int k)) (hc : P.cellsOf e = 1) {B : Nat} (hB : P.bytesOf e = B)
    (h : DataW.Trod enc P W base spare held t (.slice a len cap) d ps) : len * B ≤ 140737488351232 :=
  Go.Proofs.YtcfllciehmgikaaW.PrintWords.sized_ints hsz ht hd hu he hc hB h
end Go.Proofs.Ytcfllciehmgikaa

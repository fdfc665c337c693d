/- Bins, partial and whole histograms, or the error, are those of the reference: for every tape and all numbers. -/
import Derived.Test.YticicecobchdiaaKHistogramCountsx13
import Derived.Test.YticicecobchdiaaKHistogramCountsa
namespace Go.Proofs.Yticicecobchdiaa.Pure
open Go.RowKit Go.Proofs.Yticicecobchdiaa.PHistogramCounts Go.Proofs.YticicecobchdiaaW.PrintWords Go.Proofs.YticicecobchdiaaW.PrintLast Go.Proofs.YticicecobchdiaaW.PrintMore
set_option linter.unusedVariables false
set_option linter.unusedSimpArgs false

theorem wrap_in {n : Int} (h : -9223372036854775808 ≤ n) (h' : n ≤ 9223372036854775807) : wrap64 n = n := by unfold wrap64; omega

theorem tmod_emod (a n : Int) (h : 0 < n) : (0 ≤ Int.tmod a n ∧ Int.tmod a n = a % n) ∨ (Int.tmod a n < 0 ∧ Int.tmod a n + n = a % n) := by
  have h1 := Int.tmod_eq_emod (a := a) (b := n)
  have h2 := Int.emod_nonneg a (by omega : n ≠ 0)
  have h3 := Int.emod_lt_of_pos a h
  split at h1 <;> omega

theorem mod_eq (a n : Int) (h : 0 < n) (hn : n ≤ 4611686018427387904) : tilefarmgen_Mod.f a n = some (a % n) := by
  have h2 := Int.emod_nonneg a (by omega : n ≠ 0)
  have h3 := Int.emod_lt_of_pos a h
  unfold tilefarmgen_Mod.f
  rw [if_neg (by omega)]
  rcases tmod_emod a n h with ⟨h4, h5⟩ | ⟨h4, h5⟩
  · rw [if_neg (by omega), h5]
  · rw [if_pos h4, wrap_in (by omega) (by omega), h5]

theorem sd_true {p : Prop} [Decidable p] (h : p) : some true = some (decide p) := by rw [decide_eq_true h]
theorem sd_false {p : Prop} [Decidable p] (h : ¬ p) : some false = some (decide p) := by rw [decide_eq_false h]
theorem sd_iff {p q : Prop} [Decidable p] [Decidable q] (h : q ↔ p) : some (decide q) = some (decide p) := by rw [decide_eq_decide.2 h]

theorem mx_max (a b : Int) : mx a b = max a b := by unfold mx; omega
theorem mn_min (a b : Int) : mn a b = min a b := by unfold mn; omega

theorem mul_bd {x y B C : Int} (hx : 0 ≤ x) (hy : 0 ≤ y) (hxB : x ≤ B) (hyB : y ≤ C) : 0 ≤ x * y ∧ x * y ≤ B * C :=
  ⟨Int.mul_nonneg hx hy, Int.mul_le_mul hxB hyB hy (by omega)⟩

theorem dec_iff {p q : Prop} [Decidable p] [Decidable q] (h : p ↔ q) : decide p = decide q := decide_eq_decide.2 h
theorem and_not_dec (p q : Prop) [Decidable p] [Decidable q] : (decide p && !decide q) = decide (p ∧ ¬ q) := by
  by_cases hp : p <;> by_cases hq : q <;> simp [hp, hq]

theorem wrap64_range (n : Int) : -9223372036854775808 ≤ wrap64 n ∧ wrap64 n ≤ 9223372036854775807 := by unfold wrap64; omega

theorem wf_range {n : Int} (h : (Lit.int .i64 n).wf = true) : -9223372036854775808 ≤ n ∧ n ≤ 9223372036854775807 := by
  simp only [Lit.wf, IntKind.min, IntKind.max, IntKind.signed, IntKind.bits, Bool.and_eq_true, decide_eq_true_eq, if_true] at h
  omega


theorem next_spec (l : List Int) (s n : Int) (hs : 0 ≤ s) (hl : l.length ≤ 4611686018427387904) (h : 0 < n) (hn : n ≤ 4611686018427387904) :
    ∃ r s', tilefarmgen_Tape_Next.f l s n = some (r, s') ∧ 0 ≤ r ∧ r < n ∧ 0 ≤ s' := by
  unfold tilefarmgen_Tape_Next.f
  rw [if_neg (by omega)]
  by_cases h1 : s ≥ (l.length : Int)
  · rw [if_pos h1]; exact ⟨_, _, rfl, by omega, by omega, hs⟩
  · have e1 : wrap64 (s + 1) = s + 1 := wrap_in (by omega) (by omega)
    have e2 : wrap64 (s + 1 - 1) = s := by rw [wrap_in (by omega) (by omega)]; omega
    rw [if_neg h1]
    simp only [e1, e2]
    rw [if_pos hs, if_pos (by omega), mod_eq _ _ h hn]
    exact ⟨_, _, rfl, Int.emod_nonneg _ (by omega), Int.emod_lt_of_pos _ h, by omega⟩


theorem rd_mem (l : List Int) (i : Nat) (h : i < l.length) : rd l (i : Int) ∈ l := by
  simp [rd, h]

theorem rd_drop (l : List Int) (i : Nat) (h : i < l.length) : l.drop i = rd l (i : Int) :: l.drop (i + 1) := by
  rw [List.drop_eq_getElem_cons h]
  simp [rd, h]

theorem next_o (l : List Int) (s n : Int) (hs : 0 ≤ s) (hl : l.length ≤ 4611686018427387904) (h : 0 < n) (hn : n ≤ 4611686018427387904) :
    ∃ bt, tilefarmgen_Tape_Next.f l s n = some bt ∧ 0 ≤ bt.1 ∧ bt.1 < n ∧ 0 ≤ bt.2 := by
  obtain ⟨r, s', h1, h2, h3, h4⟩ := next_spec l s n hs hl h hn
  exact ⟨(r, s'), h1, h2, h3, h4⟩

theorem pick_o (l : List Int) (s : Int) (xs : List Int) (hs : 0 ≤ s) (hl : l.length ≤ 4611686018427387904) (h : 0 < xs.length) (hx : xs.length ≤ 100) :
    ∃ bt, tilefarmgen_Tape_Pick.f l s xs = some bt ∧ bt.1 ∈ xs ∧ 0 ≤ bt.2 := by
  obtain ⟨r, s', h1, h2, h3, h4⟩ := next_spec l s (xs.length : Int) hs hl (by omega) (by omega)
  refine ⟨(rd xs r, s'), ?_, ?_, h4⟩
  · unfold tilefarmgen_Tape_Pick.f
    rw [h1, Option.bind_some, if_pos h2, if_pos h3]
  · obtain ⟨n, rfl⟩ := Int.eq_ofNat_of_zero_le h2
    exact rd_mem xs n (by omega)


abbrev V (a b c d : Int) : Prop := (a = 0 ∧ b = 0 ∧ c = 0 ∧ d = 0) ∨ (-1048576 ≤ a ∧ a ≤ 1048576 ∧ -1048576 ≤ b ∧ b ≤ 1048576 ∧ -1048576 ≤ c ∧ c ≤ 1048576 ∧ -1048576 ≤ d ∧ d ≤ 1048576 ∧ a < c ∧ b < d)

theorem empty_eq (a b c d : Int) : rect_Empty.f a b c d = some (decide (a = 0 ∧ b = 0 ∧ c = 0 ∧ d = 0)) := by
  unfold rect_Empty.f
  congr 1
  rw [Bool.eq_iff_iff]
  simp

theorem coord_eq (a : Int) : rect_coord.f a = some (decide (-1048576 ≤ a ∧ a ≤ 1048576)) := by
  unfold rect_coord.f
  split <;> congr 1 <;> rw [Bool.eq_iff_iff] <;> simp <;> omega

theorem valid_eq (a b c d : Int) : rect_Valid.f a b c d = some (decide (V a b c d)) := by
  unfold rect_Valid.f
  simp only [empty_eq, coord_eq, Option.bind_some, decide_eq_true_eq]
  repeat' split
  all_goals first | (refine sd_iff ?_; omega) | (refine sd_true ?_; omega) | (refine sd_false ?_; omega)

theorem ref_coord_eq (a : Int) : tilefarmref2_coord.f a = some (decide (-1048576 ≤ a ∧ a ≤ 1048576)) := by
  unfold tilefarmref2_coord.f
  split <;> congr 1 <;> rw [Bool.eq_iff_iff] <;> simp <;> omega

theorem ref_valid_eq (a b c d : Int) : tilefarmref2_Valid.f a b c d = some (decide (V a b c d)) := by
  unfold tilefarmref2_Valid.f
  simp only [ref_coord_eq, Option.bind_some, decide_eq_true_eq, V, Bool.and_eq_true, beq_iff_eq]
  repeat' split
  all_goals first | (refine sd_iff ?_; omega) | (refine sd_true ?_; omega) | (refine sd_false ?_; omega)

def ix (a0 a1 a2 a3 b0 b1 b2 b3 : Int) : Int × Int × Int × Int :=
  if V a0 a1 a2 a3 ∧ V b0 b1 b2 b3 ∧ mx a0 b0 < mn a2 b2 ∧ mx a1 b1 < mn a3 b3 then (mx a0 b0, mx a1 b1, mn a2 b2, mn a3 b3) else (0, 0, 0, 0)

theorem intersect_eq (k : Nat) (a0 a1 a2 a3 b0 b1 b2 b3 : Int) : rect_Intersect.f (k + 1) a0 a1 a2 a3 b0 b1 b2 b3 = some (ix a0 a1 a2 a3 b0 b1 b2 b3) := by
  unfold rect_Intersect.f ix
  simp only [valid_eq, Option.bind_some, rect_Intersect.j0, decide_eq_true_eq, Bool.not_eq_true', decide_eq_false_iff_not, if_true]
  by_cases h1 : V a0 a1 a2 a3
  · by_cases h2 : V b0 b1 b2 b3
    · rw [if_pos h1, if_neg (fun h => h h2)]
      by_cases h3 : mx a0 b0 < mn a2 b2
      · by_cases h4 : mx a1 b1 < mn a3 b3
        · rw [if_neg (by omega), if_neg (by omega), if_pos ⟨h1, h2, h3, h4⟩]
        · rw [if_neg (by omega), if_pos (by omega), if_neg (fun h => h4 h.2.2.2)]
      · rw [if_pos (by omega), if_neg (fun h => h3 h.2.2.1)]
    · rw [if_pos h1, if_pos h2, if_neg (fun h => h2 h.2.1)]
  · rw [if_neg h1, if_neg (fun h => h1 h.1)]

theorem ix_spec {a0 a1 a2 a3 b0 b1 b2 b3 c0 c1 c2 c3 : Int} (hc : ix a0 a1 a2 a3 b0 b1 b2 b3 = (c0, c1, c2, c3)) (ha : V a0 a1 a2 a3) (hb : V b0 b1 b2 b3) :
    (c0 = 0 ∧ c1 = 0 ∧ c2 = 0 ∧ c3 = 0 ∧ (min a2 b2 ≤ max a0 b0 ∨ min a3 b3 ≤ max a1 b1)) ∨ (c0 = max a0 b0 ∧ c1 = max a1 b1 ∧ c2 = min a2 b2 ∧ c3 = min a3 b3 ∧ c0 < c2 ∧ c1 < c3) := by
  simp only [ix, mx_max, mn_min] at hc
  split at hc
  · next h =>
    simp only [Prod.mk.injEq] at hc
    exact .inr (by omega)
  · next h =>
    simp only [Prod.mk.injEq] at hc
    refine .inl ?_
    have : ¬ (max a0 b0 < min a2 b2 ∧ max a1 b1 < min a3 b3) := fun h' => h ⟨ha, hb, h'⟩
    omega

theorem ix_inside {a0 a1 a2 a3 b0 b1 b2 b3 c0 c1 c2 c3 : Int} (h : (c0 = 0 ∧ c1 = 0 ∧ c2 = 0 ∧ c3 = 0 ∧ (min a2 b2 ≤ max a0 b0 ∨ min a3 b3 ≤ max a1 b1)) ∨ (c0 = max a0 b0 ∧ c1 = max a1 b1 ∧ c2 = min a2 b2 ∧ c3 = min a3 b3 ∧ c0 < c2 ∧ c1 < c3))
    (hy : ¬ (c0 = 0 ∧ c1 = 0 ∧ c2 = 0 ∧ c3 = 0)) : a0 ≤ c0 ∧ c0 < c2 ∧ c2 ≤ a2 ∧ a1 ≤ c1 ∧ c1 < c3 ∧ c3 ≤ a3 := by
  rcases h with h | h
  · exact absurd ⟨h.1, h.2.1, h.2.2.1, h.2.2.2.1⟩ hy
  · omega

theorem V_range {a b c d : Int} (h : V a b c d) : -1048576 ≤ a ∧ c ≤ 1048576 ∧ -1048576 ≤ b ∧ d ≤ 1048576 := by omega
theorem V_mono {a b c d : Int} (h : V a b c d) : a ≤ c ∧ b ≤ d := by omega


theorem mul_some (a b c : Int) : ∃ p, extent_Mul.f a b c = some p := by
  unfold extent_Mul.f
  by_cases c1 : a < 0
  · rw [if_pos c1]; exact ⟨_, rfl⟩
  · rw [if_neg c1]
    by_cases c2 : b < 0
    · rw [if_pos c2]; exact ⟨_, rfl⟩
    · rw [if_neg c2]
      by_cases c3 : c < 0
      · rw [if_pos c3]; exact ⟨_, rfl⟩
      · rw [if_neg c3]
        by_cases c4 : a = 0
        · rw [if_pos c4]; exact ⟨_, rfl⟩
        · rw [if_neg c4]
          by_cases c5 : b > wrap64 (Int.tdiv c a)
          · rw [if_pos c5]; exact ⟨_, rfl⟩
          · rw [if_neg c5]; exact ⟨_, rfl⟩

/-- Which sizes a plane can have. -/
abbrev SZ (a b m : Int) : Prop := 1 ≤ a ∧ a ≤ 128 ∧ 1 ≤ b ∧ b ≤ 128 ∧ a * b ≤ 4096 ∧ 1 ≤ m ∧ m ≤ 4294967296

theorem size_no {a b m : Int} (h : ¬ SZ a b m) : some false = some (decide (SZ a b m)) := by rw [decide_eq_false h]

theorem size_val (a b m : Int) : plane_size.f a b m = some (decide (SZ a b m)) := by
  unfold plane_size.f
  by_cases c1 : a ≥ 1
  · by_cases c2 : a ≤ 128
    · by_cases c3 : b ≥ 1
      · by_cases c4 : b ≤ 128
        · obtain ⟨b0, b1⟩ := mul_bd (x := a) (y := b) (B := 128) (C := 128) (by omega) (by omega) c2 c4
          have hq : b ≤ 4096 / a ↔ b * a ≤ 4096 := Int.le_ediv_iff_mul_le (by omega)
          have q0 : 0 ≤ 4096 / a := Int.ediv_nonneg (by decide) (by omega)
          have q1 : 4096 / a ≤ 4096 := Int.ediv_le_self _ (by decide)
          rw [Int.mul_comm b a] at hq
          unfold extent_Mul.f
          rw [if_neg (show ¬ a < 0 by omega), if_neg (show ¬ b < 0 by omega), if_neg (show ¬ (4096 : Int) < 0 by decide), if_neg (show ¬ a = 0 by omega), Int.tdiv_eq_ediv_of_nonneg (by decide), wrap_in (n := 4096 / a) (by omega) (by omega), wrap_in (n := a * b) (by omega) (by omega)]
          by_cases c5 : b > 4096 / a
          · rw [if_pos c5]
            exact size_no (fun h => by have := hq.2 h.2.2.2.2.1; omega)
          · rw [if_neg c5, Option.bind_some]
            simp only [if_pos c1, if_pos c2, if_pos c3, if_pos c4, if_true]
            by_cases c6 : m ≥ 1
            · rw [if_pos c6]
              have := hq.1 (by omega)
              exact congrArg some (decide_eq_decide.2 ⟨fun h => ⟨c1, c2, c3, c4, this, c6, h⟩, fun h => h.2.2.2.2.2.2⟩)
            · rw [if_neg c6]
              exact size_no (fun h => c6 h.2.2.2.2.2.1)
        · obtain ⟨p, hp⟩ := mul_some a b 4096
          rw [hp, Option.bind_some]
          simp only [if_pos c1, if_pos c2, if_pos c3, if_neg c4, ite_self]
          exact size_no (fun h => c4 h.2.2.2.1)
      · obtain ⟨p, hp⟩ := mul_some a b 4096
        rw [hp, Option.bind_some]
        simp only [if_pos c1, if_pos c2, if_neg c3, ite_self]
        exact size_no (fun h => c3 h.2.2.1)
    · obtain ⟨p, hp⟩ := mul_some a b 4096
      rw [hp, Option.bind_some]
      simp only [if_pos c1, if_neg c2, ite_self]
      exact size_no (fun h => c2 h.2.1)
  · obtain ⟨p, hp⟩ := mul_some a b 4096
    rw [hp, Option.bind_some]
    simp only [if_neg c1, ite_self]
    exact size_no (fun h => c1 h.1)

/-- Which planes are valid. -/
abbrev PV (a b m : Int) (l : List Int) : Prop := SZ a b m ∧ (l.length : Int) = a * b ∧ ∀ v ∈ l, 0 ≤ v ∧ v ≤ m

theorem vloop_spec (a b m : Int) (l : List Int) (hl : l.length ≤ 4611686018427387904) : ∀ (d k i : Nat), i + d = l.length → d < k →
    plane_Valid.l0 k l (l.length : Int) (i : Int) a b m l = some (decide (∀ v ∈ l.drop i, 0 ≤ v ∧ v ≤ m))
  | 0, k, i, hi, hk => by
    obtain ⟨k, rfl⟩ : ∃ n, k = n + 1 := ⟨k - 1, by omega⟩
    rw [plane_Valid.l0, if_neg (show ¬ (i : Int) < (l.length : Int) by omega), List.drop_eq_nil_of_le (by omega)]
    simp
  | d + 1, k, i, hi, hk => by
    obtain ⟨k, rfl⟩ : ∃ n, k = n + 1 := ⟨k - 1, by omega⟩
    rw [plane_Valid.l0, rd_drop l i (by omega)]
    simp only [if_pos (show (i : Int) < (l.length : Int) by omega), if_pos (show 0 ≤ (i : Int) by omega), List.mem_cons, forall_eq_or_imp]
    rw [wrap_in (n := (i : Int) + 1) (by omega) (by omega), show ((i : Int) + 1) = ((i + 1 : Nat) : Int) from rfl, vloop_spec a b m l hl d k (i + 1) (by omega) (by omega)]
    by_cases c1 : rd l (i : Int) < 0
    · rw [if_pos c1]
      exact sd_false (fun h => by omega)
    · rw [if_neg c1]
      by_cases c2 : rd l (i : Int) > m
      · rw [if_pos c2]
        exact sd_false (fun h => by omega)
      · rw [if_neg c2]
        exact sd_iff ⟨fun h => ⟨by omega, h⟩, fun h => h.2⟩

theorem pvalid_spec (k : Nat) (a b m : Int) (l : List Int) (hl : l.length ≤ 4611686018427387904) (hk : l.length + 1 < k) : plane_Valid.f k a b m l = some (decide (PV a b m l)) := by
  obtain ⟨k, rfl⟩ : ∃ n, k = n + 1 := ⟨k - 1, by omega⟩
  unfold plane_Valid.f
  rw [size_val, Option.bind_some]
  by_cases c1 : SZ a b m
  · rw [decide_eq_true c1, if_pos rfl]
    obtain ⟨b0, b1⟩ := mul_bd (x := a) (y := b) (B := 128) (C := 128) (by omega) (by omega) c1.2.1 c1.2.2.2.1
    simp only [plane_Valid.j0]
    rw [wrap_in (n := a * b) (by omega) (by omega)]
    by_cases c2 : (l.length : Int) = a * b
    · rw [bne_eq_false_iff_eq.2 c2, if_neg Bool.false_ne_true]
      have hv := vloop_spec a b m l hl l.length k 0 (by omega) (by omega)
      rw [List.drop_zero] at hv
      exact hv.trans (sd_iff ⟨fun h => ⟨c1, c2, h⟩, fun h => h.2.2⟩)
    · rw [bne_iff_ne.2 c2, if_pos rfl]
      exact sd_false (fun h => c2 h.2.1)
  · rw [decide_eq_false c1, if_neg Bool.false_ne_true]
    exact sd_false (fun h => c1 h.1)


theorem set_all (P : Int → Prop) (l : List Int) (i : Nat) (v : Int) (h : ∀ x ∈ l, P x) (hv : P v) : ∀ x ∈ l.set i v, P x := by
  intro x hx
  rcases List.mem_or_eq_of_mem_set hx with hx | hx
  · exact h x hx
  · rw [hx]; exact hv

theorem sized_loop (t : List Int) (ht : t.length ≤ 4611686018427387904) (a b m : Int) (hm : 1 ≤ m) (hm' : m ≤ 4294967296) : ∀ (d k i : Nat) (s : Int) (l : List Int), 0 ≤ s → i + d = l.length → l.length ≤ 100000 → d < k →
    (∀ v ∈ l, 0 ≤ v ∧ v ≤ m) → ∃ bt, tilefarmgen_Tape_Sized.l0 k (i : Int) t s a b m l = some bt ∧ bt.1 = a ∧ bt.2.1 = b ∧ bt.2.2.1 = m ∧ bt.2.2.2.1.length = l.length ∧ (∀ v ∈ bt.2.2.2.1, 0 ≤ v ∧ v ≤ m) ∧ 0 ≤ bt.2.2.2.2
  | 0, k, i, s, l, hs, hi, hl, hk, hv => by
    obtain ⟨k, rfl⟩ : ∃ n, k = n + 1 := ⟨k - 1, by omega⟩
    rw [tilefarmgen_Tape_Sized.l0, if_neg (show ¬ (i : Int) < (l.length : Int) by omega)]
    exact ⟨_, rfl, rfl, rfl, rfl, rfl, hv, hs⟩
  | d + 1, k, i, s, l, hs, hi, hl, hk, hv => by
    obtain ⟨k, rfl⟩ : ∃ n, k = n + 1 := ⟨k - 1, by omega⟩
    rw [tilefarmgen_Tape_Sized.l0, if_pos (show (i : Int) < (l.length : Int) by omega), wrap_in (n := m + 1) (by omega) (by omega)]
    obtain ⟨r1, h1, h1a, h1b, h1c⟩ := next_o t s (m + 1) hs ht (by omega) (by omega)
    obtain ⟨r2, h2, h2a, h2b, h2c⟩ := next_o t r1.2 (m + 1) h1c ht (by omega) (by omega)
    obtain ⟨r3, h3, h3a, h3b⟩ := pick_o t r2.2 [r1.1, r2.1, m, 0] h2c ht (by simp) (by simp)
    rw [h1, Option.bind_some, h2, Option.bind_some, h3, Option.bind_some, if_pos (show 0 ≤ (i : Int) by omega), wrap_in (n := (i : Int) + 1) (by omega) (by omega)]
    have hr : 0 ≤ r3.1 ∧ r3.1 ≤ m := by
      simp only [List.mem_cons, List.not_mem_nil, or_false] at h3a
      clear h1 h2 h3 hv
      omega
    obtain ⟨bt, g1, g2, g3, g4, g5, g6, g7⟩ := sized_loop t ht a b m hm hm' d k (i + 1) r3.2 (l.set (i : Int).toNat r3.1) h3b (by rw [List.length_set]; omega) (by rw [List.length_set]; omega) (by omega) (set_all _ l _ _ hv hr)
    exact ⟨bt, g1, g2, g3, g4, by rw [g5, List.length_set], g6, g7⟩

theorem sized_spec (K : Nat) (hK : 2000 ≤ K) (t : List Int) (ht : t.length ≤ 4611686018427387904) (s a b : Int) (hs : 0 ≤ s) (ha : 1 ≤ a) (ha' : a ≤ 30) (hb : 1 ≤ b) (hb' : b ≤ 30) :
    ∃ bt, tilefarmgen_Tape_Sized.f K t s a b = some bt ∧ bt.1 = a ∧ bt.2.1 = b ∧ 1 ≤ bt.2.2.1 ∧ bt.2.2.1 ≤ 65535 ∧ (bt.2.2.2.1.length : Int) = a * b ∧ (∀ v ∈ bt.2.2.2.1, 0 ≤ v ∧ v ≤ bt.2.2.1) ∧ 0 ≤ bt.2.2.2.2 := by
  obtain ⟨r, h1, h1a, h1b⟩ := pick_o t s [255, 255, 65535, 1, 7] hs ht (by simp) (by simp)
  have hr : 1 ≤ r.1 ∧ r.1 ≤ 65535 := by
    simp only [List.mem_cons, List.not_mem_nil, or_false] at h1a
    clear h1
    omega
  obtain ⟨m0, m1⟩ := mul_bd (x := a) (y := b) (B := 30) (C := 30) (by omega) (by omega) ha' hb'
  unfold tilefarmgen_Tape_Sized.f
  rw [h1, Option.bind_some, wrap_in (n := a * b) (by omega) (by omega), if_pos m0, if_pos (show (a * b : Int).toNat ≤ 35184372088832 by omega)]
  obtain ⟨bt, g1, g2, g3, g4, g5, g6, g7⟩ := sized_loop t ht a b r.1 hr.1 (by omega) (a * b : Int).toNat K 0 r.2 (List.replicate (a * b : Int).toNat 0) h1b (by rw [List.length_replicate]; omega) (by rw [List.length_replicate]; omega) (by omega) (fun v hv => by rw [List.eq_of_mem_replicate hv]; omega)
  rw [List.length_replicate] at g5
  exact ⟨bt, g1, g2, g3, by rw [g4]; exact hr.1, by rw [g4]; exact hr.2, by rw [g5]; omega, by rw [g4]; exact g6, g7⟩

theorem plane_spec (K : Nat) (hK : 2000 ≤ K) (t : List Int) (ht : t.length ≤ 4611686018427387904) (s : Int) (hs : 0 ≤ s) :
    ∃ bt, tilefarmgen_Tape_Plane.f K t s = some bt ∧ 1 ≤ bt.1 ∧ bt.1 ≤ 6 ∧ 1 ≤ bt.2.1 ∧ bt.2.1 ≤ 5 ∧ 1 ≤ bt.2.2.1 ∧ bt.2.2.1 ≤ 65535 ∧ (bt.2.2.2.1.length : Int) = bt.1 * bt.2.1 ∧ (∀ v ∈ bt.2.2.2.1, 0 ≤ v ∧ v ≤ bt.2.2.1) ∧ 0 ≤ bt.2.2.2.2 := by
  obtain ⟨r1, h1, h1a, h1b, h1c⟩ := next_o t s 6 hs ht (by omega) (by omega)
  obtain ⟨r2, h2, h2a, h2b, h2c⟩ := next_o t r1.2 5 h1c ht (by omega) (by omega)
  obtain ⟨bt, g1, g2, g3, g4, g5, g6, g7, g8⟩ := sized_spec K hK t ht r2.2 (1 + r1.1) (1 + r2.1) h2c (by omega) (by omega) (by omega) (by omega)
  refine ⟨bt, ?_, by omega, by omega, by omega, by omega, g4, g5, by rw [g6, g2, g3], g7, g8⟩
  unfold tilefarmgen_Tape_Plane.f
  rw [h1, Option.bind_some, h2, Option.bind_some, wrap_in (n := 1 + r1.1) (by omega) (by omega), wrap_in (n := 1 + r2.1) (by omega) (by omega), g1, Option.bind_some]

theorem plane_PV {a b m : Int} {l : List Int} (h1 : 1 ≤ a) (h2 : a ≤ 6) (h3 : 1 ≤ b) (h4 : b ≤ 5) (h5 : 1 ≤ m) (h6 : m ≤ 65535) (h7 : (l.length : Int) = a * b) (h8 : ∀ v ∈ l, 0 ≤ v ∧ v ≤ m) : PV a b m l ∧ l.length ≤ 30 := by
  obtain ⟨m0, m1⟩ := mul_bd (x := a) (y := b) (B := 6) (C := 5) (by omega) (by omega) h2 h4
  exact ⟨⟨⟨h1, by omega, h3, by omega, by omega, h5, by omega⟩, h7, h8⟩, by omega⟩


theorem spoil_o (t : List Int) (ht : t.length ≤ 4611686018427387904) (s a b m : Int) (l : List Int) (hs : 0 ≤ s) (hl : l.length ≤ 1000) :
    ∃ bt, tilefarmgen_Tape_SpoilPlane.f t s a b m l = some bt ∧ bt.2.2.2.1.length ≤ l.length + 1 ∧ 0 ≤ bt.2.2.2.2 := by
  obtain ⟨r, h1, h1a, h1b, h1c⟩ := next_o t s 6 hs ht (by omega) (by omega)
  unfold tilefarmgen_Tape_SpoilPlane.f
  rw [Option.bind_some, if_pos (show ([] : List Int).length + l.length < 17592186044416 by rw [List.length_nil]; omega), Option.bind_some, h1, Option.bind_some, List.nil_append]
  by_cases c0 : r.1 = 0
  · rw [if_pos c0]
    obtain ⟨q, g1, g2, g3⟩ := pick_o t r.2 [0, wrap64 (a + 1), -1, 129] h1c ht (by simp) (by simp)
    rw [g1, Option.bind_some]
    exact ⟨_, rfl, Nat.le_succ _, g3⟩
  · rw [if_neg c0]
    by_cases c1 : r.1 = 1
    · rw [if_pos c1]
      obtain ⟨q, g1, g2, g3⟩ := pick_o t r.2 [0, wrap64 (b + 1), 4611686018427387904] h1c ht (by simp) (by simp)
      rw [g1, Option.bind_some]
      exact ⟨_, rfl, Nat.le_succ _, g3⟩
    · rw [if_neg c1]
      by_cases c2 : r.1 = 2
      · rw [if_pos c2]
        obtain ⟨q, g1, g2, g3⟩ := pick_o t r.2 [0, 4294967297, -1, 3] h1c ht (by simp) (by simp)
        rw [g1, Option.bind_some]
        exact ⟨_, rfl, Nat.le_succ _, g3⟩
      · rw [if_neg c2]
        by_cases c3 : r.1 = 3
        · rw [if_pos c3, if_pos (show l.length < 17592186044416 by omega)]
          exact ⟨_, rfl, by simp, h1c⟩
        · rw [if_neg c3]
          by_cases c4 : r.1 = 4
          · rw [if_pos c4]
            by_cases c5 : (l.length : Int) > 0
            · rw [if_pos c5]
              obtain ⟨q, g1, g2, g3, g4⟩ := next_o t r.2 (l.length : Int) h1c ht c5 (by omega)
              obtain ⟨z, f1, f2, f3⟩ := pick_o t q.2 [-1, wrap64 (m + 1), m] g4 ht (by simp) (by simp)
              rw [g1, Option.bind_some, f1, Option.bind_some, if_pos g2, if_pos g3]
              exact ⟨_, rfl, by simp, f3⟩
            · rw [if_neg c5]
              exact ⟨_, rfl, Nat.le_succ _, h1c⟩
          · rw [if_neg c4]
            exact ⟨_, rfl, by simp, h1c⟩


theorem within_spec (l : List Int) (s w h : Int) (hs : 0 ≤ s) (hl : l.length ≤ 4611686018427387904) (hw : 0 < w) (hw2 : w ≤ 1000000) (hh : 0 < h) (hh2 : h ≤ 1000000) :
    ∃ a b c d s', tilefarmgen_Tape_Within.f l s w h = some (a, b, c, d, s') ∧ 0 ≤ s' ∧ 0 ≤ a ∧ a < c ∧ c ≤ w ∧ 0 ≤ b ∧ b < d ∧ d ≤ h := by
  obtain ⟨r1, s1, h1, h1a, h1b, h1c⟩ := next_spec l s w hs hl (by omega) (by omega)
  obtain ⟨r2, s2, h2, h2a, h2b, h2c⟩ := next_spec l s1 h h1c hl (by omega) (by omega)
  obtain ⟨r3, s3, h3, h3a, h3b, h3c⟩ := next_spec l s2 (w - r1) h2c hl (by omega) (by omega)
  obtain ⟨r4, s4, h4, h4a, h4b, h4c⟩ := next_spec l s3 (h - r2) h3c hl (by omega) (by omega)
  refine ⟨r1, r2, r1 + 1 + r3, r2 + 1 + r4, s4, ?_, h4c, h1a, by omega, by omega, h2a, by omega, by omega⟩
  unfold tilefarmgen_Tape_Within.f
  simp only [h1, h2, Option.bind_some]
  rw [wrap_in (n := w - r1) (by omega) (by omega), h3]
  simp only [Option.bind_some]
  rw [wrap_in (n := h - r2) (by omega) (by omega), h4]
  simp only [Option.bind_some]
  rw [wrap_in (n := r1 + 1) (by omega) (by omega), wrap_in (n := r1 + 1 + r3) (by omega) (by omega), wrap_in (n := r2 + 1) (by omega) (by omega), wrap_in (n := r2 + 1 + r4) (by omega) (by omega)]


theorem bin_val (v m n : Int) (hv : 0 ≤ v) (hv' : v ≤ m) (hm : 1 ≤ m) (hm' : m ≤ 4294967296) (hn : 1 ≤ n) (hn' : n ≤ 128) :
    wrap64 (m + 1) = m + 1 ∧ wrap64 (Int.tdiv (wrap64 (v * n)) (m + 1)) = v * n / (m + 1) ∧ 0 ≤ v * n / (m + 1) ∧ v * n / (m + 1) < n := by
  obtain ⟨b0, b1⟩ := mul_bd (x := v) (y := n) (B := 4294967296) (C := 128) hv (by omega) (by omega) hn'
  have q0 : 0 ≤ v * n / (m + 1) := Int.ediv_nonneg b0 (by omega)
  have q1 : v * n / (m + 1) ≤ v * n := Int.ediv_le_self _ b0
  refine ⟨wrap_in (by omega) (by omega), ?_, q0, ?_⟩
  · rw [wrap_in (n := v * n) (by omega) (by omega), Int.tdiv_eq_ediv_of_nonneg b0, wrap_in (by omega) (by omega)]
  · refine Int.ediv_lt_of_lt_mul (by omega) ?_
    rw [Int.mul_comm n]
    exact Int.mul_lt_mul_of_pos_right (by omega) (by omega)

theorem between_val (a b c : Int) : histogram_between.f a b c = some (decide (b ≤ a ∧ a ≤ c)) := by
  unfold histogram_between.f
  by_cases h : a ≥ b
  · rw [if_pos h]; exact sd_iff ⟨fun g => ⟨h, g⟩, fun g => g.2⟩
  · rw [if_neg h]; exact sd_false (fun g => h g.1)

theorem bin_p {v m n : Int} (hv : 0 ≤ v) (hv' : v ≤ m) (hm : 1 ≤ m) (hm' : m ≤ 4294967296) (hn : 1 ≤ n) (hn' : n ≤ 128) : histogram_Bin.f v m n = some (v * n / (m + 1)) := by
  obtain ⟨w1, w2, w3, w4⟩ := bin_val v m n hv hv' hm hm' hn hn'
  unfold histogram_Bin.f
  rw [between_val, Option.bind_some, decide_eq_true (show 1 ≤ m ∧ m ≤ 4294967296 from ⟨hm, hm'⟩), if_pos rfl, between_val, Option.bind_some, decide_eq_true (show 0 ≤ v ∧ v ≤ m from ⟨hv, hv'⟩), if_pos rfl, between_val, Option.bind_some, decide_eq_true (show 1 ≤ n ∧ n ≤ 128 from ⟨hn, hn'⟩), if_pos rfl, w1, if_neg (show ¬ m + 1 = 0 by omega), w2]

/-- One more in the bin of a pixel. -/
def bump (m n : Int) (o : List Int) (v : Int) : List Int := o.set (v * n / (m + 1)).toNat (wrap64 (rd o (v * n / (m + 1)) + 1))
/-- The counts behind some pixels. -/
def fill (m n : Int) (o vs : List Int) : List Int := vs.foldl (bump m n) o

theorem fill_len (m n : Int) : ∀ (vs o : List Int), (fill m n o vs).length = o.length
  | [], _ => rfl
  | v :: vs, o => by
    have := fill_len m n vs (bump m n o v)
    rw [show fill m n o (v :: vs) = fill m n (bump m n o v) vs from rfl, this]
    simp [bump]

/-- The pixels of a row of a rectangle. -/
def rowl (W : Int) (P : List Int) (x0 x1 y : Int) : List Int := (P.take (y * W + x1).toNat).drop (y * W + x0).toNat
/-- The pixels of some rows of a rectangle. -/
def rowsl (W : Int) (P : List Int) (x0 x1 : Int) : Nat → Int → List Int
  | 0, _ => []
  | d + 1, y => rowl W P x0 x1 y ++ rowsl W P x0 x1 d (y + 1)

theorem rowl_len {W : Int} {P : List Int} {x0 x1 y : Int} (h0 : 0 ≤ y * W) (h1 : 0 ≤ x0) (h2 : x0 ≤ x1) (h3 : y * W + x1 ≤ (P.length : Int)) : (rowl W P x0 x1 y).length = (x1 - x0).toNat := by
  unfold rowl
  rw [List.length_drop, List.length_take]
  omega

theorem rowl_mem {W : Int} {P : List Int} {x0 x1 y v : Int} (h : v ∈ rowl W P x0 x1 y) : v ∈ P := List.mem_of_mem_take (List.mem_of_mem_drop h)

theorem rowsl_mem {W : Int} {P : List Int} {x0 x1 v : Int} : ∀ (d : Nat) (y : Int), v ∈ rowsl W P x0 x1 d y → v ∈ P
  | 0, _, h => by simp [rowsl] at h
  | d + 1, y, h => by
    rcases List.mem_append.1 h with h | h
    · exact rowl_mem h
    · exact rowsl_mem d (y + 1) h

theorem row_in {y W H : Int} (h0 : 0 ≤ y) (h1 : y < H) (hW : 0 ≤ W) : 0 ≤ y * W ∧ y * W + W ≤ W * H := by
  refine ⟨Int.mul_nonneg h0 hW, ?_⟩
  have := Int.mul_le_mul_of_nonneg_right (show y + 1 ≤ H by omega) hW
  rw [Int.add_mul, Int.one_mul, Int.mul_comm H W] at this
  exact this

theorem prow {m n : Int} (hm : 1 ≤ m) (hm' : m ≤ 4294967296) (hn : 1 ≤ n) (hn' : n ≤ 128) (y W H x0 y0 x1 y1 : Int) (P row : List Int) (hr : ∀ v ∈ row, 0 ≤ v ∧ v ≤ m) (hl : row.length ≤ 100000) :
    ∀ (d k j : Nat) (o : List Int), j + d = row.length → (o.length : Int) = n → histogram_Partial.l1 (k + d + 1) n o y row (row.length : Int) (j : Int) W H m P x0 y0 x1 y1 = histogram_Partial.l0 k n (fill m n o (row.drop j)) (wrap64 (y + 1)) W H m P x0 y0 x1 y1
  | 0, k, j, o, hj, ho => by
    rw [histogram_Partial.l1, if_neg (show ¬ (j : Int) < (row.length : Int) by omega), List.drop_eq_nil_of_le (by omega)]
    rfl
  | d + 1, k, j, o, hj, ho => by
    obtain ⟨g1, g2⟩ := hr _ (rd_mem row j (by omega))
    obtain ⟨w1, w2, w3, w4⟩ := bin_val _ m n g1 g2 hm hm' hn hn'
    have ih := prow hm hm' hn hn' y W H x0 y0 x1 y1 P row hr hl d k (j + 1) (bump m n o (rd row (j : Int))) (by omega) (by unfold bump; rw [List.length_set]; exact ho)
    rw [rd_drop row j (by omega), show k + (d + 1) + 1 = (k + d + 1) + 1 from rfl, histogram_Partial.l1]
    simp only [if_pos (show (j : Int) < (row.length : Int) by omega), if_pos (show 0 ≤ (j : Int) by omega)]
    rw [bin_p g1 g2 hm hm' hn hn', Option.bind_some, if_pos w3, if_pos (show _ < (o.length : Int) by rw [ho]; exact w4), wrap_in (n := (j : Int) + 1) (by omega) (by omega)]
    exact ih

theorem prows {m n : Int} (hm : 1 ≤ m) (hm' : m ≤ 4294967296) (hn : 1 ≤ n) (hn' : n ≤ 128) (W H x0 y0 x1 y1 : Int) (P : List Int) (hP : ∀ v ∈ P, 0 ≤ v ∧ v ≤ m) (hW : W * H ≤ 4096) (hl : (P.length : Int) = W * H) (h0 : 0 ≤ x0) (h1 : x0 < x1) (h2 : x1 ≤ W) (h4 : y1 ≤ H) (hH : H ≤ 128) :
    ∀ (d k : Nat) (y : Int) (o : List Int), 0 ≤ y → (y1 - y).toNat = d → (o.length : Int) = n → histogram_Partial.l0 (k + d * ((x1 - x0).toNat + 2) + 1) n o y W H m P x0 y0 x1 y1 = some (fill m n o (rowsl W P x0 x1 d y), 0)
  | 0, k, y, o, hy, hd, ho => by
    rw [histogram_Partial.l0, if_neg (show ¬ y < y1 by omega)]
    rfl
  | d + 1, k, y, o, hy, hd, ho => by
    obtain ⟨a0, a1⟩ := row_in (y := y) (W := W) (H := H) hy (by omega) (by omega)
    have hlen := rowl_len (W := W) (P := P) (x0 := x0) (x1 := x1) (y := y) a0 h0 (by omega) (by omega)
    have ih := prows hm hm' hn hn' W H x0 y0 x1 y1 P hP hW hl h0 h1 h2 h4 hH d k (y + 1) (fill m n o (rowl W P x0 x1 y)) (by omega) (by omega) (by rw [fill_len]; exact ho)
    have hf : k + (d + 1) * ((x1 - x0).toNat + 2) + 1 = (k + d * ((x1 - x0).toNat + 2) + 1) + (x1 - x0).toNat + 1 + 1 := by rw [Nat.add_mul]; omega
    rw [hf, histogram_Partial.l0, if_pos (show y < y1 by omega), wrap_in (n := y * W) (by omega) (by omega), wrap_in (n := y * W + x0) (by omega) (by omega), wrap_in (n := y * W + x1) (by omega) (by omega), if_pos (show 0 ≤ y * W + x0 by omega), if_pos (show y * W + x0 ≤ y * W + x1 by omega), if_pos (show y * W + x1 ≤ (P.length : Int) by omega)]
    have hr := prow hm hm' hn hn' y W H x0 y0 x1 y1 P (rowl W P x0 x1 y) (fun v hv => hP v (rowl_mem hv)) (by omega) (x1 - x0).toNat (k + d * ((x1 - x0).toNat + 2) + 1) 0 o (by omega) ho
    rw [wrap_in (n := y + 1) (by omega) (by omega), List.drop_zero] at hr
    refine hr.trans (ih.trans ?_)
    rw [rowsl, fill, fill, fill, List.foldl_append]

/-- The rectangle is full and in the plane. -/
abbrev IN (W H x0 y0 x1 y1 : Int) : Prop := 0 ≤ x0 ∧ x0 < x1 ∧ x1 ≤ W ∧ 0 ≤ y0 ∧ y0 < y1 ∧ y1 ≤ H

theorem inside_p (k : Nat) {W H : Int} (hW : 1 ≤ W) (hW' : W ≤ 128) (hH : 1 ≤ H) (hH' : H ≤ 128) {a b c d : Int} (hz : ¬ (a = 0 ∧ b = 0 ∧ c = 0 ∧ d = 0)) : rect_Inside.f (k + 1) a b c d 0 0 W H = some (decide (IN W H a b c d)) := by
  have hb : V 0 0 W H := .inr (by omega)
  unfold rect_Inside.f
  rw [valid_eq, Option.bind_some]
  by_cases ha : V a b c d
  · rw [decide_eq_true ha, if_pos rfl, valid_eq, Option.bind_some, decide_eq_true hb, if_pos rfl, intersect_eq, Option.bind_some]
    simp only [ix, mx_max, mn_min]
    by_cases h : max a 0 < min c W ∧ max b 0 < min d H
    · rw [if_pos ⟨ha, hb, h.1, h.2⟩]
      congr 1
      rw [Bool.eq_iff_iff]
      simp only [Bool.and_eq_true, beq_iff_eq, decide_eq_true_eq]
      omega
    · rw [if_neg (fun g => h g.2.2)]
      congr 1
      rw [Bool.eq_iff_iff]
      simp only [Bool.and_eq_true, beq_iff_eq, decide_eq_true_eq]
      omega
  · rw [decide_eq_false ha, if_neg Bool.false_ne_true]
    exact sd_false (fun g => ha (.inr (by omega)))

open Classical in
/-- What Partial answers. -/
noncomputable def part (W H m : Int) (P : List Int) (n x0 y0 x1 y1 : Int) : List Int × Int :=
  if PV W H m P then (if 1 ≤ n ∧ n ≤ 128 then (if IN W H x0 y0 x1 y1 then (fill m n (List.replicate n.toNat 0) (rowsl W P x0 x1 (y1 - y0).toNat y0), 0) else ([], 8)) else ([], 9)) else ([], 1)

theorem part_p (K : Nat) (W H m : Int) (P : List Int) (n x0 y0 x1 y1 : Int) (hl : P.length ≤ 4611686018427387904) (hK : P.length + 20000 ≤ K) : histogram_Partial.f K W H m P n x0 y0 x1 y1 = some (part W H m P n x0 y0 x1 y1) := by
  unfold histogram_Partial.f part
  rw [pvalid_spec K W H m P hl (by omega), Option.bind_some]
  obtain ⟨K, rfl⟩ : ∃ q, K = q + 1 := ⟨K - 1, by omega⟩
  by_cases hV : PV W H m P
  · rw [decide_eq_true hV, if_pos rfl, if_pos hV, between_val, Option.bind_some]
    obtain ⟨⟨s1, s2, s3, s4, s5, s6, s7⟩, s8, s9⟩ := hV
    by_cases hn : 1 ≤ n ∧ n ≤ 128
    · rw [decide_eq_true hn, if_pos rfl, if_pos hn, empty_eq, Option.bind_some]
      by_cases hz : x0 = 0 ∧ y0 = 0 ∧ x1 = 0 ∧ y1 = 0
      · rw [decide_eq_true hz, if_pos rfl, if_neg (show ¬ IN W H x0 y0 x1 y1 by omega)]
        simp only [histogram_Partial.j0, if_true]
      · rw [decide_eq_false hz, if_neg Bool.false_ne_true, inside_p K s1 s2 s3 s4 hz, Option.bind_some]
        simp only [histogram_Partial.j0]
        by_cases hI : IN W H x0 y0 x1 y1
        · obtain ⟨i1, i2, i3, i4, i5, i6⟩ := hI
          have hb : (y1 - y0).toNat * ((x1 - x0).toNat + 2) ≤ 128 * 130 := Nat.mul_le_mul (by omega) (by omega)
          obtain ⟨k, hk⟩ : ∃ k, K = k + (y1 - y0).toNat * ((x1 - x0).toNat + 2) + 1 := ⟨K - (y1 - y0).toNat * ((x1 - x0).toNat + 2) - 1, by omega⟩
          rw [decide_eq_true (show IN W H x0 y0 x1 y1 from ⟨i1, i2, i3, i4, i5, i6⟩), if_neg (show ¬ (!true) = true by decide), if_pos (show 0 ≤ n by omega), if_pos (show n.toNat ≤ 35184372088832 by omega), if_pos ⟨i1, i2, i3, i4, i5, i6⟩, hk]
          exact prows s6 s7 hn.1 hn.2 W H x0 y0 x1 y1 P s9 s5 s8 i1 i2 i3 i6 s4 _ k y0 _ i4 rfl (by rw [List.length_replicate]; omega)
        · rw [decide_eq_false hI, if_pos (show (!false) = true from rfl), if_neg hI]
    · rw [decide_eq_false hn, if_neg Bool.false_ne_true, if_neg hn]
  · rw [decide_eq_false hV, if_neg Bool.false_ne_true, if_neg hV]

noncomputable def whole (W H m : Int) (P : List Int) (n : Int) : Int × Int × Int × List Int × Int :=
  if (part W H m P n 0 0 W H).2 = 0 then (n, 1, wrap64 (W * H), (part W H m P n 0 0 W H).1, 0) else (0, 0, 0, [], (part W H m P n 0 0 W H).2)

theorem whole_p (K : Nat) (W H m : Int) (P : List Int) (n : Int) (hl : P.length ≤ 4611686018427387904) (hK : P.length + 20000 ≤ K) : histogram_Whole.f K W H m P n = some (whole W H m P n) := by
  unfold histogram_Whole.f whole
  rw [part_p K W H m P n 0 0 W H hl hK, Option.bind_some]
  by_cases h : (part W H m P n 0 0 W H).2 = 0
  · rw [if_pos h, if_pos h]
  · rw [if_neg h, if_neg h]


/-- Both programs give the same bin, and a bin that is there where the numbers are in their limits. -/
theorem bin_both (v m n : Int) : ∃ b, histogram_Bin.f v m n = some b ∧ tilefarmref12_Bin.f v m n = some b ∧ (0 ≤ v → v ≤ m → 1 ≤ m → m ≤ 4294967296 → 1 ≤ n → n ≤ 128 → 0 ≤ b ∧ b < n) := by
  unfold histogram_Bin.f histogram_between.f tilefarmref12_Bin.f tilefarmref12_Bins.f
  by_cases c1 : m < 1
  · rw [if_pos c1, if_neg (show ¬ m ≥ 1 by omega), Option.bind_some, if_neg (show ¬ (false = true) by decide)]
    exact ⟨0, rfl, rfl, fun _ _ _ _ _ _ => by omega⟩
  · rw [if_neg c1, if_pos (show m ≥ 1 by omega), Option.bind_some]
    by_cases c2 : m > 4294967296
    · rw [if_pos c2, decide_eq_false (show ¬ m ≤ 4294967296 by omega), if_neg (show ¬ (false = true) by decide)]
      exact ⟨0, rfl, rfl, fun _ _ _ _ _ _ => by omega⟩
    · rw [if_neg c2, decide_eq_true (show m ≤ 4294967296 by omega), if_pos rfl]
      by_cases c3 : v < 0
      · rw [if_pos c3, if_neg (show ¬ v ≥ 0 by omega), Option.bind_some, if_neg (show ¬ (false = true) by decide)]
        exact ⟨0, rfl, rfl, fun _ _ _ _ _ _ => by omega⟩
      · rw [if_neg c3, if_pos (show v ≥ 0 by omega), Option.bind_some]
        by_cases c4 : v > m
        · rw [if_pos c4, decide_eq_false (show ¬ v ≤ m by omega), if_neg (show ¬ (false = true) by decide)]
          exact ⟨0, rfl, rfl, fun _ _ _ _ _ _ => by omega⟩
        · rw [if_neg c4, decide_eq_true (show v ≤ m by omega), if_pos rfl]
          by_cases c5 : n ≥ 1
          · rw [if_pos c5, Option.bind_some]
            by_cases c6 : n ≤ 128
            · obtain ⟨w1, w2, w3, w4⟩ := bin_val v m n (by omega) (by omega) (by omega) (by omega) c5 c6
              rw [decide_eq_true c6, if_pos rfl, w1, if_neg (show ¬ m + 1 = 0 by omega), w2]
              exact ⟨_, rfl, rfl, fun _ _ _ _ _ _ => ⟨w3, w4⟩⟩
            · rw [decide_eq_false c6, if_neg (show ¬ (false = true) by decide)]
              exact ⟨0, rfl, rfl, fun _ _ _ _ _ _ => by omega⟩
          · rw [if_neg c5, Option.bind_some, if_neg (show ¬ (false = true) by decide)]
            exact ⟨0, rfl, rfl, fun _ _ _ _ _ _ => by omega⟩

theorem vloop_eq : ∀ (k : Nat) (l : List Int) (i a b m : Int), plane_Valid.l0 k l (l.length : Int) i a b m l = tilefarmref4_Valid.l0 k i a b m l
  | 0, _, _, _, _, _ => rfl
  | k + 1, l, i, a, b, m => by
    simp only [plane_Valid.l0, tilefarmref4_Valid.l0]
    by_cases c1 : i < (l.length : Int)
    · by_cases c2 : 0 ≤ i
      · simp only [if_pos c1, if_pos c2, vloop_eq k]
      · simp only [if_pos c1, if_neg c2]
    · simp only [if_neg c1]

theorem size_eq (a b m : Int) : plane_size.f a b m = tilefarmref4_Size.f a b m := by
  unfold plane_size.f tilefarmref4_Size.f
  by_cases c1 : a ≥ 1
  · by_cases c2 : a ≤ 128
    · by_cases c3 : b ≥ 1
      · by_cases c4 : b ≤ 128
        · obtain ⟨b0, b1⟩ := mul_bd (x := a) (y := b) (B := 128) (C := 128) (by omega) (by omega) c2 c4
          have hq : b ≤ 4096 / a ↔ b * a ≤ 4096 := Int.le_ediv_iff_mul_le (by omega)
          have q0 : 0 ≤ 4096 / a := Int.ediv_nonneg (by decide) (by omega)
          have q1 : 4096 / a ≤ 4096 := Int.ediv_le_self _ (by decide)
          rw [Int.mul_comm b a] at hq
          unfold extent_Mul.f
          rw [if_neg (show ¬ a < 0 by omega), if_neg (show ¬ b < 0 by omega), if_neg (show ¬ (4096 : Int) < 0 by decide), if_neg (show ¬ a = 0 by omega), Int.tdiv_eq_ediv_of_nonneg (by decide), wrap_in (n := 4096 / a) (by omega) (by omega), wrap_in (n := a * b) (by omega) (by omega)]
          simp only [if_pos c1, if_pos c2, if_pos c3, if_pos c4]
          by_cases c5 : b > 4096 / a
          · rw [if_pos c5, if_neg (show ¬ a * b ≤ 4096 by omega)]; rfl
          · rw [if_neg c5, if_pos (show a * b ≤ 4096 by omega)]; rfl
        · obtain ⟨p, hp⟩ := mul_some a b 4096
          rw [hp, Option.bind_some]
          simp only [if_pos c1, if_pos c2, if_pos c3, if_neg c4, ite_self]
      · obtain ⟨p, hp⟩ := mul_some a b 4096
        rw [hp, Option.bind_some]
        simp only [if_pos c1, if_pos c2, if_neg c3, ite_self]
    · obtain ⟨p, hp⟩ := mul_some a b 4096
      rw [hp, Option.bind_some]
      simp only [if_pos c1, if_neg c2, ite_self]
  · obtain ⟨p, hp⟩ := mul_some a b 4096
    rw [hp, Option.bind_some]
    simp only [if_neg c1, ite_self]

theorem pvalid_same (k : Nat) (a b m : Int) (l : List Int) : plane_Valid.f k a b m l = tilefarmref4_Valid.f k a b m l := by
  have hj : ∀ k t, plane_Valid.j0 k t a b m l = tilefarmref4_Valid.j0 k t a b m l := by
    intro k t
    cases k with
    | zero => rfl
    | succ k => simp only [plane_Valid.j0, tilefarmref4_Valid.j0, vloop_eq k]
  unfold plane_Valid.f tilefarmref4_Valid.f
  rw [size_eq]
  simp only [hj]

theorem bin_r {v m n : Int} (hv : 0 ≤ v) (hv' : v ≤ m) (hm : 1 ≤ m) (hm' : m ≤ 4294967296) (hn : 1 ≤ n) (hn' : n ≤ 128) : tilefarmref12_Bin.f v m n = some (v * n / (m + 1)) := by
  obtain ⟨b, h1, h2, _⟩ := bin_both v m n
  rw [h2, ← h1, bin_p hv hv' hm hm' hn hn']

theorem rd_take_drop {P : List Int} {A B i : Nat} (h : A + i < B) (hB : B ≤ P.length) : ((P.take B).drop A).drop i = rd P ((A + i : Nat) : Int) :: ((P.take B).drop A).drop (i + 1) := by
  rw [rd_drop ((P.take B).drop A) i (by rw [List.length_drop, List.length_take]; omega)]
  congr 1
  simp only [rd, Int.toNat_natCast, List.getD_eq_getElem?_getD, List.getElem?_drop, List.getElem?_take]
  rw [if_pos h]

theorem rrow {m n : Int} (hm : 1 ≤ m) (hm' : m ≤ 4294967296) (hn : 1 ≤ n) (hn' : n ≤ 128) (y W H x0 y0 x1 y1 : Int) (P : List Int) (hP : ∀ v ∈ P, 0 ≤ v ∧ v ≤ m) (h0 : 0 ≤ y * W) (h1 : 0 ≤ x0) (h3 : y * W + x1 ≤ (P.length : Int)) (hl : P.length ≤ 100000) :
    ∀ (d k i : Nat) (x : Int) (o : List Int), x = x0 + (i : Int) → x + (d : Int) = x1 → (o.length : Int) = n → tilefarmref12_Partial.l1 (k + d + 1) n o y x W H m P x0 y0 x1 y1 = tilefarmref12_Partial.l0 k n (fill m n o ((rowl W P x0 x1 y).drop i)) (wrap64 (y + 1)) W H m P x0 y0 x1 y1
  | 0, k, i, x, o, hx, hd, ho => by
    rw [tilefarmref12_Partial.l1, if_neg (show ¬ x < x1 by omega), List.drop_eq_nil_of_le (by rw [rowl_len h0 h1 (by omega) h3]; omega)]
    rfl
  | d + 1, k, i, x, o, hx, hd, ho => by
    have hq : (((y * W + x0).toNat + i : Nat) : Int) = y * W + x := by omega
    have hrow := rd_take_drop (P := P) (A := (y * W + x0).toNat) (B := (y * W + x1).toNat) (i := i) (by omega) (by omega)
    have hmem := rd_mem P ((y * W + x0).toNat + i) (by omega)
    rw [hq] at hrow hmem
    obtain ⟨g1, g2⟩ := hP _ hmem
    obtain ⟨w1, w2, w3, w4⟩ := bin_val _ m n g1 g2 hm hm' hn hn'
    have ih := rrow hm hm' hn hn' y W H x0 y0 x1 y1 P hP h0 h1 h3 hl d k (i + 1) (x + 1) (bump m n o (rd P (y * W + x))) (by omega) (by omega) (by unfold bump; rw [List.length_set]; exact ho)
    unfold rowl at ih ⊢
    rw [hrow, show k + (d + 1) + 1 = (k + d + 1) + 1 from rfl, tilefarmref12_Partial.l1, if_pos (show x < x1 by omega), wrap_in (n := y * W) (by omega) (by omega), wrap_in (n := y * W + x) (by omega) (by omega), if_pos (show 0 ≤ y * W + x by omega), if_pos (show y * W + x < (P.length : Int) by omega), bin_r g1 g2 hm hm' hn hn', Option.bind_some, if_pos w3, if_pos (show _ < (o.length : Int) by rw [ho]; exact w4), wrap_in (n := x + 1) (by omega) (by omega)]
    exact ih

theorem rrows {m n : Int} (hm : 1 ≤ m) (hm' : m ≤ 4294967296) (hn : 1 ≤ n) (hn' : n ≤ 128) (W H x0 y0 x1 y1 : Int) (P : List Int) (hP : ∀ v ∈ P, 0 ≤ v ∧ v ≤ m) (hW : W * H ≤ 4096) (hl : (P.length : Int) = W * H) (h0 : 0 ≤ x0) (h1 : x0 < x1) (h2 : x1 ≤ W) (h4 : y1 ≤ H) (hH : H ≤ 128) :
    ∀ (d k : Nat) (y : Int) (o : List Int), 0 ≤ y → (y1 - y).toNat = d → (o.length : Int) = n → tilefarmref12_Partial.l0 (k + d * ((x1 - x0).toNat + 2) + 1) n o y W H m P x0 y0 x1 y1 = some (fill m n o (rowsl W P x0 x1 d y), 0)
  | 0, k, y, o, hy, hd, ho => by
    rw [tilefarmref12_Partial.l0, if_neg (show ¬ y < y1 by omega)]
    rfl
  | d + 1, k, y, o, hy, hd, ho => by
    obtain ⟨a0, a1⟩ := row_in (y := y) (W := W) (H := H) hy (by omega) (by omega)
    have ih := rrows hm hm' hn hn' W H x0 y0 x1 y1 P hP hW hl h0 h1 h2 h4 hH d k (y + 1) (fill m n o (rowl W P x0 x1 y)) (by omega) (by omega) (by rw [fill_len]; exact ho)
    have hf : k + (d + 1) * ((x1 - x0).toNat + 2) + 1 = (k + d * ((x1 - x0).toNat + 2) + 1) + (x1 - x0).toNat + 1 + 1 := by rw [Nat.add_mul]; omega
    rw [hf, tilefarmref12_Partial.l0, if_pos (show y < y1 by omega)]
    have hr := rrow hm hm' hn hn' y W H x0 y0 x1 y1 P hP a0 h0 (by omega) (by omega) (x1 - x0).toNat (k + d * ((x1 - x0).toNat + 2) + 1) 0 x0 o (by omega) (by omega) ho
    rw [wrap_in (n := y + 1) (by omega) (by omega), List.drop_zero] at hr
    refine hr.trans (ih.trans ?_)
    rw [rowsl, fill, fill, fill, List.foldl_append]

theorem inside_r {W H : Int} (hW : 1 ≤ W) (hW' : W ≤ 128) (hH : 1 ≤ H) (hH' : H ≤ 128) {a b c d : Int} (ha : V a b c d) (hz : ¬ (a = 0 ∧ b = 0 ∧ c = 0 ∧ d = 0)) : tilefarmref2_Inside.f a b c d 0 0 W H = some (decide (IN W H a b c d)) := by
  have hb : V 0 0 W H := .inr (by omega)
  unfold tilefarmref2_Inside.f tilefarmref2_Empty.f
  rw [ref_valid_eq, Option.bind_some, decide_eq_true ha, if_pos rfl, ref_valid_eq, Option.bind_some, decide_eq_true hb, if_pos rfl, Option.bind_some, if_neg (show ¬ (a == 0 && (b == 0 && (c == 0 && d == 0))) = true by simp only [Bool.and_eq_true, beq_iff_eq]; exact hz)]
  by_cases c1 : a ≥ 0
  · rw [if_pos c1]
    by_cases c2 : b ≥ 0
    · rw [if_pos c2]
      by_cases c3 : c ≤ W
      · rw [if_pos c3]; exact sd_iff ⟨fun h => by omega, fun h => by omega⟩
      · rw [if_neg c3]; exact sd_false (fun h => by omega)
    · rw [if_neg c2]; exact sd_false (fun h => by omega)
  · rw [if_neg c1]; exact sd_false (fun h => by omega)

theorem part_r (K : Nat) (W H m : Int) (P : List Int) (n x0 y0 x1 y1 : Int) (hl : P.length ≤ 4611686018427387904) (hK : P.length + 20000 ≤ K) : tilefarmref12_Partial.f K W H m P n x0 y0 x1 y1 = some (part W H m P n x0 y0 x1 y1) := by
  unfold tilefarmref12_Partial.f part tilefarmref12_Bins.f
  rw [← pvalid_same, pvalid_spec K W H m P hl (by omega), Option.bind_some]
  by_cases hV : PV W H m P
  · rw [decide_eq_true hV, if_pos rfl, if_pos hV]
    obtain ⟨⟨s1, s2, s3, s4, s5, s6, s7⟩, s8, s9⟩ := hV
    by_cases hn1 : n ≥ 1
    · rw [if_pos hn1, Option.bind_some]
      by_cases hn2 : n ≤ 128
      · have hn : 1 ≤ n ∧ n ≤ 128 := ⟨hn1, hn2⟩
        rw [decide_eq_true hn2, if_pos rfl, if_pos hn]
        unfold tilefarmref2_Full.f tilefarmref4_Cover.f
        rw [ref_valid_eq, Option.bind_some]
        by_cases ha : V x0 y0 x1 y1
        · rw [decide_eq_true ha, if_pos rfl]
          unfold tilefarmref2_Empty.f
          rw [Option.bind_some]
          by_cases hz : x0 = 0 ∧ y0 = 0 ∧ x1 = 0 ∧ y1 = 0
          · obtain ⟨rfl, rfl, rfl, rfl⟩ := hz
            rw [Option.bind_some, if_neg (show ¬ (!((0 : Int) == 0 && ((0 : Int) == 0 && ((0 : Int) == 0 && (0 : Int) == 0)))) = true by decide), if_neg (show ¬ IN W H 0 0 0 0 by omega)]
          · have hz' : (x0 == 0 && (y0 == 0 && (x1 == 0 && y1 == 0))) = false := by rw [Bool.eq_false_iff]; simp only [ne_eq, Bool.and_eq_true, beq_iff_eq]; exact hz
            rw [Option.bind_some, hz', if_pos (show (!false) = true from rfl), Option.bind_some, inside_r s1 s2 s3 s4 ha hz, Option.bind_some]
            by_cases hI : IN W H x0 y0 x1 y1
            · obtain ⟨i1, i2, i3, i4, i5, i6⟩ := hI
              have hb : (y1 - y0).toNat * ((x1 - x0).toNat + 2) ≤ 128 * 130 := Nat.mul_le_mul (by omega) (by omega)
              obtain ⟨k, hk⟩ : ∃ k, K = k + (y1 - y0).toNat * ((x1 - x0).toNat + 2) + 1 := ⟨K - (y1 - y0).toNat * ((x1 - x0).toNat + 2) - 1, by omega⟩
              rw [decide_eq_true (show IN W H x0 y0 x1 y1 from ⟨i1, i2, i3, i4, i5, i6⟩), if_pos rfl, if_pos (show 0 ≤ n by omega), if_pos (show n.toNat ≤ 35184372088832 by omega), if_pos ⟨i1, i2, i3, i4, i5, i6⟩, hk]
              exact rrows s6 s7 hn.1 hn.2 W H x0 y0 x1 y1 P s9 s5 s8 i1 i2 i3 i6 s4 _ k y0 _ i4 rfl (by rw [List.length_replicate]; omega)
            · rw [decide_eq_false hI, if_neg Bool.false_ne_true, if_neg hI]
        · rw [decide_eq_false ha, if_neg Bool.false_ne_true, Option.bind_some, if_neg Bool.false_ne_true, if_neg (fun g => ha (.inr (by omega)))]
      · rw [decide_eq_false hn2, if_neg Bool.false_ne_true, if_neg (fun g => hn2 g.2)]
    · rw [if_neg hn1, Option.bind_some, if_neg Bool.false_ne_true, if_neg (fun g => hn1 g.1)]
  · rw [decide_eq_false hV, if_neg Bool.false_ne_true, if_neg hV]

theorem whole_r (K : Nat) (W H m : Int) (P : List Int) (n : Int) (hl : P.length ≤ 4611686018427387904) (hK : P.length + 20000 ≤ K) : tilefarmref12_Whole.f K W H m P n = some (whole W H m P n) := by
  unfold tilefarmref12_Whole.f whole tilefarmref4_Cover.f
  rw [Option.bind_some, part_r K W H m P n 0 0 W H hl hK, Option.bind_some]
  by_cases h : (part W H m P n 0 0 W H).2 = 0
  · rw [if_pos h, if_pos h]
  · rw [if_neg h, if_neg h]

theorem same_loop (L : List Int) (hL : L.length ≤ 100000) (d : Nat) : ∀ (k i : Nat), i + d = L.length → d < k → tilefarmref4_Same.l0 k L L (i : Int) = some true := by
  induction d with
  | zero =>
    intro k i hi hk
    obtain ⟨k, rfl⟩ : ∃ m, k = m + 1 := ⟨k - 1, by omega⟩
    rw [tilefarmref4_Same.l0, if_neg (by omega)]
  | succ d ih =>
    intro k i hi hk
    obtain ⟨k, rfl⟩ : ∃ m, k = m + 1 := ⟨k - 1, by omega⟩
    rw [tilefarmref4_Same.l0, if_pos (by omega), if_pos (by omega), if_pos (by omega), if_pos rfl, wrap_in (n := (i : Int) + 1) (by omega) (by omega)]
    exact ih k (i + 1) (by omega) (by omega)

theorem same_eq (L : List Int) (hL : L.length ≤ 1000) (K : Nat) (hK : 2000 ≤ K) : tilefarmref4_Same.f K L L = some true := by
  unfold tilefarmref4_Same.f
  rw [if_pos rfl]
  exact same_loop L (by omega) L.length K 0 (by omega) (by omega)

theorem equal_eq (a b m : Int) (L : List Int) (hL : L.length ≤ 1000) (K : Nat) (hK : 2000 ≤ K) : tilefarmref4_Equal.f K a b m L a b m L = some true := by
  unfold tilefarmref4_Equal.f
  rw [if_pos rfl, if_pos rfl, if_pos rfl, same_eq L hL K hK]
  rfl

theorem part_len (W H m : Int) (P : List Int) (n x0 y0 x1 y1 : Int) : (part W H m P n x0 y0 x1 y1).1.length ≤ 128 := by
  unfold part
  split
  · split
    · split
      · rw [fill_len, List.length_replicate]; omega
      · simp
    · simp
  · simp

theorem whole_len (W H m : Int) (P : List Int) (n : Int) : (whole W H m P n).2.2.2.1.length ≤ 128 := by
  unfold whole
  split
  · exact part_len _ _ _ _ _ _ _ _ _
  · simp

theorem j4_true (t : List Int) (i n r0 r1 r2 r3 s W H m x0 y0 x1 y1 : Int) (P : List Int) (hP : P.length ≤ 1000) (h0 : 0 ≤ i) (hi : i < 3) (k : Nat) (hk : 30000 ≤ k) :
    tilefarmlaw12_HistogramCounts.j4 (k + 1) i n r0 r1 r2 r3 t s W H m P x0 y0 x1 y1 = tilefarmlaw12_HistogramCounts.l2 k (i + 1) r0 r1 r2 r3 t s := by
  have g1 := part_p k W H m P n x0 y0 x1 y1 (by omega) (by omega)
  have g2 := part_r k W H m P n x0 y0 x1 y1 (by omega) (by omega)
  have g3 := whole_p k W H m P n (by omega) (by omega)
  have g4 := whole_r k W H m P n (by omega) (by omega)
  have l1 := part_len W H m P n x0 y0 x1 y1
  have l2 := whole_len W H m P n
  generalize part W H m P n x0 y0 x1 y1 = A at g1 g2 l1
  generalize whole W H m P n = B at g3 g4 l2
  rw [tilefarmlaw12_HistogramCounts.j4, g1, Option.bind_some, g2, Option.bind_some, g3, Option.bind_some, g4, Option.bind_some, same_eq A.1 (by omega) k (by omega), Option.bind_some, if_pos rfl, if_pos rfl, equal_eq _ _ _ B.2.2.2.1 (by omega) k (by omega), Option.bind_some, if_pos rfl, if_pos rfl, wrap_in (n := i + 1) (by omega) (by omega)]

theorem j3_true (t : List Int) (ht : t.length ≤ 4611686018427387904) (i n r0 r1 r2 r3 s W H m x0 y0 x1 y1 : Int) (P : List Int) (hP : P.length ≤ 100) (hs : 0 ≤ s) (h0 : 0 ≤ i) (hi : i < 3) (k : Nat) (hk : 30000 ≤ k) :
    ∃ s', 0 ≤ s' ∧ tilefarmlaw12_HistogramCounts.j3 (k + 1 + 1) i n r0 r1 r2 r3 t s W H m P x0 y0 x1 y1 = tilefarmlaw12_HistogramCounts.l2 k (i + 1) r0 r1 r2 r3 t s' := by
  obtain ⟨r, h1, h1a, h1b, h1c⟩ := next_o t s 8 hs ht (by omega) (by omega)
  rw [tilefarmlaw12_HistogramCounts.j3, h1, Option.bind_some]
  by_cases c : r.1 = 7
  · rw [if_pos c]
    obtain ⟨q, g1, g2, g3⟩ := spoil_o t ht r.2 W H m P h1c (by omega)
    rw [g1, Option.bind_some]
    exact ⟨_, g3, j4_true t i n r0 r1 r2 r3 q.2.2.2.2 q.1 q.2.1 q.2.2.1 x0 y0 x1 y1 q.2.2.2.1 (by omega) h0 hi k hk⟩
  · rw [if_neg c]
    exact ⟨_, h1c, j4_true t i n r0 r1 r2 r3 r.2 W H m x0 y0 x1 y1 P (by omega) h0 hi k hk⟩

theorem within_o (l : List Int) (s w h : Int) (hs : 0 ≤ s) (hl : l.length ≤ 4611686018427387904) (hw : 0 < w) (hw2 : w ≤ 1000000) (hh : 0 < h) (hh2 : h ≤ 1000000) :
    ∃ bt, tilefarmgen_Tape_Within.f l s w h = some bt ∧ 0 ≤ bt.2.2.2.2 := by
  obtain ⟨a, b, c, d, s', h1, h2, _⟩ := within_spec l s w h hs hl hw hw2 hh hh2
  exact ⟨_, h1, h2⟩

theorem l2_round (t : List Int) (ht : t.length ≤ 4611686018427387904) (i r0 r1 r2 r3 s : Int) (hs : 0 ≤ s) (h0 : 0 ≤ i) (hi : i < 3) (k : Nat) (hk : 30000 ≤ k) :
    ∃ s', 0 ≤ s' ∧ tilefarmlaw12_HistogramCounts.l2 (k + 1 + 1 + 1) i r0 r1 r2 r3 t s = tilefarmlaw12_HistogramCounts.l2 k (i + 1) r0 r1 r2 r3 t s' := by
  obtain ⟨p, h1, p1, p2, p3, p4, p5, p6, p7, p8, p9⟩ := plane_spec (k + 1 + 1) (by omega) t ht s hs
  obtain ⟨q, g1, g2, g3⟩ := pick_o t p.2.2.2.2 [4, 1, 0, 7, 128, 129] p9 ht (by simp) (by simp)
  obtain ⟨z, f1, f2⟩ := within_o t q.2 p.1 p.2.1 g3 ht (by omega) (by omega) (by omega) (by omega)
  have hl := (plane_PV p1 p2 p3 p4 p5 p6 p7 p8).2
  rw [tilefarmlaw12_HistogramCounts.l2, if_pos hi, h1, Option.bind_some, g1, Option.bind_some, f1, Option.bind_some]
  by_cases c : i = 2
  · rw [if_pos c]
    exact j3_true t ht i q.1 r0 r1 r2 r3 z.2.2.2.2 p.1 p.2.1 p.2.2.1 r0 r1 r2 r3 p.2.2.2.1 (by omega) f2 h0 hi k hk
  · rw [if_neg c]
    exact j3_true t ht i q.1 r0 r1 r2 r3 z.2.2.2.2 p.1 p.2.1 p.2.2.1 z.1 z.2.1 z.2.2.1 z.2.2.2.1 p.2.2.2.1 (by omega) f2 h0 hi k hk

theorem sane_eq : tilefarmlaw12_sane.f 40 = some true := by decide +kernel

theorem l2_all (t : List Int) (ht : t.length ≤ 4611686018427387904) (r0 r1 r2 r3 s : Int) (hs : 0 ≤ s) (k : Nat) (hk : 30000 ≤ k) :
    tilefarmlaw12_HistogramCounts.l2 (k + 1 + 1 + 1 + 1 + 1 + 1 + 1 + 1 + 1 + 1) 0 r0 r1 r2 r3 t s = some true := by
  obtain ⟨s1, h1, e1⟩ := l2_round t ht 0 r0 r1 r2 r3 s hs (by omega) (by omega) (k + 1 + 1 + 1 + 1 + 1 + 1 + 1) (by omega)
  obtain ⟨s2, h2, e2⟩ := l2_round t ht 1 r0 r1 r2 r3 s1 h1 (by omega) (by omega) (k + 1 + 1 + 1 + 1) (by omega)
  obtain ⟨s3, h3, e3⟩ := l2_round t ht 2 r0 r1 r2 r3 s2 h2 (by omega) (by omega) (k + 1) (by omega)
  have hsane : tilefarmlaw12_sane.f k = some true := at_rounds tilefarmlaw12_sane.mono (by omega) sane_eq
  refine e1.trans (e2.trans (e3.trans ?_))
  rw [tilefarmlaw12_HistogramCounts.l2, if_neg (show ¬ (2 + 1 : Int) < 3 by omega), hsane, Option.bind_some]

theorem l1_all (t : List Int) (x v n : Int) (M : List Int) (c e r0 r1 r2 r3 s : Int) (L : List Int) (hL : L.length ≤ 100) : ∀ (d k j : Nat), j + d = L.length →
    tilefarmlaw12_HistogramCounts.l1 (k + d + 1) x v n M c e L (L.length : Int) (j : Int) r0 r1 r2 r3 t s = tilefarmlaw12_HistogramCounts.l0 k x v M c (wrap64 (e + 1)) r0 r1 r2 r3 t s
  | 0, k, j, hj => by
    rw [tilefarmlaw12_HistogramCounts.l1, if_neg (show ¬ (j : Int) < (L.length : Int) by omega)]
  | d + 1, k, j, hj => by
    obtain ⟨b, e1, e2, _⟩ := bin_both x (rd L (j : Int)) n
    obtain ⟨b', f1, f2, _⟩ := bin_both (x % 70000) (rd L (j : Int)) n
    rw [show k + (d + 1) + 1 = (k + d + 1) + 1 from rfl, tilefarmlaw12_HistogramCounts.l1]
    simp only [if_pos (show (j : Int) < (L.length : Int) by omega), if_pos (show 0 ≤ (j : Int) by omega)]
    rw [e1, Option.bind_some, e2, Option.bind_some, if_pos rfl, mod_eq x 70000 (by omega) (by omega), Option.bind_some, f1, Option.bind_some, Option.bind_some, f2, Option.bind_some, if_pos rfl, wrap_in (n := (j : Int) + 1) (by omega) (by omega)]
    exact l1_all t x v n M c e r0 r1 r2 r3 s L hL d k (j + 1) (by omega)

theorem l0_round (t : List Int) (x v : Int) (M : List Int) (hM : M.length ≤ 100) (i : Nat) (hi : i < M.length) (r0 r1 r2 r3 s : Int) (k : Nat) :
    tilefarmlaw12_HistogramCounts.l0 (k + 2 + 1 + 1) x v M (M.length : Int) (i : Int) r0 r1 r2 r3 t s = tilefarmlaw12_HistogramCounts.l0 k x v M (M.length : Int) ((i + 1 : Nat) : Int) r0 r1 r2 r3 t s := by
  rw [tilefarmlaw12_HistogramCounts.l0]
  simp only [if_pos (show (i : Int) < (M.length : Int) by omega), if_pos (show 0 ≤ (i : Int) by omega)]
  rw [mod_eq v 70000 (by omega) (by omega), Option.bind_some, Option.bind_some]
  refine (l1_all t x v (rd M (i : Int)) M (M.length : Int) (i : Int) r0 r1 r2 r3 s [v, wrap64 (1 + v % 70000)] (by simp) 2 k 0 rfl).trans ?_
  rw [wrap_in (n := (i : Int) + 1) (by omega) (by omega)]
  rfl

theorem HistogramCounts : tilefarmlaw12_HistogramCounts.Pure := by
  intro t x v n r0 r1 r2 r3 hl hl8 _ _ _ _ _ _ _ _
  have ht : t.length ≤ 4611686018427387904 := by omega
  obtain ⟨K, hK⟩ : ∃ K : Nat, 30000 ≤ K := ⟨30000, Nat.le_refl _⟩
  refine ⟨K + 1 + 1 + 1 + 1 + 1 + 1 + 1 + 1 + 1 + 1 + 1 + 2 + 1 + 1 + 2 + 1 + 1, ?_⟩
  unfold tilefarmlaw12_HistogramCounts.f tilefarmgen_New.f
  rw [Option.bind_some, mod_eq n 128 (by omega) (by omega), Option.bind_some, Option.bind_some]
  refine (l0_round t x v [n, wrap64 (1 + n % 128)] (by simp) 0 (by simp) r0 r1 r2 r3 0 _).trans ?_
  refine (l0_round t x v [n, wrap64 (1 + n % 128)] (by simp) 1 (by simp) r0 r1 r2 r3 0 _).trans ?_
  rw [tilefarmlaw12_HistogramCounts.l0, if_neg (by simp)]
  exact l2_all t ht r0 r1 r2 r3 0 (by omega) K hK


end Go.Proofs.Yticicecobchdiaa.Pure
namespace Go.Proofs.Yticicecobchdiaa
open Go.ChangeShapes Go.WideShapes
/-- The print's own word, under the name that the printed row uses. -/
theorem PrintWords.sized_ints {H : Type} {enc : TypeId × Value → H} {P : Program} {W : World} {base : Nat} {spare : Nat → Bool} {held : Bool} {t e : TypeId} {k : IntKind} {a : Option Addr} {len cap : Nat} {d : DataW H} {ps : List MemPlace} {ts : List TypeId} {ds : List (DataW H)} {j : Nat}
    (hsz : (DataW.weightsEach P ts ds).all (· ≤ reachBytes) = true) (ht : ts[j]? = some t) (hd : ds[j]? = some d) (hu : P.underlying t = some (.slice e)) (he : P.underlying e = some (.int k)) (hc : P.cellsOf e = 1) {B : Nat} (hB : P.bytesOf e = B)
    (h : DataW.Trod enc P W base spare held t (.slice a len cap) d ps) : len * B ≤ 140737488351232 :=
  Go.Proofs.YticicecobchdiaaW.PrintWords.sized_ints hsz ht hd hu he hc hB h
end Go.Proofs.Yticicecobchdiaa

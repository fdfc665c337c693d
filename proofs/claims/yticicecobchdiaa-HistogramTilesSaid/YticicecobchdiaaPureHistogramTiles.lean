/- The partial histograms of the tiles of a plane, in any order, merge to that of the plane, and the counts add up to the number of the pixels: for every tape and every turn. -/
import Derived.Test.YticicecobchdiaaPHistogramTilesx9
import Derived.Test.YticicecobchdiaaWSized
namespace Go.Proofs.Yticicecobchdiaa.Pure
open Go.RowKit Go.Proofs.Yticicecobchdiaa.PHistogramTiles Go.Proofs.YticicecobchdiaaW.PrintWords Go.Proofs.YticicecobchdiaaW.PrintLast Go.Proofs.YticicecobchdiaaW.PrintMore
set_option linter.unusedVariables false
set_option linter.unusedSimpArgs false

theorem wrap_in {n : Int} (h : -9223372036854775808 ≤ n) (h' : n ≤ 9223372036854775807) : wrap64 n = n := by unfold wrap64; omega

theorem tmod_emod (a n : Int) (h : 0 < n) : (0 ≤ Int.tmod a n ∧ Int.tmod a n = a % n) ∨ (Int.tmod a n < 0 ∧ Int.tmod a n + n = a % n) := by
  have h1 := Int.tmod_eq_emod (a := a) (b := n)
  have h2 := Int.emod_nonneg a (by omega : n ≠ 0)
  have h3 := Int.emod_lt_of_pos a h
  split at h1 <;> omega

theorem mod_eq (a n : Int) (h : 0 < n) (hn : n ≤ 4611686018427387904) : tilefarmgen_Mod.f a n = some (a % n) := by
  have h2 := Int.emod_nonneg a (by omega : n ≠ 0)
  have h3 := Int.emod_lt_of_pos a h
  unfold tilefarmgen_Mod.f
  rw [if_neg (by omega)]
  rcases tmod_emod a n h with ⟨h4, h5⟩ | ⟨h4, h5⟩
  · rw [if_neg (by omega), h5]
  · rw [if_pos h4, wrap_in (by omega) (by omega), h5]

theorem sd_true {p : Prop} [Decidable p] (h : p) : some true = some (decide p) := by rw [decide_eq_true h]
theorem sd_false {p : Prop} [Decidable p] (h : ¬ p) : some false = some (decide p) := by rw [decide_eq_false h]
theorem sd_iff {p q : Prop} [Decidable p] [Decidable q] (h : q ↔ p) : some (decide q) = some (decide p) := by rw [decide_eq_decide.2 h]

theorem mx_max (a b : Int) : mx a b = max a b := by unfold mx; omega
theorem mn_min (a b : Int) : mn a b = min a b := by unfold mn; omega

theorem mul_bd {x y B C : Int} (hx : 0 ≤ x) (hy : 0 ≤ y) (hxB : x ≤ B) (hyB : y ≤ C) : 0 ≤ x * y ∧ x * y ≤ B * C :=
  ⟨Int.mul_nonneg hx hy, Int.mul_le_mul hxB hyB hy (by omega)⟩

theorem dec_iff {p q : Prop} [Decidable p] [Decidable q] (h : p ↔ q) : decide p = decide q := decide_eq_decide.2 h
theorem and_not_dec (p q : Prop) [Decidable p] [Decidable q] : (decide p && !decide q) = decide (p ∧ ¬ q) := by
  by_cases hp : p <;> by_cases hq : q <;> simp [hp, hq]

theorem wrap64_range (n : Int) : -9223372036854775808 ≤ wrap64 n ∧ wrap64 n ≤ 9223372036854775807 := by unfold wrap64; omega

theorem wf_range {n : Int} (h : (Lit.int .i64 n).wf = true) : -9223372036854775808 ≤ n ∧ n ≤ 9223372036854775807 := by
  simp only [Lit.wf, IntKind.min, IntKind.max, IntKind.signed, IntKind.bits, Bool.and_eq_true, decide_eq_true_eq, if_true] at h
  omega


theorem next_spec (l : List Int) (s n : Int) (hs : 0 ≤ s) (hl : l.length ≤ 4611686018427387904) (h : 0 < n) (hn : n ≤ 4611686018427387904) :
    ∃ r s', tilefarmgen_Tape_Next.f l s n = some (r, s') ∧ 0 ≤ r ∧ r < n ∧ 0 ≤ s' := by
  unfold tilefarmgen_Tape_Next.f
  rw [if_neg (by omega)]
  by_cases h1 : s ≥ (l.length : Int)
  · rw [if_pos h1]; exact ⟨_, _, rfl, by omega, by omega, hs⟩
  · have e1 : wrap64 (s + 1) = s + 1 := wrap_in (by omega) (by omega)
    have e2 : wrap64 (s + 1 - 1) = s := by rw [wrap_in (by omega) (by omega)]; omega
    rw [if_neg h1]
    simp only [e1, e2]
    rw [if_pos hs, if_pos (by omega), mod_eq _ _ h hn]
    exact ⟨_, _, rfl, Int.emod_nonneg _ (by omega), Int.emod_lt_of_pos _ h, by omega⟩


theorem rd_mem (l : List Int) (i : Nat) (h : i < l.length) : rd l (i : Int) ∈ l := by
  simp [rd, h]

theorem rd_drop (l : List Int) (i : Nat) (h : i < l.length) : l.drop i = rd l (i : Int) :: l.drop (i + 1) := by
  rw [List.drop_eq_getElem_cons h]
  simp [rd, h]

theorem next_o (l : List Int) (s n : Int) (hs : 0 ≤ s) (hl : l.length ≤ 4611686018427387904) (h : 0 < n) (hn : n ≤ 4611686018427387904) :
    ∃ bt, tilefarmgen_Tape_Next.f l s n = some bt ∧ 0 ≤ bt.1 ∧ bt.1 < n ∧ 0 ≤ bt.2 := by
  obtain ⟨r, s', h1, h2, h3, h4⟩ := next_spec l s n hs hl h hn
  exact ⟨(r, s'), h1, h2, h3, h4⟩

theorem pick_o (l : List Int) (s : Int) (xs : List Int) (hs : 0 ≤ s) (hl : l.length ≤ 4611686018427387904) (h : 0 < xs.length) (hx : xs.length ≤ 100) :
    ∃ bt, tilefarmgen_Tape_Pick.f l s xs = some bt ∧ bt.1 ∈ xs ∧ 0 ≤ bt.2 := by
  obtain ⟨r, s', h1, h2, h3, h4⟩ := next_spec l s (xs.length : Int) hs hl (by omega) (by omega)
  refine ⟨(rd xs r, s'), ?_, ?_, h4⟩
  · unfold tilefarmgen_Tape_Pick.f
    rw [h1, Option.bind_some, if_pos h2, if_pos h3]
  · obtain ⟨n, rfl⟩ := Int.eq_ofNat_of_zero_le h2
    exact rd_mem xs n (by omega)


abbrev V (a b c d : Int) : Prop := (a = 0 ∧ b = 0 ∧ c = 0 ∧ d = 0) ∨ (-1048576 ≤ a ∧ a ≤ 1048576 ∧ -1048576 ≤ b ∧ b ≤ 1048576 ∧ -1048576 ≤ c ∧ c ≤ 1048576 ∧ -1048576 ≤ d ∧ d ≤ 1048576 ∧ a < c ∧ b < d)

theorem empty_eq (a b c d : Int) : rect_Empty.f a b c d = some (decide (a = 0 ∧ b = 0 ∧ c = 0 ∧ d = 0)) := by
  unfold rect_Empty.f
  congr 1
  rw [Bool.eq_iff_iff]
  simp

theorem coord_eq (a : Int) : rect_coord.f a = some (decide (-1048576 ≤ a ∧ a ≤ 1048576)) := by
  unfold rect_coord.f
  split <;> congr 1 <;> rw [Bool.eq_iff_iff] <;> simp <;> omega

theorem valid_eq (a b c d : Int) : rect_Valid.f a b c d = some (decide (V a b c d)) := by
  unfold rect_Valid.f
  simp only [empty_eq, coord_eq, Option.bind_some, decide_eq_true_eq]
  repeat' split
  all_goals first | (refine sd_iff ?_; omega) | (refine sd_true ?_; omega) | (refine sd_false ?_; omega)

def ix (a0 a1 a2 a3 b0 b1 b2 b3 : Int) : Int × Int × Int × Int :=
  if V a0 a1 a2 a3 ∧ V b0 b1 b2 b3 ∧ mx a0 b0 < mn a2 b2 ∧ mx a1 b1 < mn a3 b3 then (mx a0 b0, mx a1 b1, mn a2 b2, mn a3 b3) else (0, 0, 0, 0)

theorem intersect_eq (k : Nat) (a0 a1 a2 a3 b0 b1 b2 b3 : Int) : rect_Intersect.f (k + 1) a0 a1 a2 a3 b0 b1 b2 b3 = some (ix a0 a1 a2 a3 b0 b1 b2 b3) := by
  unfold rect_Intersect.f ix
  simp only [valid_eq, Option.bind_some, rect_Intersect.j0, decide_eq_true_eq, Bool.not_eq_true', decide_eq_false_iff_not, if_true]
  by_cases h1 : V a0 a1 a2 a3
  · by_cases h2 : V b0 b1 b2 b3
    · rw [if_pos h1, if_neg (fun h => h h2)]
      by_cases h3 : mx a0 b0 < mn a2 b2
      · by_cases h4 : mx a1 b1 < mn a3 b3
        · rw [if_neg (by omega), if_neg (by omega), if_pos ⟨h1, h2, h3, h4⟩]
        · rw [if_neg (by omega), if_pos (by omega), if_neg (fun h => h4 h.2.2.2)]
      · rw [if_pos (by omega), if_neg (fun h => h3 h.2.2.1)]
    · rw [if_pos h1, if_pos h2, if_neg (fun h => h2 h.2.1)]
  · rw [if_neg h1, if_neg (fun h => h1 h.1)]

theorem ix_spec {a0 a1 a2 a3 b0 b1 b2 b3 c0 c1 c2 c3 : Int} (hc : ix a0 a1 a2 a3 b0 b1 b2 b3 = (c0, c1, c2, c3)) (ha : V a0 a1 a2 a3) (hb : V b0 b1 b2 b3) :
    (c0 = 0 ∧ c1 = 0 ∧ c2 = 0 ∧ c3 = 0 ∧ (min a2 b2 ≤ max a0 b0 ∨ min a3 b3 ≤ max a1 b1)) ∨ (c0 = max a0 b0 ∧ c1 = max a1 b1 ∧ c2 = min a2 b2 ∧ c3 = min a3 b3 ∧ c0 < c2 ∧ c1 < c3) := by
  simp only [ix, mx_max, mn_min] at hc
  split at hc
  · next h =>
    simp only [Prod.mk.injEq] at hc
    exact .inr (by omega)
  · next h =>
    simp only [Prod.mk.injEq] at hc
    refine .inl ?_
    have : ¬ (max a0 b0 < min a2 b2 ∧ max a1 b1 < min a3 b3) := fun h' => h ⟨ha, hb, h'⟩
    omega

theorem ix_inside {a0 a1 a2 a3 b0 b1 b2 b3 c0 c1 c2 c3 : Int} (h : (c0 = 0 ∧ c1 = 0 ∧ c2 = 0 ∧ c3 = 0 ∧ (min a2 b2 ≤ max a0 b0 ∨ min a3 b3 ≤ max a1 b1)) ∨ (c0 = max a0 b0 ∧ c1 = max a1 b1 ∧ c2 = min a2 b2 ∧ c3 = min a3 b3 ∧ c0 < c2 ∧ c1 < c3))
    (hy : ¬ (c0 = 0 ∧ c1 = 0 ∧ c2 = 0 ∧ c3 = 0)) : a0 ≤ c0 ∧ c0 < c2 ∧ c2 ≤ a2 ∧ a1 ≤ c1 ∧ c1 < c3 ∧ c3 ≤ a3 := by
  rcases h with h | h
  · exact absurd ⟨h.1, h.2.1, h.2.2.1, h.2.2.2.1⟩ hy
  · omega

theorem V_range {a b c d : Int} (h : V a b c d) : -1048576 ≤ a ∧ c ≤ 1048576 ∧ -1048576 ≤ b ∧ d ≤ 1048576 := by omega
theorem V_mono {a b c d : Int} (h : V a b c d) : a ≤ c ∧ b ≤ d := by omega


theorem mul_some (a b c : Int) : ∃ p, extent_Mul.f a b c = some p := by
  unfold extent_Mul.f
  by_cases c1 : a < 0
  · rw [if_pos c1]; exact ⟨_, rfl⟩
  · rw [if_neg c1]
    by_cases c2 : b < 0
    · rw [if_pos c2]; exact ⟨_, rfl⟩
    · rw [if_neg c2]
      by_cases c3 : c < 0
      · rw [if_pos c3]; exact ⟨_, rfl⟩
      · rw [if_neg c3]
        by_cases c4 : a = 0
        · rw [if_pos c4]; exact ⟨_, rfl⟩
        · rw [if_neg c4]
          by_cases c5 : b > wrap64 (Int.tdiv c a)
          · rw [if_pos c5]; exact ⟨_, rfl⟩
          · rw [if_neg c5]; exact ⟨_, rfl⟩

/-- Which sizes a plane can have. -/
abbrev SZ (a b m : Int) : Prop := 1 ≤ a ∧ a ≤ 128 ∧ 1 ≤ b ∧ b ≤ 128 ∧ a * b ≤ 4096 ∧ 1 ≤ m ∧ m ≤ 4294967296

theorem size_no {a b m : Int} (h : ¬ SZ a b m) : some false = some (decide (SZ a b m)) := by rw [decide_eq_false h]

theorem size_val (a b m : Int) : plane_size.f a b m = some (decide (SZ a b m)) := by
  unfold plane_size.f
  by_cases c1 : a ≥ 1
  · by_cases c2 : a ≤ 128
    · by_cases c3 : b ≥ 1
      · by_cases c4 : b ≤ 128
        · obtain ⟨b0, b1⟩ := mul_bd (x := a) (y := b) (B := 128) (C := 128) (by omega) (by omega) c2 c4
          have hq : b ≤ 4096 / a ↔ b * a ≤ 4096 := Int.le_ediv_iff_mul_le (by omega)
          have q0 : 0 ≤ 4096 / a := Int.ediv_nonneg (by decide) (by omega)
          have q1 : 4096 / a ≤ 4096 := Int.ediv_le_self _ (by decide)
          rw [Int.mul_comm b a] at hq
          unfold extent_Mul.f
          rw [if_neg (show ¬ a < 0 by omega), if_neg (show ¬ b < 0 by omega), if_neg (show ¬ (4096 : Int) < 0 by decide), if_neg (show ¬ a = 0 by omega), Int.tdiv_eq_ediv_of_nonneg (by decide), wrap_in (n := 4096 / a) (by omega) (by omega), wrap_in (n := a * b) (by omega) (by omega)]
          by_cases c5 : b > 4096 / a
          · rw [if_pos c5]
            exact size_no (fun h => by have := hq.2 h.2.2.2.2.1; omega)
          · rw [if_neg c5, Option.bind_some]
            simp only [if_pos c1, if_pos c2, if_pos c3, if_pos c4, if_true]
            by_cases c6 : m ≥ 1
            · rw [if_pos c6]
              have := hq.1 (by omega)
              exact congrArg some (decide_eq_decide.2 ⟨fun h => ⟨c1, c2, c3, c4, this, c6, h⟩, fun h => h.2.2.2.2.2.2⟩)
            · rw [if_neg c6]
              exact size_no (fun h => c6 h.2.2.2.2.2.1)
        · obtain ⟨p, hp⟩ := mul_some a b 4096
          rw [hp, Option.bind_some]
          simp only [if_pos c1, if_pos c2, if_pos c3, if_neg c4, ite_self]
          exact size_no (fun h => c4 h.2.2.2.1)
      · obtain ⟨p, hp⟩ := mul_some a b 4096
        rw [hp, Option.bind_some]
        simp only [if_pos c1, if_pos c2, if_neg c3, ite_self]
        exact size_no (fun h => c3 h.2.2.1)
    · obtain ⟨p, hp⟩ := mul_some a b 4096
      rw [hp, Option.bind_some]
      simp only [if_pos c1, if_neg c2, ite_self]
      exact size_no (fun h => c2 h.2.1)
  · obtain ⟨p, hp⟩ := mul_some a b 4096
    rw [hp, Option.bind_some]
    simp only [if_neg c1, ite_self]
    exact size_no (fun h => c1 h.1)

/-- Which planes are valid. -/
abbrev PV (a b m : Int) (l : List Int) : Prop := SZ a b m ∧ (l.length : Int) = a * b ∧ ∀ v ∈ l, 0 ≤ v ∧ v ≤ m

theorem vloop_spec (a b m : Int) (l : List Int) (hl : l.length ≤ 4611686018427387904) : ∀ (d k i : Nat), i + d = l.length → d < k →
    plane_Valid.l0 k l (l.length : Int) (i : Int) a b m l = some (decide (∀ v ∈ l.drop i, 0 ≤ v ∧ v ≤ m))
  | 0, k, i, hi, hk => by
    obtain ⟨k, rfl⟩ : ∃ n, k = n + 1 := ⟨k - 1, by omega⟩
    rw [plane_Valid.l0, if_neg (show ¬ (i : Int) < (l.length : Int) by omega), List.drop_eq_nil_of_le (by omega)]
    simp
  | d + 1, k, i, hi, hk => by
    obtain ⟨k, rfl⟩ : ∃ n, k = n + 1 := ⟨k - 1, by omega⟩
    rw [plane_Valid.l0, rd_drop l i (by omega)]
    simp only [if_pos (show (i : Int) < (l.length : Int) by omega), if_pos (show 0 ≤ (i : Int) by omega), List.mem_cons, forall_eq_or_imp]
    rw [wrap_in (n := (i : Int) + 1) (by omega) (by omega), show ((i : Int) + 1) = ((i + 1 : Nat) : Int) from rfl, vloop_spec a b m l hl d k (i + 1) (by omega) (by omega)]
    by_cases c1 : rd l (i : Int) < 0
    · rw [if_pos c1]
      exact sd_false (fun h => by omega)
    · rw [if_neg c1]
      by_cases c2 : rd l (i : Int) > m
      · rw [if_pos c2]
        exact sd_false (fun h => by omega)
      · rw [if_neg c2]
        exact sd_iff ⟨fun h => ⟨by omega, h⟩, fun h => h.2⟩

theorem pvalid_spec (k : Nat) (a b m : Int) (l : List Int) (hl : l.length ≤ 4611686018427387904) (hk : l.length + 1 < k) : plane_Valid.f k a b m l = some (decide (PV a b m l)) := by
  obtain ⟨k, rfl⟩ : ∃ n, k = n + 1 := ⟨k - 1, by omega⟩
  unfold plane_Valid.f
  rw [size_val, Option.bind_some]
  by_cases c1 : SZ a b m
  · rw [decide_eq_true c1, if_pos rfl]
    obtain ⟨b0, b1⟩ := mul_bd (x := a) (y := b) (B := 128) (C := 128) (by omega) (by omega) c1.2.1 c1.2.2.2.1
    simp only [plane_Valid.j0]
    rw [wrap_in (n := a * b) (by omega) (by omega)]
    by_cases c2 : (l.length : Int) = a * b
    · rw [bne_eq_false_iff_eq.2 c2, if_neg Bool.false_ne_true]
      have hv := vloop_spec a b m l hl l.length k 0 (by omega) (by omega)
      rw [List.drop_zero] at hv
      exact hv.trans (sd_iff ⟨fun h => ⟨c1, c2, h⟩, fun h => h.2.2⟩)
    · rw [bne_iff_ne.2 c2, if_pos rfl]
      exact sd_false (fun h => c2 h.2.1)
  · rw [decide_eq_false c1, if_neg Bool.false_ne_true]
    exact sd_false (fun h => c1 h.1)


theorem set_all (P : Int → Prop) (l : List Int) (i : Nat) (v : Int) (h : ∀ x ∈ l, P x) (hv : P v) : ∀ x ∈ l.set i v, P x := by
  intro x hx
  rcases List.mem_or_eq_of_mem_set hx with hx | hx
  · exact h x hx
  · rw [hx]; exact hv

theorem sized_loop (t : List Int) (ht : t.length ≤ 4611686018427387904) (a b m : Int) (hm : 1 ≤ m) (hm' : m ≤ 4294967296) : ∀ (d k i : Nat) (s : Int) (l : List Int), 0 ≤ s → i + d = l.length → l.length ≤ 100000 → d < k →
    (∀ v ∈ l, 0 ≤ v ∧ v ≤ m) → ∃ bt, tilefarmgen_Tape_Sized.l0 k (i : Int) t s a b m l = some bt ∧ bt.1 = a ∧ bt.2.1 = b ∧ bt.2.2.1 = m ∧ bt.2.2.2.1.length = l.length ∧ (∀ v ∈ bt.2.2.2.1, 0 ≤ v ∧ v ≤ m) ∧ 0 ≤ bt.2.2.2.2
  | 0, k, i, s, l, hs, hi, hl, hk, hv => by
    obtain ⟨k, rfl⟩ : ∃ n, k = n + 1 := ⟨k - 1, by omega⟩
    rw [tilefarmgen_Tape_Sized.l0, if_neg (show ¬ (i : Int) < (l.length : Int) by omega)]
    exact ⟨_, rfl, rfl, rfl, rfl, rfl, hv, hs⟩
  | d + 1, k, i, s, l, hs, hi, hl, hk, hv => by
    obtain ⟨k, rfl⟩ : ∃ n, k = n + 1 := ⟨k - 1, by omega⟩
    rw [tilefarmgen_Tape_Sized.l0, if_pos (show (i : Int) < (l.length : Int) by omega), wrap_in (n := m + 1) (by omega) (by omega)]
    obtain ⟨r1, h1, h1a, h1b, h1c⟩ := next_o t s (m + 1) hs ht (by omega) (by omega)
    obtain ⟨r2, h2, h2a, h2b, h2c⟩ := next_o t r1.2 (m + 1) h1c ht (by omega) (by omega)
    obtain ⟨r3, h3, h3a, h3b⟩ := pick_o t r2.2 [r1.1, r2.1, m, 0] h2c ht (by simp) (by simp)
    rw [h1, Option.bind_some, h2, Option.bind_some, h3, Option.bind_some, if_pos (show 0 ≤ (i : Int) by omega), wrap_in (n := (i : Int) + 1) (by omega) (by omega)]
    have hr : 0 ≤ r3.1 ∧ r3.1 ≤ m := by
      simp only [List.mem_cons, List.not_mem_nil, or_false] at h3a
      clear h1 h2 h3 hv
      omega
    obtain ⟨bt, g1, g2, g3, g4, g5, g6, g7⟩ := sized_loop t ht a b m hm hm' d k (i + 1) r3.2 (l.set (i : Int).toNat r3.1) h3b (by rw [List.length_set]; omega) (by rw [List.length_set]; omega) (by omega) (set_all _ l _ _ hv hr)
    exact ⟨bt, g1, g2, g3, g4, by rw [g5, List.length_set], g6, g7⟩

theorem sized_spec (K : Nat) (hK : 2000 ≤ K) (t : List Int) (ht : t.length ≤ 4611686018427387904) (s a b : Int) (hs : 0 ≤ s) (ha : 1 ≤ a) (ha' : a ≤ 30) (hb : 1 ≤ b) (hb' : b ≤ 30) :
    ∃ bt, tilefarmgen_Tape_Sized.f K t s a b = some bt ∧ bt.1 = a ∧ bt.2.1 = b ∧ 1 ≤ bt.2.2.1 ∧ bt.2.2.1 ≤ 65535 ∧ (bt.2.2.2.1.length : Int) = a * b ∧ (∀ v ∈ bt.2.2.2.1, 0 ≤ v ∧ v ≤ bt.2.2.1) ∧ 0 ≤ bt.2.2.2.2 := by
  obtain ⟨r, h1, h1a, h1b⟩ := pick_o t s [255, 255, 65535, 1, 7] hs ht (by simp) (by simp)
  have hr : 1 ≤ r.1 ∧ r.1 ≤ 65535 := by
    simp only [List.mem_cons, List.not_mem_nil, or_false] at h1a
    clear h1
    omega
  obtain ⟨m0, m1⟩ := mul_bd (x := a) (y := b) (B := 30) (C := 30) (by omega) (by omega) ha' hb'
  unfold tilefarmgen_Tape_Sized.f
  rw [h1, Option.bind_some, wrap_in (n := a * b) (by omega) (by omega), if_pos m0, if_pos (show (a * b : Int).toNat ≤ 35184372088832 by omega)]
  obtain ⟨bt, g1, g2, g3, g4, g5, g6, g7⟩ := sized_loop t ht a b r.1 hr.1 (by omega) (a * b : Int).toNat K 0 r.2 (List.replicate (a * b : Int).toNat 0) h1b (by rw [List.length_replicate]; omega) (by rw [List.length_replicate]; omega) (by omega) (fun v hv => by rw [List.eq_of_mem_replicate hv]; omega)
  rw [List.length_replicate] at g5
  exact ⟨bt, g1, g2, g3, by rw [g4]; exact hr.1, by rw [g4]; exact hr.2, by rw [g5]; omega, by rw [g4]; exact g6, g7⟩

theorem plane_spec (K : Nat) (hK : 2000 ≤ K) (t : List Int) (ht : t.length ≤ 4611686018427387904) (s : Int) (hs : 0 ≤ s) :
    ∃ bt, tilefarmgen_Tape_Plane.f K t s = some bt ∧ 1 ≤ bt.1 ∧ bt.1 ≤ 6 ∧ 1 ≤ bt.2.1 ∧ bt.2.1 ≤ 5 ∧ 1 ≤ bt.2.2.1 ∧ bt.2.2.1 ≤ 65535 ∧ (bt.2.2.2.1.length : Int) = bt.1 * bt.2.1 ∧ (∀ v ∈ bt.2.2.2.1, 0 ≤ v ∧ v ≤ bt.2.2.1) ∧ 0 ≤ bt.2.2.2.2 := by
  obtain ⟨r1, h1, h1a, h1b, h1c⟩ := next_o t s 6 hs ht (by omega) (by omega)
  obtain ⟨r2, h2, h2a, h2b, h2c⟩ := next_o t r1.2 5 h1c ht (by omega) (by omega)
  obtain ⟨bt, g1, g2, g3, g4, g5, g6, g7, g8⟩ := sized_spec K hK t ht r2.2 (1 + r1.1) (1 + r2.1) h2c (by omega) (by omega) (by omega) (by omega)
  refine ⟨bt, ?_, by omega, by omega, by omega, by omega, g4, g5, by rw [g6, g2, g3], g7, g8⟩
  unfold tilefarmgen_Tape_Plane.f
  rw [h1, Option.bind_some, h2, Option.bind_some, wrap_in (n := 1 + r1.1) (by omega) (by omega), wrap_in (n := 1 + r2.1) (by omega) (by omega), g1, Option.bind_some]

theorem plane_PV {a b m : Int} {l : List Int} (h1 : 1 ≤ a) (h2 : a ≤ 6) (h3 : 1 ≤ b) (h4 : b ≤ 5) (h5 : 1 ≤ m) (h6 : m ≤ 65535) (h7 : (l.length : Int) = a * b) (h8 : ∀ v ∈ l, 0 ≤ v ∧ v ≤ m) : PV a b m l ∧ l.length ≤ 30 := by
  obtain ⟨m0, m1⟩ := mul_bd (x := a) (y := b) (B := 6) (C := 5) (by omega) (by omega) h2 h4
  exact ⟨⟨⟨h1, by omega, h3, by omega, by omega, h5, by omega⟩, h7, h8⟩, by omega⟩


/-- The rectangle is full and in the plane. -/
abbrev IN (W H x0 y0 x1 y1 : Int) : Prop := 0 ≤ x0 ∧ x0 < x1 ∧ x1 ≤ W ∧ 0 ≤ y0 ∧ y0 < y1 ∧ y1 ≤ H

theorem inside_p (k : Nat) {W H : Int} (hW : 1 ≤ W) (hW' : W ≤ 128) (hH : 1 ≤ H) (hH' : H ≤ 128) {a b c d : Int} (hz : ¬ (a = 0 ∧ b = 0 ∧ c = 0 ∧ d = 0)) : rect_Inside.f (k + 1) a b c d 0 0 W H = some (decide (IN W H a b c d)) := by
  have hb : V 0 0 W H := .inr (by omega)
  unfold rect_Inside.f
  rw [valid_eq, Option.bind_some]
  by_cases ha : V a b c d
  · rw [decide_eq_true ha, if_pos rfl, valid_eq, Option.bind_some, decide_eq_true hb, if_pos rfl, intersect_eq, Option.bind_some]
    simp only [ix, mx_max, mn_min]
    by_cases h : max a 0 < min c W ∧ max b 0 < min d H
    · rw [if_pos ⟨ha, hb, h.1, h.2⟩]
      congr 1
      rw [Bool.eq_iff_iff]
      simp only [Bool.and_eq_true, beq_iff_eq, decide_eq_true_eq]
      omega
    · rw [if_neg (fun g => h g.2.2)]
      congr 1
      rw [Bool.eq_iff_iff]
      simp only [Bool.and_eq_true, beq_iff_eq, decide_eq_true_eq]
      omega
  · rw [decide_eq_false ha, if_neg Bool.false_ne_true]
    exact sd_false (fun g => ha (.inr (by omega)))


theorem bin_val (v m n : Int) (hv : 0 ≤ v) (hv' : v ≤ m) (hm : 1 ≤ m) (hm' : m ≤ 4294967296) (hn : 1 ≤ n) (hn' : n ≤ 128) :
    wrap64 (m + 1) = m + 1 ∧ wrap64 (Int.tdiv (wrap64 (v * n)) (m + 1)) = v * n / (m + 1) ∧ 0 ≤ v * n / (m + 1) ∧ v * n / (m + 1) < n := by
  obtain ⟨b0, b1⟩ := mul_bd (x := v) (y := n) (B := 4294967296) (C := 128) hv (by omega) (by omega) hn'
  have q0 : 0 ≤ v * n / (m + 1) := Int.ediv_nonneg b0 (by omega)
  have q1 : v * n / (m + 1) ≤ v * n := Int.ediv_le_self _ b0
  refine ⟨wrap_in (by omega) (by omega), ?_, q0, ?_⟩
  · rw [wrap_in (n := v * n) (by omega) (by omega), Int.tdiv_eq_ediv_of_nonneg b0, wrap_in (by omega) (by omega)]
  · refine Int.ediv_lt_of_lt_mul (by omega) ?_
    rw [Int.mul_comm n]
    exact Int.mul_lt_mul_of_pos_right (by omega) (by omega)

theorem between_val (a b c : Int) : histogram_between.f a b c = some (decide (b ≤ a ∧ a ≤ c)) := by
  unfold histogram_between.f
  by_cases h : a ≥ b
  · rw [if_pos h]; exact sd_iff ⟨fun g => ⟨h, g⟩, fun g => g.2⟩
  · rw [if_neg h]; exact sd_false (fun g => h g.1)

theorem bin_p {v m n : Int} (hv : 0 ≤ v) (hv' : v ≤ m) (hm : 1 ≤ m) (hm' : m ≤ 4294967296) (hn : 1 ≤ n) (hn' : n ≤ 128) : histogram_Bin.f v m n = some (v * n / (m + 1)) := by
  obtain ⟨w1, w2, w3, w4⟩ := bin_val v m n hv hv' hm hm' hn hn'
  unfold histogram_Bin.f
  rw [between_val, Option.bind_some, decide_eq_true (show 1 ≤ m ∧ m ≤ 4294967296 from ⟨hm, hm'⟩), if_pos rfl, between_val, Option.bind_some, decide_eq_true (show 0 ≤ v ∧ v ≤ m from ⟨hv, hv'⟩), if_pos rfl, between_val, Option.bind_some, decide_eq_true (show 1 ≤ n ∧ n ≤ 128 from ⟨hn, hn'⟩), if_pos rfl, w1, if_neg (show ¬ m + 1 = 0 by omega), w2]

/-- One more in the bin of a pixel. -/
def bump (m n : Int) (o : List Int) (v : Int) : List Int := o.set (v * n / (m + 1)).toNat (wrap64 (rd o (v * n / (m + 1)) + 1))
/-- The counts behind some pixels. -/
def fill (m n : Int) (o vs : List Int) : List Int := vs.foldl (bump m n) o

theorem fill_len (m n : Int) : ∀ (vs o : List Int), (fill m n o vs).length = o.length
  | [], _ => rfl
  | v :: vs, o => by
    have := fill_len m n vs (bump m n o v)
    rw [show fill m n o (v :: vs) = fill m n (bump m n o v) vs from rfl, this]
    simp [bump]

/-- The pixels of a row of a rectangle. -/
def rowl (W : Int) (P : List Int) (x0 x1 y : Int) : List Int := (P.take (y * W + x1).toNat).drop (y * W + x0).toNat
/-- The pixels of some rows of a rectangle. -/
def rowsl (W : Int) (P : List Int) (x0 x1 : Int) : Nat → Int → List Int
  | 0, _ => []
  | d + 1, y => rowl W P x0 x1 y ++ rowsl W P x0 x1 d (y + 1)

theorem rowl_len {W : Int} {P : List Int} {x0 x1 y : Int} (h0 : 0 ≤ y * W) (h1 : 0 ≤ x0) (h2 : x0 ≤ x1) (h3 : y * W + x1 ≤ (P.length : Int)) : (rowl W P x0 x1 y).length = (x1 - x0).toNat := by
  unfold rowl
  rw [List.length_drop, List.length_take]
  omega

theorem rowl_mem {W : Int} {P : List Int} {x0 x1 y v : Int} (h : v ∈ rowl W P x0 x1 y) : v ∈ P := List.mem_of_mem_take (List.mem_of_mem_drop h)

theorem rowsl_mem {W : Int} {P : List Int} {x0 x1 v : Int} : ∀ (d : Nat) (y : Int), v ∈ rowsl W P x0 x1 d y → v ∈ P
  | 0, _, h => by simp [rowsl] at h
  | d + 1, y, h => by
    rcases List.mem_append.1 h with h | h
    · exact rowl_mem h
    · exact rowsl_mem d (y + 1) h

theorem row_in {y W H : Int} (h0 : 0 ≤ y) (h1 : y < H) (hW : 0 ≤ W) : 0 ≤ y * W ∧ y * W + W ≤ W * H := by
  refine ⟨Int.mul_nonneg h0 hW, ?_⟩
  have := Int.mul_le_mul_of_nonneg_right (show y + 1 ≤ H by omega) hW
  rw [Int.add_mul, Int.one_mul, Int.mul_comm H W] at this
  exact this

theorem prow {m n : Int} (hm : 1 ≤ m) (hm' : m ≤ 4294967296) (hn : 1 ≤ n) (hn' : n ≤ 128) (y W H x0 y0 x1 y1 : Int) (P row : List Int) (hr : ∀ v ∈ row, 0 ≤ v ∧ v ≤ m) (hl : row.length ≤ 100000) :
    ∀ (d k j : Nat) (o : List Int), j + d = row.length → (o.length : Int) = n → histogram_Partial.l1 (k + d + 1) n o y row (row.length : Int) (j : Int) W H m P x0 y0 x1 y1 = histogram_Partial.l0 k n (fill m n o (row.drop j)) (wrap64 (y + 1)) W H m P x0 y0 x1 y1
  | 0, k, j, o, hj, ho => by
    rw [histogram_Partial.l1, if_neg (show ¬ (j : Int) < (row.length : Int) by omega), List.drop_eq_nil_of_le (by omega)]
    rfl
  | d + 1, k, j, o, hj, ho => by
    obtain ⟨g1, g2⟩ := hr _ (rd_mem row j (by omega))
    obtain ⟨w1, w2, w3, w4⟩ := bin_val _ m n g1 g2 hm hm' hn hn'
    have ih := prow hm hm' hn hn' y W H x0 y0 x1 y1 P row hr hl d k (j + 1) (bump m n o (rd row (j : Int))) (by omega) (by unfold bump; rw [List.length_set]; exact ho)
    rw [rd_drop row j (by omega), show k + (d + 1) + 1 = (k + d + 1) + 1 from rfl, histogram_Partial.l1]
    simp only [if_pos (show (j : Int) < (row.length : Int) by omega), if_pos (show 0 ≤ (j : Int) by omega)]
    rw [bin_p g1 g2 hm hm' hn hn', Option.bind_some, if_pos w3, if_pos (show _ < (o.length : Int) by rw [ho]; exact w4), wrap_in (n := (j : Int) + 1) (by omega) (by omega)]
    exact ih

theorem prows {m n : Int} (hm : 1 ≤ m) (hm' : m ≤ 4294967296) (hn : 1 ≤ n) (hn' : n ≤ 128) (W H x0 y0 x1 y1 : Int) (P : List Int) (hP : ∀ v ∈ P, 0 ≤ v ∧ v ≤ m) (hW : W * H ≤ 4096) (hl : (P.length : Int) = W * H) (h0 : 0 ≤ x0) (h1 : x0 < x1) (h2 : x1 ≤ W) (h4 : y1 ≤ H) (hH : H ≤ 128) :
    ∀ (d k : Nat) (y : Int) (o : List Int), 0 ≤ y → (y1 - y).toNat = d → (o.length : Int) = n → histogram_Partial.l0 (k + d * ((x1 - x0).toNat + 2) + 1) n o y W H m P x0 y0 x1 y1 = some (fill m n o (rowsl W P x0 x1 d y), 0)
  | 0, k, y, o, hy, hd, ho => by
    rw [histogram_Partial.l0, if_neg (show ¬ y < y1 by omega)]
    rfl
  | d + 1, k, y, o, hy, hd, ho => by
    obtain ⟨a0, a1⟩ := row_in (y := y) (W := W) (H := H) hy (by omega) (by omega)
    have hlen := rowl_len (W := W) (P := P) (x0 := x0) (x1 := x1) (y := y) a0 h0 (by omega) (by omega)
    have ih := prows hm hm' hn hn' W H x0 y0 x1 y1 P hP hW hl h0 h1 h2 h4 hH d k (y + 1) (fill m n o (rowl W P x0 x1 y)) (by omega) (by omega) (by rw [fill_len]; exact ho)
    have hf : k + (d + 1) * ((x1 - x0).toNat + 2) + 1 = (k + d * ((x1 - x0).toNat + 2) + 1) + (x1 - x0).toNat + 1 + 1 := by rw [Nat.add_mul]; omega
    rw [hf, histogram_Partial.l0, if_pos (show y < y1 by omega), wrap_in (n := y * W) (by omega) (by omega), wrap_in (n := y * W + x0) (by omega) (by omega), wrap_in (n := y * W + x1) (by omega) (by omega), if_pos (show 0 ≤ y * W + x0 by omega), if_pos (show y * W + x0 ≤ y * W + x1 by omega), if_pos (show y * W + x1 ≤ (P.length : Int) by omega)]
    have hr := prow hm hm' hn hn' y W H x0 y0 x1 y1 P (rowl W P x0 x1 y) (fun v hv => hP v (rowl_mem hv)) (by omega) (x1 - x0).toNat (k + d * ((x1 - x0).toNat + 2) + 1) 0 o (by omega) ho
    rw [wrap_in (n := y + 1) (by omega) (by omega), List.drop_zero] at hr
    refine hr.trans (ih.trans ?_)
    rw [rowsl, fill, fill, fill, List.foldl_append]

open Classical in
/-- What Partial answers. -/
noncomputable def part (W H m : Int) (P : List Int) (n x0 y0 x1 y1 : Int) : List Int × Int :=
  if PV W H m P then (if 1 ≤ n ∧ n ≤ 128 then (if IN W H x0 y0 x1 y1 then (fill m n (List.replicate n.toNat 0) (rowsl W P x0 x1 (y1 - y0).toNat y0), 0) else ([], 8)) else ([], 9)) else ([], 1)

theorem part_p (K : Nat) (W H m : Int) (P : List Int) (n x0 y0 x1 y1 : Int) (hl : P.length ≤ 4611686018427387904) (hK : P.length + 20000 ≤ K) : histogram_Partial.f K W H m P n x0 y0 x1 y1 = some (part W H m P n x0 y0 x1 y1) := by
  unfold histogram_Partial.f part
  rw [pvalid_spec K W H m P hl (by omega), Option.bind_some]
  obtain ⟨K, rfl⟩ : ∃ q, K = q + 1 := ⟨K - 1, by omega⟩
  by_cases hV : PV W H m P
  · rw [decide_eq_true hV, if_pos rfl, if_pos hV, between_val, Option.bind_some]
    obtain ⟨⟨s1, s2, s3, s4, s5, s6, s7⟩, s8, s9⟩ := hV
    by_cases hn : 1 ≤ n ∧ n ≤ 128
    · rw [decide_eq_true hn, if_pos rfl, if_pos hn, empty_eq, Option.bind_some]
      by_cases hz : x0 = 0 ∧ y0 = 0 ∧ x1 = 0 ∧ y1 = 0
      · rw [decide_eq_true hz, if_pos rfl, if_neg (show ¬ IN W H x0 y0 x1 y1 by omega)]
        simp only [histogram_Partial.j0, if_true]
      · rw [decide_eq_false hz, if_neg Bool.false_ne_true, inside_p K s1 s2 s3 s4 hz, Option.bind_some]
        simp only [histogram_Partial.j0]
        by_cases hI : IN W H x0 y0 x1 y1
        · obtain ⟨i1, i2, i3, i4, i5, i6⟩ := hI
          have hb : (y1 - y0).toNat * ((x1 - x0).toNat + 2) ≤ 128 * 130 := Nat.mul_le_mul (by omega) (by omega)
          obtain ⟨k, hk⟩ : ∃ k, K = k + (y1 - y0).toNat * ((x1 - x0).toNat + 2) + 1 := ⟨K - (y1 - y0).toNat * ((x1 - x0).toNat + 2) - 1, by omega⟩
          rw [decide_eq_true (show IN W H x0 y0 x1 y1 from ⟨i1, i2, i3, i4, i5, i6⟩), if_neg (show ¬ (!true) = true by decide), if_pos (show 0 ≤ n by omega), if_pos (show n.toNat ≤ 35184372088832 by omega), if_pos ⟨i1, i2, i3, i4, i5, i6⟩, hk]
          exact prows s6 s7 hn.1 hn.2 W H x0 y0 x1 y1 P s9 s5 s8 i1 i2 i3 i6 s4 _ k y0 _ i4 rfl (by rw [List.length_replicate]; omega)
        · rw [decide_eq_false hI, if_pos (show (!false) = true from rfl), if_neg hI]
    · rw [decide_eq_false hn, if_neg Bool.false_ne_true, if_neg hn]
  · rw [decide_eq_false hV, if_neg Bool.false_ne_true, if_neg hV]

noncomputable def whole (W H m : Int) (P : List Int) (n : Int) : Int × Int × Int × List Int × Int :=
  if (part W H m P n 0 0 W H).2 = 0 then (n, 1, wrap64 (W * H), (part W H m P n 0 0 W H).1, 0) else (0, 0, 0, [], (part W H m P n 0 0 W H).2)

theorem whole_p (K : Nat) (W H m : Int) (P : List Int) (n : Int) (hl : P.length ≤ 4611686018427387904) (hK : P.length + 20000 ≤ K) : histogram_Whole.f K W H m P n = some (whole W H m P n) := by
  unfold histogram_Whole.f whole
  rw [part_p K W H m P n 0 0 W H hl hK, Option.bind_some]
  by_cases h : (part W H m P n 0 0 W H).2 = 0
  · rw [if_pos h, if_pos h]
  · rw [if_neg h, if_neg h]


/-- a / b, rounded up. -/
def cd (a b : Int) : Int := if a % b > 0 then a / b + 1 else a / b

theorem cd_spec {a b : Int} (ha : 1 ≤ a) (hb : 1 ≤ b) : 1 ≤ cd a b ∧ cd a b ≤ a ∧ (cd a b - 1) * b < a ∧ a ≤ cd a b * b := by
  have e := Int.mul_ediv_add_emod a b
  have g1 := Int.emod_nonneg a (by omega : b ≠ 0)
  have g2 := Int.emod_lt_of_pos a (by omega : 0 < b)
  have g3 : 0 ≤ a / b := Int.ediv_nonneg (by omega) (by omega)
  have g4 : a / b * 1 ≤ a / b * b := Int.mul_le_mul_of_nonneg_left hb g3
  have c : b * (a / b) = a / b * b := Int.mul_comm ..
  unfold cd
  split
  · next h =>
    have e2 : (a / b + 1) * b = a / b * b + b := by rw [Int.add_mul, Int.one_mul]
    have e3 : (a / b + 1 - 1) * b = a / b * b := by rw [Int.add_sub_cancel]
    refine ⟨by omega, ?_, by omega, by omega⟩
    by_cases q : b = 1
    · subst q; omega
    · have : a / b * 2 ≤ a / b * b := Int.mul_le_mul_of_nonneg_left (by omega) g3
      omega
  · next h =>
    have e3 : (a / b - 1) * b = a / b * b - b := by rw [Int.sub_mul, Int.one_mul]
    refine ⟨?_, by omega, by omega, by omega⟩
    rcases Int.lt_or_le (a / b) 1 with q | q
    · have : a / b = 0 := by omega
      rw [this] at e; omega
    · exact q

theorem ceil_eq {k : Nat} (hk : 0 < k) {a b : Int} (ha : 1 ≤ a) (ha2 : a ≤ 128) (hb : 1 ≤ b) : extent_Ceil.f k a b = some (cd a b) := by
  obtain ⟨k, rfl⟩ : ∃ n, k = n + 1 := ⟨k - 1, by omega⟩
  have hs := cd_spec ha hb
  have h1 : 0 ≤ a / b := Int.ediv_nonneg (by omega) (by omega)
  have h2 : a / b ≤ a := Int.ediv_le_self b (by omega)
  unfold extent_Ceil.f cd
  rw [if_neg (by omega), decide_eq_false (by omega)]
  simp only [extent_Ceil.j0, if_neg Bool.false_ne_true]
  rw [if_neg (by omega), Int.tmod_eq_emod_of_nonneg (by omega), Int.tdiv_eq_ediv_of_nonneg (by omega), wrap_in (n := a / b) (by omega) (by omega), wrap_in (n := a / b + 1) (by omega) (by omega)]
  split <;> rfl

abbrev Fine (w h tw th : Int) : Prop := 1 ≤ w ∧ w ≤ 128 ∧ 1 ≤ h ∧ h ≤ 128 ∧ 1 ≤ tw ∧ tw ≤ 64 ∧ 1 ≤ th ∧ th ≤ 64

theorem between_eq (a b : Int) : grid_between.f a b = some (decide (1 ≤ a ∧ a ≤ b)) := by
  unfold grid_between.f
  split
  · exact sd_iff (by omega)
  · exact sd_false (by omega)

theorem count_eq {k : Nat} (hk : 1 < k) (w h tw th : Int) : grid_Count.f k w h tw th = some (if Fine w h tw th then (cd w tw, cd h th) else (0, 0)) := by
  obtain ⟨k, rfl⟩ : ∃ n, k = n + 1 := ⟨k - 1, by omega⟩
  have hj : grid_Count.j0 (k + 1) w h tw th true = some (0, 0) := by simp only [grid_Count.j0, if_true]
  unfold grid_Count.f
  simp only [between_eq, Option.bind_some, decide_eq_true_eq]
  by_cases h1 : 1 ≤ w ∧ w ≤ 128
  · rw [if_pos h1]
    by_cases h2 : 1 ≤ h ∧ h ≤ 128
    · rw [if_pos h2]
      by_cases h3 : 1 ≤ tw ∧ tw ≤ 64
      · rw [if_pos h3]
        by_cases h4 : 1 ≤ th ∧ th ≤ 64
        · rw [decide_eq_true h4, if_pos ⟨h1.1, h1.2, h2.1, h2.2, h3.1, h3.2, h4⟩]
          simp only [grid_Count.j0, Bool.not_true, if_neg Bool.false_ne_true]
          rw [ceil_eq (by omega) h1.1 h1.2 h3.1, ceil_eq (by omega) h2.1 h2.2 h4.1]
          rfl
        · rw [decide_eq_false h4, if_neg (fun h => h4 h.2.2.2.2.2.2)]
          exact hj
      · rw [if_neg h3, if_neg (fun h => h3 ⟨h.2.2.2.2.1, h.2.2.2.2.2.1⟩)]
        exact hj
    · rw [if_neg h2, if_neg (fun h => h2 ⟨h.2.2.1, h.2.2.2.1⟩)]
      exact hj
  · rw [if_neg h1, if_neg (fun h => h1 ⟨h.1, h.2.1⟩)]
    exact hj

/-- A quotient within the count. -/
theorem div_lt_cd {x a b : Int} (ha : 1 ≤ a) (hb : 1 ≤ b) (h0 : 0 ≤ x) (h : x < a) : 0 ≤ x / b ∧ x / b < cd a b := by
  have hs := cd_spec ha hb
  refine ⟨Int.ediv_nonneg h0 (by omega), ?_⟩
  rw [Int.ediv_lt_iff_lt_mul (by omega)]
  omega

theorem mul_small {x y B C : Int} (hx : 0 ≤ x) (hy : 0 ≤ y) (hxB : x ≤ B) (hyB : y ≤ C) : 0 ≤ x * y ∧ x * y ≤ B * C := mul_bd hx hy hxB hyB

/-- Row and column of a tile. -/
theorem row_col {i n m : Int} (hn : 1 ≤ n) (h0 : 0 ≤ i) (h : i < n * m) : 0 ≤ i % n ∧ i % n < n ∧ 0 ≤ i / n ∧ i / n < m :=
  ⟨Int.emod_nonneg i (by omega), Int.emod_lt_of_pos i (by omega), Int.ediv_nonneg h0 (by omega), by rw [Int.ediv_lt_iff_lt_mul (by omega), Int.mul_comm]; exact h⟩

/-- A tile begins inside of the plane. -/
theorem begin_lt {q a b : Int} (ha : 1 ≤ a) (hb : 1 ≤ b) (h0 : 0 ≤ q) (h : q < cd a b) : 0 ≤ q * b ∧ q * b < a := by
  have hs := cd_spec ha hb
  refine ⟨Int.mul_nonneg h0 (by omega), ?_⟩
  have : q * b ≤ (cd a b - 1) * b := Int.mul_le_mul_of_nonneg_right (by omega) (by omega)
  omega

theorem tile_eq {k : Nat} (hk : 1 < k) {w h tw th i : Int} (hf : Fine w h tw th) (h0 : 0 ≤ i) (hi : i < cd w tw * cd h th) :
    grid_Tile.f k w h tw th i = some (i % cd w tw * tw, i / cd w tw * th, min (i % cd w tw * tw + tw) w, min (i / cd w tw * th + th) h, true) := by
  have hc := cd_spec hf.1 hf.2.2.2.2.1
  have hr := cd_spec hf.2.2.1 hf.2.2.2.2.2.2.1
  have hm := mul_bd (x := cd w tw) (y := cd h th) (B := 128) (C := 128) (by omega) (by omega) (by omega) (by omega)
  obtain ⟨r1, r2, r3, r4⟩ := row_col hc.1 h0 hi
  have b1 := begin_lt hf.1 hf.2.2.2.2.1 r1 r2
  have b2 := begin_lt hf.2.2.1 hf.2.2.2.2.2.2.1 r3 r4
  unfold grid_Tile.f
  rw [count_eq hk, if_pos hf]
  simp only [Option.bind_some]
  rw [if_neg (by omega), wrap_in (n := cd w tw * cd h th) (by omega) (by omega), if_neg (by omega), if_neg (by omega), Int.tmod_eq_emod_of_nonneg h0, Int.tdiv_eq_ediv_of_nonneg h0,
    wrap_in (n := i / cd w tw) (by omega) (by omega), wrap_in (n := i % cd w tw * tw) (by omega) (by omega), wrap_in (n := i / cd w tw * th) (by omega) (by omega), wrap_in (n := i % cd w tw * tw + tw) (by omega) (by omega), wrap_in (n := i / cd w tw * th + th) (by omega) (by omega), mn_min, mn_min]

theorem sane_eq : tilefarmlaw12_sane.f 40 = some true := by decide +kernel

/-! Sums over a part of the numbers. -/
def sumN : Nat → (Nat → Int) → Int
  | 0, _ => 0
  | d + 1, f => sumN d f + f d

theorem sumN_add (a : Nat) (f : Nat → Int) : ∀ b, sumN (a + b) f = sumN a f + sumN b (fun j => f (a + j))
  | 0 => by simp [sumN]
  | b + 1 => by
    have := sumN_add a f b
    rw [show a + (b + 1) = (a + b) + 1 from rfl]
    simp only [sumN]
    rw [this]
    omega

theorem sumN_congr {f g : Nat → Int} : ∀ n, (∀ j, j < n → f j = g j) → sumN n f = sumN n g
  | 0, _ => rfl
  | n + 1, h => by
    simp only [sumN]
    rw [sumN_congr n (fun j hj => h j (by omega)), h n (by omega)]

theorem sumN_nonneg {f : Nat → Int} : ∀ n, (∀ j, j < n → 0 ≤ f j) → 0 ≤ sumN n f
  | 0, _ => by simp [sumN]
  | n + 1, h => by
    have := sumN_nonneg n (fun j hj => h j (by omega))
    have := h n (by omega)
    simp only [sumN]
    omega

theorem sumN_le {f : Nat → Int} (n i : Nat) (hi : i < n) (h : ∀ j, j < n → 0 ≤ f j) : f i ≤ sumN n f := by
  have e : n = i + (n - i) := by omega
  have e2 : n - i = 1 + (n - i - 1) := by omega
  rw [e, sumN_add, e2, sumN_add]
  have a := sumN_nonneg i (fun j hj => h j (by omega))
  have b := sumN_nonneg (f := fun j => f (i + (1 + j))) (n - i - 1) (fun j hj => h _ (by omega))
  have c : sumN 1 (fun j => f (i + j)) = f i := by simp [sumN]
  rw [c]
  omega

theorem sumN_turn (f : Nat → Int) (n s : Nat) (hs : s < n) : sumN n (fun j => f ((j + s) % n)) = sumN n f := by
  have e1 : n = (n - s) + s := by omega
  have a : sumN n (fun j => f ((j + s) % n)) = sumN (n - s) (fun j => f (s + j)) + sumN s f := by
    conv => lhs; rw [e1]
    rw [sumN_add]
    congr 1
    · refine sumN_congr _ (fun j hj => ?_)
      rw [show (j + s) % (n - s + s) = s + j by rw [show n - s + s = n by omega, Nat.mod_eq_of_lt (by omega)]; omega]
    · refine sumN_congr _ (fun j hj => ?_)
      rw [show (n - s + j + s) % (n - s + s) = j by rw [show n - s + j + s = j + n by omega, show n - s + s = n by omega, Nat.add_mod_right, Nat.mod_eq_of_lt (by omega)]]
  rw [a]
  have e2 : n = s + (n - s) := by omega
  have b : sumN n f = sumN s f + sumN (n - s) (fun j => f (s + j)) := by
    conv => lhs; rw [e2]
    exact sumN_add s f (n - s)
  rw [b]
  omega

/-! How many pixels of a list are in a bin. -/
def cntb (m n b : Int) : List Int → Int
  | [] => 0
  | v :: vs => (if v * n / (m + 1) = b then 1 else 0) + cntb m n b vs

theorem cntb_append (m n b : Int) : ∀ (u v : List Int), cntb m n b (u ++ v) = cntb m n b u + cntb m n b v
  | [], v => by simp [cntb]
  | a :: u, v => by
    simp only [List.cons_append, cntb]
    rw [cntb_append m n b u v]
    omega

theorem cntb_nonneg (m n b : Int) : ∀ (u : List Int), 0 ≤ cntb m n b u ∧ cntb m n b u ≤ (u.length : Int)
  | [] => by simp [cntb]
  | a :: u => by
    have := cntb_nonneg m n b u
    simp only [cntb, List.length_cons]
    split <;> omega

theorem rd_set {o : List Int} {i b : Int} {x : Int} (hi : 0 ≤ i) (hi' : i < (o.length : Int)) (hb : 0 ≤ b) : rd (o.set i.toNat x) b = if i = b then x else rd o b := by
  simp only [rd, List.getD_eq_getElem?_getD, List.getElem?_set]
  by_cases h : i = b
  · rw [if_pos (show i.toNat = b.toNat by omega), if_pos (show i.toNat < o.length by omega), if_pos h]
    rfl
  · rw [if_neg (show ¬ i.toNat = b.toNat by omega), if_neg h]

theorem rd_bd {o : List Int} {B : Int} (hB : 0 ≤ B) (ho : ∀ v ∈ o, 0 ≤ v ∧ v ≤ B) (b : Int) : 0 ≤ rd o b ∧ rd o b ≤ B := by
  simp only [rd, List.getD_eq_getElem?_getD]
  rcases h : o[b.toNat]? with _ | v
  · exact ⟨Int.le_refl _, hB⟩
  · exact ho v (List.mem_of_getElem? h)

theorem set_all' (P : Int → Prop) (l : List Int) (i : Nat) (v : Int) (h : ∀ x ∈ l, P x) (hv : P v) : ∀ x ∈ l.set i v, P x := set_all P l i v h hv

theorem fill_rd {m n : Int} (hm : 1 ≤ m) (hm' : m ≤ 4294967296) (hn : 1 ≤ n) (hn' : n ≤ 128) : ∀ (vs o : List Int) (B : Int), (∀ v ∈ vs, 0 ≤ v ∧ v ≤ m) → (o.length : Int) = n → 0 ≤ B → (∀ v ∈ o, 0 ≤ v ∧ v ≤ B) → B + (vs.length : Int) ≤ 4611686018427387904 →
    ∀ b, 0 ≤ b → rd (fill m n o vs) b = rd o b + cntb m n b vs
  | [], o, B, _, _, _, _, _, b, _ => by simp [fill, cntb]
  | v :: vs, o, B, hv, ho, hB, hoB, hs, b, hb => by
    obtain ⟨g1, g2⟩ := hv v (List.mem_cons_self ..)
    obtain ⟨w1, w2, w3, w4⟩ := bin_val v m n g1 g2 hm hm' hn hn'
    rw [List.length_cons] at hs
    have hr := rd_bd hB hoB (v * n / (m + 1))
    have e : wrap64 (rd o (v * n / (m + 1)) + 1) = rd o (v * n / (m + 1)) + 1 := wrap_in (by omega) (by omega)
    have ih := fill_rd hm hm' hn hn' vs (bump m n o v) (B + 1) (fun u hu => hv u (List.mem_cons_of_mem _ hu)) (by unfold bump; rw [List.length_set]; exact ho) (by omega)
      (by
        unfold bump
        rw [e]
        refine set_all (fun x => 0 ≤ x ∧ x ≤ B + 1) o _ _ (fun x hx => ?_) (by omega)
        have := hoB x hx
        omega) (by omega) b hb
    rw [show fill m n o (v :: vs) = fill m n (bump m n o v) vs from rfl, ih]
    unfold bump
    rw [rd_set w3 (by omega) hb, e]
    simp only [cntb]
    by_cases h : v * n / (m + 1) = b
    · rw [if_pos h, if_pos h, h]; omega
    · rw [if_neg h, if_neg h]; omega

/-! The sum of a list. -/
def suml : List Int → Int
  | [] => 0
  | v :: vs => v + suml vs

theorem suml_set : ∀ (o : List Int) (i : Nat) (x : Int), i < o.length → suml (o.set i x) = suml o + x - rd o (i : Int)
  | [], i, x, h => by simp at h
  | a :: o, 0, x, h => by simp [suml, rd]; omega
  | a :: o, i + 1, x, h => by
    have := suml_set o i x (by simpa using h)
    have e : rd (a :: o) ((i + 1 : Nat) : Int) = rd o (i : Int) := by simp [rd]
    rw [List.set_cons_succ, e]
    simp only [suml]
    rw [this]
    omega

theorem fill_sum {m n : Int} (hm : 1 ≤ m) (hm' : m ≤ 4294967296) (hn : 1 ≤ n) (hn' : n ≤ 128) : ∀ (vs o : List Int) (B : Int), (∀ v ∈ vs, 0 ≤ v ∧ v ≤ m) → (o.length : Int) = n → 0 ≤ B → (∀ v ∈ o, 0 ≤ v ∧ v ≤ B) → B + (vs.length : Int) ≤ 4611686018427387904 →
    suml (fill m n o vs) = suml o + (vs.length : Int)
  | [], o, B, _, _, _, _, _ => by simp [fill]
  | v :: vs, o, B, hv, ho, hB, hoB, hs => by
    obtain ⟨g1, g2⟩ := hv v (List.mem_cons_self ..)
    obtain ⟨w1, w2, w3, w4⟩ := bin_val v m n g1 g2 hm hm' hn hn'
    rw [List.length_cons] at hs
    have hr := rd_bd hB hoB (v * n / (m + 1))
    have e : wrap64 (rd o (v * n / (m + 1)) + 1) = rd o (v * n / (m + 1)) + 1 := wrap_in (by omega) (by omega)
    have ih := fill_sum hm hm' hn hn' vs (bump m n o v) (B + 1) (fun u hu => hv u (List.mem_cons_of_mem _ hu)) (by unfold bump; rw [List.length_set]; exact ho) (by omega)
      (by
        unfold bump
        rw [e]
        refine set_all (fun x => 0 ≤ x ∧ x ≤ B + 1) o _ _ (fun x hx => ?_) (by omega)
        have := hoB x hx
        omega) (by omega)
    rw [show fill m n o (v :: vs) = fill m n (bump m n o v) vs from rfl, ih]
    unfold bump
    rw [suml_set _ _ _ (by omega), e, Int.toNat_of_nonneg w3, List.length_cons]
    omega

/-! Rectangles beside each other. -/
theorem rowl_append {W : Int} {P : List Int} {x0 x1 x2 y : Int} (h0 : 0 ≤ y * W) (h1 : 0 ≤ x0) (h2 : x0 ≤ x1) (h3 : x1 ≤ x2) : rowl W P x0 x1 y ++ rowl W P x1 x2 y = rowl W P x0 x2 y := by
  unfold rowl
  obtain ⟨a, ha⟩ : ∃ a : Nat, (y * W + x0).toNat = a := ⟨_, rfl⟩
  obtain ⟨d, hd⟩ : ∃ d : Nat, (y * W + x1).toNat = a + d := ⟨(y * W + x1).toNat - a, by omega⟩
  obtain ⟨e, he⟩ : ∃ e : Nat, (y * W + x2).toNat = a + d + e := ⟨(y * W + x2).toNat - (a + d), by omega⟩
  rw [ha, hd, he]
  rw [show a + d + e = a + (d + e) by omega, List.drop_take, List.drop_take, List.drop_take, show a + d - a = d by omega, show a + (d + e) - (a + d) = e by omega, show a + (d + e) - a = d + e by omega, ← List.drop_drop, ← List.take_add]

/-- How many pixels of a rectangle are in a bin. -/
def R (m n b W : Int) (P : List Int) (x0 x1 y0 y1 : Int) : Int := cntb m n b (rowsl W P x0 x1 (y1 - y0).toNat y0)

theorem rowsl_x (m n b W : Int) (hW : 0 ≤ W) (P : List Int) {x0 x1 x2 : Int} (h1 : 0 ≤ x0) (h2 : x0 ≤ x1) (h3 : x1 ≤ x2) : ∀ (d : Nat) (y : Int), 0 ≤ y →
    cntb m n b (rowsl W P x0 x2 d y) = cntb m n b (rowsl W P x0 x1 d y) + cntb m n b (rowsl W P x1 x2 d y)
  | 0, _, _ => by simp [rowsl, cntb]
  | d + 1, y, hy => by
    have ih := rowsl_x m n b W hW P h1 h2 h3 d (y + 1) (by omega)
    have e := rowl_append (P := P) (y := y) (Int.mul_nonneg hy hW) h1 h2 h3
    simp only [rowsl]
    rw [cntb_append, cntb_append, cntb_append, ih, ← e, cntb_append]
    omega

theorem R_x (m n b W : Int) (hW : 0 ≤ W) (P : List Int) {x0 x1 x2 y0 y1 : Int} (h1 : 0 ≤ x0) (h2 : x0 ≤ x1) (h3 : x1 ≤ x2) (hy : 0 ≤ y0) : R m n b W P x0 x2 y0 y1 = R m n b W P x0 x1 y0 y1 + R m n b W P x1 x2 y0 y1 :=
  rowsl_x m n b W hW P h1 h2 h3 _ y0 hy

theorem rowsl_y (W : Int) (P : List Int) (x0 x1 : Int) (e : Nat) : ∀ (d : Nat) (y : Int), rowsl W P x0 x1 (d + e) y = rowsl W P x0 x1 d y ++ rowsl W P x0 x1 e (y + d)
  | 0, y => by simp [rowsl]
  | d + 1, y => by
    rw [show d + 1 + e = (d + e) + 1 by omega]
    simp only [rowsl]
    rw [rowsl_y W P x0 x1 e d (y + 1), List.append_assoc, show y + 1 + (d : Int) = y + ((d + 1 : Nat) : Int) by omega]

theorem R_y (m n b W : Int) (P : List Int) (x0 x1 : Int) {y0 y1 y2 : Int} (h1 : y0 ≤ y1) (h2 : y1 ≤ y2) : R m n b W P x0 x1 y0 y2 = R m n b W P x0 x1 y0 y1 + R m n b W P x0 x1 y1 y2 := by
  unfold R
  rw [show (y2 - y0).toNat = (y1 - y0).toNat + (y2 - y1).toNat by omega, rowsl_y, cntb_append, show y0 + (((y1 - y0).toNat : Nat) : Int) = y1 by omega]

theorem rowl_same (W : Int) (P : List Int) (x y : Int) : rowl W P x x y = [] := by
  unfold rowl
  exact List.drop_eq_nil_of_le (by rw [List.length_take]; omega)

theorem rowsl_same (W : Int) (P : List Int) (x : Int) : ∀ (d : Nat) (y : Int), rowsl W P x x d y = []
  | 0, _ => rfl
  | d + 1, y => by simp only [rowsl]; rw [rowl_same, rowsl_same W P x d (y + 1)]; rfl

theorem R_x0 (m n b W : Int) (P : List Int) (x y0 y1 : Int) : R m n b W P x x y0 y1 = 0 := by
  unfold R; rw [rowsl_same]; rfl

theorem R_y0 (m n b W : Int) (P : List Int) (x0 x1 y : Int) : R m n b W P x0 x1 y y = 0 := by
  unfold R; rw [show (y - y).toNat = 0 by omega]; rfl

/-- The pixels of the tiles ahead of tile i. -/
def upto (m n b W H tw th : Int) (P : List Int) (i : Int) : Int :=
  R m n b W P 0 W 0 (min (i / cd W tw * th) H) + R m n b W P 0 (min (i % cd W tw * tw) W) (min (i / cd W tw * th) H) (min (i / cd W tw * th + th) H)

/-- The pixels of tile i. -/
def tileR (m n b W H tw th : Int) (P : List Int) (i : Int) : Int :=
  R m n b W P (i % cd W tw * tw) (min (i % cd W tw * tw + tw) W) (i / cd W tw * th) (min (i / cd W tw * th + th) H)

theorem upto_step {m n b W H tw th i : Int} {P : List Int} (hf : Fine W H tw th) (h0 : 0 ≤ i) (hi : i < cd W tw * cd H th) :
    upto m n b W H tw th P (i + 1) = upto m n b W H tw th P i + tileR m n b W H tw th P i := by
  have hc := cd_spec hf.1 hf.2.2.2.2.1
  have hr := cd_spec hf.2.2.1 hf.2.2.2.2.2.2.1
  obtain ⟨r1, r2, r3, r4⟩ := row_col hc.1 h0 hi
  have b1 := begin_lt hf.1 hf.2.2.2.2.1 r1 r2
  have b2 := begin_lt hf.2.2.1 hf.2.2.2.2.2.2.1 r3 r4
  have e := Int.mul_ediv_add_emod i (cd W tw)
  unfold upto tileR
  by_cases q : i % cd W tw + 1 < cd W tw
  · have e1 : (i + 1) / cd W tw = i / cd W tw := by
      rw [show i + 1 = (i % cd W tw + 1) + cd W tw * (i / cd W tw) by omega, Int.add_mul_ediv_left _ _ (by omega), Int.ediv_eq_zero_of_lt (by omega) q, Int.zero_add]
    have e2 : (i + 1) % cd W tw = i % cd W tw + 1 := by
      rw [show i + 1 = (i % cd W tw + 1) + cd W tw * (i / cd W tw) by omega, Int.add_mul_emod_self_left, Int.emod_eq_of_lt (by omega) q]
    have b3 := begin_lt (q := i % cd W tw + 1) hf.1 hf.2.2.2.2.1 (by omega) q
    rw [e1, e2]
    have e3 : (i % cd W tw + 1) * tw = i % cd W tw * tw + tw := by rw [Int.add_mul, Int.one_mul]
    rw [e3] at b3 ⊢
    generalize i % cd W tw * tw = x at *
    generalize i / cd W tw * th = y at *
    rw [Int.min_eq_left (show y ≤ H by omega), Int.min_eq_left (show x ≤ W by omega)]
    have s := R_x m n b W (by omega) P (x0 := 0) (x1 := x) (x2 := min (x + tw) W) (y0 := y) (y1 := min (y + th) H) (by omega) (by omega) (by omega) (by omega)
    rw [s]
    omega
  · have hq : i % cd W tw = cd W tw - 1 := by omega
    have e1 : (i + 1) / cd W tw = i / cd W tw + 1 := by
      rw [show i + 1 = 0 + cd W tw * (i / cd W tw + 1) by rw [Int.mul_add, Int.mul_one]; omega, Int.add_mul_ediv_left _ _ (by omega)]
      simp
    have e2 : (i + 1) % cd W tw = 0 := by
      rw [show i + 1 = 0 + cd W tw * (i / cd W tw + 1) by rw [Int.mul_add, Int.mul_one]; omega, Int.add_mul_emod_self_left]
      rfl
    have e4 : (i / cd W tw + 1) * th = i / cd W tw * th + th := by rw [Int.add_mul, Int.one_mul]
    have e5 : i % cd W tw * tw + tw = cd W tw * tw := by rw [hq, Int.sub_mul, Int.one_mul]; omega
    rw [e1, e2, e4, e5, Int.min_eq_right (show W ≤ cd W tw * tw from hc.2.2.2), Int.zero_mul, Int.min_eq_left (show 0 ≤ W by omega), R_x0]
    generalize i % cd W tw * tw = x at *
    generalize i / cd W tw * th = y at *
    rw [Int.min_eq_left (show y ≤ H by omega), Int.min_eq_left (show x ≤ W by omega)]
    have s := R_x m n b W (by omega) P (x0 := 0) (x1 := x) (x2 := W) (y0 := y) (y1 := min (y + th) H) (by omega) (by omega) (by omega) (by omega)
    have s2 := R_y m n b W P 0 W (y0 := 0) (y1 := y) (y2 := min (y + th) H) (by omega) (by omega)
    rw [s2, s]
    omega

theorem upto_zero (m n b W H tw th : Int) (P : List Int) (hf : Fine W H tw th) : upto m n b W H tw th P 0 = 0 := by
  unfold upto
  rw [Int.zero_ediv, Int.zero_emod, Int.zero_mul, Int.zero_mul, Int.min_eq_left (show 0 ≤ H by omega), Int.min_eq_left (show 0 ≤ W by omega), R_x0, R_y0]
  rfl

theorem upto_end (m n b W H tw th : Int) (P : List Int) (hf : Fine W H tw th) : upto m n b W H tw th P (cd W tw * cd H th) = R m n b W P 0 W 0 H := by
  have hc := cd_spec hf.1 hf.2.2.2.2.1
  have hr := cd_spec hf.2.2.1 hf.2.2.2.2.2.2.1
  unfold upto
  rw [Int.mul_ediv_cancel_left _ (by omega), Int.mul_emod_right, Int.zero_mul, Int.min_eq_left (show 0 ≤ W by omega), R_x0, Int.min_eq_right hr.2.2.2]
  omega

theorem tiles_sum (m n b W H tw th : Int) (P : List Int) (hf : Fine W H tw th) : ∀ (d : Nat), (d : Int) ≤ cd W tw * cd H th → sumN d (fun j => tileR m n b W H tw th P (j : Int)) = upto m n b W H tw th P (d : Int)
  | 0, _ => (upto_zero m n b W H tw th P hf).symm
  | d + 1, h => by
    have := tiles_sum m n b W H tw th P hf d (by omega)
    simp only [sumN]
    rw [this, show ((d + 1 : Nat) : Int) = (d : Int) + 1 from rfl, upto_step hf (by omega) (by omega)]

theorem tiles_all (m n b W H tw th : Int) (P : List Int) (hf : Fine W H tw th) (c s : Nat) (hc : (c : Int) = cd W tw * cd H th) (hs : s < c) :
    sumN c (fun j => tileR m n b W H tw th P (((j + s) % c : Nat) : Int)) = R m n b W P 0 W 0 H := by
  rw [sumN_turn (fun i => tileR m n b W H tw th P (i : Int)) c s hs, tiles_sum m n b W H tw th P hf c (by omega), hc, upto_end m n b W H tw th P hf]

/-! Merge. -/
def colsum (b : Int) : List (List Int) → Int
  | [] => 0
  | x :: xs => rd x b + colsum b xs

theorem rd_L1_drop (L : List (List Int)) (i : Nat) (h : i < L.length) : L.drop i = rd_L1 L (i : Int) :: L.drop (i + 1) := by
  rw [List.drop_eq_getElem_cons h]
  simp [rd_L1, h]

theorem rd_L1_mem (L : List (List Int)) (i : Nat) (h : i < L.length) : rd_L1 L (i : Int) ∈ L := by
  simp [rd_L1, h]

theorem colsum_nonneg (b : Int) : ∀ (L : List (List Int)), (∀ x ∈ L, ∀ v ∈ x, 0 ≤ v ∧ v ≤ 4096) → 0 ≤ colsum b L
  | [], _ => by simp [colsum]
  | x :: xs, h => by
    have a := rd_bd (show (0 : Int) ≤ 4096 by decide) (h x (List.mem_cons_self ..)) b
    have c := colsum_nonneg b xs (fun y hy => h y (List.mem_cons_of_mem _ hy))
    simp only [colsum]
    omega

theorem m_l0 (L : List (List Int)) (N : Nat) (hN : 1 ≤ N) (hN' : N ≤ 128) (hL : L.length ≤ 4096) (hl : ∀ x ∈ L, x.length = N) : ∀ (d k i : Nat), i + d = L.length →
    histogram_Merge.l0 (k + d + 1) L (N : Int) L (L.length : Int) (i : Int) = histogram_Merge.l1 k (List.replicate N 0) L (L.length : Int) 0
  | 0, k, i, hi => by
    rw [histogram_Merge.l0, if_neg (show ¬ (i : Int) < (L.length : Int) by omega), if_pos (show 0 ≤ (N : Int) by omega), if_pos (show (N : Int).toNat ≤ 35184372088832 by omega), Int.toNat_natCast]
  | d + 1, k, i, hi => by
    rw [show k + (d + 1) + 1 = (k + d + 1) + 1 from rfl, histogram_Merge.l0]
    simp only [if_pos (show (i : Int) < (L.length : Int) by omega), if_pos (show 0 ≤ (i : Int) by omega)]
    rw [hl _ (rd_L1_mem L i (by omega)), if_pos rfl, between_val, Option.bind_some, decide_eq_true (show 1 ≤ (N : Int) ∧ (N : Int) ≤ 128 by omega), if_pos rfl, wrap_in (n := (i : Int) + 1) (by omega) (by omega)]
    exact m_l0 L N hN hN' hL hl d k (i + 1) (by omega)

theorem rd_out {x : List Int} {b : Int} (h : (x.length : Int) ≤ b) : rd x b = 0 := by
  simp only [rd, List.getD_eq_getElem?_getD]
  rw [List.getElem?_eq_none (by omega)]
  rfl

theorem m_l2 (L : List (List Int)) (c e : Int) (x : List Int) (N : Nat) (hN' : N ≤ 128) (hx : x.length = N) (hv : ∀ v ∈ x, 0 ≤ v ∧ v ≤ 4096) : ∀ (d k j : Nat) (o : List Int), j + d = N → o.length = N → (∀ b, (j : Int) ≤ b → 0 ≤ rd o b ∧ rd o b ≤ 100000000) →
    ∃ o', histogram_Merge.l2 (k + d + 1) o L (L.length : Int) c x (N : Int) (j : Int) = histogram_Merge.l1 k o' L (L.length : Int) (wrap64 (c + 1)) ∧ o'.length = N ∧ ∀ b, 0 ≤ b → rd o' b = if (j : Int) ≤ b then rd o b + rd x b else rd o b
  | 0, k, j, o, hj, ho, hb => by
    refine ⟨o, ?_, ho, fun b h => ?_⟩
    · rw [histogram_Merge.l2, if_neg (show ¬ (j : Int) < (N : Int) by omega)]
    · by_cases q : (j : Int) ≤ b
      · rw [if_pos q, rd_out (x := x) (b := b) (by omega)]; omega
      · rw [if_neg q]
  | d + 1, k, j, o, hj, ho, hb => by
    have a1 := rd_bd (show (0 : Int) ≤ 4096 by decide) hv (j : Int)
    have a2 := hb (j : Int) (Int.le_refl _)
    have e1 : wrap64 (rd o (j : Int) + rd x (j : Int)) = rd o (j : Int) + rd x (j : Int) := wrap_in (by omega) (by omega)
    have hset : ∀ b, 0 ≤ b → rd (o.set (j : Int).toNat (rd o (j : Int) + rd x (j : Int))) b = if (j : Int) = b then rd o (j : Int) + rd x (j : Int) else rd o b := fun b h => rd_set (by omega) (by omega) h
    obtain ⟨o', g1, g2, g3⟩ := m_l2 L c e x N hN' hx hv d k (j + 1) (o.set (j : Int).toNat (rd o (j : Int) + rd x (j : Int))) (by omega) (by rw [List.length_set]; exact ho) (fun b h => by
      rw [hset b (by omega), if_neg (show ¬ (j : Int) = b by omega)]
      exact hb b (by omega))
    refine ⟨o', ?_, g2, fun b h => ?_⟩
    · rw [← g1, show k + (d + 1) + 1 = (k + d + 1) + 1 from rfl, histogram_Merge.l2, if_pos (show (j : Int) < (N : Int) by omega), if_pos (show 0 ≤ (j : Int) by omega), if_pos (show (j : Int) < (x.length : Int) by omega), between_val, Option.bind_some, decide_eq_true (show 0 ≤ rd x (j : Int) ∧ rd x (j : Int) ≤ 4096 from a1), if_pos rfl, if_pos (show (j : Int) < (o.length : Int) by omega), e1, wrap_in (n := (j : Int) + 1) (by omega) (by omega)]
      rfl
    · rw [g3 b h, hset b h]
      by_cases q : (j : Int) = b
      · rw [if_neg (show ¬ ((j + 1 : Nat) : Int) ≤ b by omega), if_pos q, if_pos (show (j : Int) ≤ b by omega), q]
      · by_cases q2 : (j : Int) ≤ b
        · rw [if_pos (show ((j + 1 : Nat) : Int) ≤ b by omega), if_neg q, if_pos q2]
        · rw [if_neg (show ¬ ((j + 1 : Nat) : Int) ≤ b by omega), if_neg q, if_neg q2]

theorem m_l1 (L : List (List Int)) (N : Nat) (hN' : N ≤ 128) (hL : L.length ≤ 4096) (hl : ∀ x ∈ L, x.length = N) (hv : ∀ x ∈ L, ∀ v ∈ x, 0 ≤ v ∧ v ≤ 4096) : ∀ (d k i : Nat) (o : List Int), i + d = L.length → o.length = N →
    (∀ b, 0 ≤ b → 0 ≤ rd o b ∧ rd o b + colsum b (L.drop i) ≤ 4096) →
    ∃ o', histogram_Merge.l1 (k + d * (N + 2) + 1) o L (L.length : Int) (i : Int) = histogram_Merge.l3 k o' o' (o'.length : Int) 0 ∧ o'.length = N ∧ ∀ b, 0 ≤ b → rd o' b = rd o b + colsum b (L.drop i)
  | 0, k, i, o, hi, ho, hb => by
    refine ⟨o, ?_, ho, fun b h => ?_⟩
    · rw [histogram_Merge.l1, if_neg (show ¬ (i : Int) < (L.length : Int) by omega)]
      rw [Nat.zero_mul]
      rfl
    · rw [List.drop_eq_nil_of_le (by omega)]; simp [colsum]
  | d + 1, k, i, o, hi, ho, hb => by
    have hm := rd_L1_mem L i (by omega)
    have hx := hl _ hm
    have hnn : ∀ b, 0 ≤ colsum b (L.drop (i + 1)) := fun b => colsum_nonneg b _ (fun y hy => hv y (List.mem_of_mem_drop hy))
    have hb' : ∀ b, 0 ≤ b → 0 ≤ rd o b ∧ rd o b + (rd (rd_L1 L (i : Int)) b + colsum b (L.drop (i + 1))) ≤ 4096 := fun b h => by
      have := hb b h
      rw [rd_L1_drop L i (by omega)] at this
      exact this
    have hr : ∀ b, 0 ≤ rd (rd_L1 L (i : Int)) b := fun b => (rd_bd (show (0 : Int) ≤ 4096 by decide) (hv _ hm) b).1
    obtain ⟨o', g1, g2, g3⟩ := m_l2 L (i : Int) 0 (rd_L1 L (i : Int)) N hN' hx (hv _ hm) N (k + d * (N + 2) + 1) 0 o (by omega) ho (fun b h => by
      have := hb' b (by omega)
      have := hr b
      have := hnn b
      omega)
    have hz : ∀ b, 0 ≤ b → rd o' b = rd o b + rd (rd_L1 L (i : Int)) b := fun b h => by rw [g3 b h, if_pos (show ((0 : Nat) : Int) ≤ b by omega)]
    obtain ⟨o2, f1, f2, f3⟩ := m_l1 L N hN' hL hl hv d k (i + 1) o' (by omega) g2 (fun b h => by
      have h1 := hb' b h
      have h2 := hr b
      rw [hz b h]
      omega)
    refine ⟨o2, ?_, f2, fun b h => ?_⟩
    · have hfu : k + (d + 1) * (N + 2) + 1 = (k + d * (N + 2) + 1 + N + 1) + 1 := by rw [Nat.add_mul]; omega
      rw [hfu, histogram_Merge.l1]
      simp only [if_pos (show (i : Int) < (L.length : Int) by omega), if_pos (show 0 ≤ (i : Int) by omega)]
      rw [hx]
      refine g1.trans ?_
      rw [wrap_in (n := (i : Int) + 1) (by omega) (by omega)]
      exact f1
    · rw [f3 b h, hz b h, rd_L1_drop L i (by omega)]
      simp only [colsum]
      omega

theorem m_l3 (o : List Int) (ho : o.length ≤ 100000) (hb : ∀ b, 0 ≤ b → rd o b ≤ 4096) : ∀ (d k j : Nat), j + d = o.length → histogram_Merge.l3 (k + d + 1) o o (o.length : Int) (j : Int) = some (o, 0)
  | 0, k, j, hj => by
    rw [histogram_Merge.l3, if_neg (show ¬ (j : Int) < (o.length : Int) by omega)]
  | d + 1, k, j, hj => by
    rw [show k + (d + 1) + 1 = (k + d + 1) + 1 from rfl, histogram_Merge.l3]
    simp only [if_pos (show (j : Int) < (o.length : Int) by omega), if_pos (show 0 ≤ (j : Int) by omega)]
    rw [if_neg (show ¬ rd o (j : Int) > 4096 by have := hb (j : Int) (by omega); omega), wrap_in (n := (j : Int) + 1) (by omega) (by omega)]
    exact m_l3 o ho hb d k (j + 1) (by omega)

theorem rd_zeros (N : Nat) (b : Int) : rd (List.replicate N 0) b = 0 := by
  simp only [rd, List.getD_eq_getElem?_getD, List.getElem?_replicate]
  split <;> rfl

theorem merge_spec (K : Nat) (L : List (List Int)) (N : Nat) (hN : 1 ≤ N) (hN' : N ≤ 128) (hL1 : 1 ≤ L.length) (hL : L.length ≤ 40) (hl : ∀ x ∈ L, x.length = N) (hv : ∀ x ∈ L, ∀ v ∈ x, 0 ≤ v ∧ v ≤ 4096) (hs : ∀ b, 0 ≤ b → colsum b L ≤ 4096) (hK : 20000 ≤ K) :
    ∃ o, histogram_Merge.f K L = some (o, 0) ∧ o.length = N ∧ ∀ b, 0 ≤ b → rd o b = colsum b L := by
  have hm : L.length * (N + 2) ≤ 40 * 130 := Nat.mul_le_mul hL (by omega)
  obtain ⟨k, hk⟩ : ∃ k, K = ((k + N + 1) + L.length * (N + 2) + 1) + L.length + 1 := ⟨K - (N + 1 + L.length * (N + 2) + 1 + L.length + 1), by omega⟩
  obtain ⟨o, g1, g2, g3⟩ := m_l1 L N hN' (by omega) hl hv L.length (k + N + 1) 0 (List.replicate N 0) (by omega) List.length_replicate (fun b h => by
    rw [rd_zeros, List.drop_zero]
    have := hs b h
    omega)
  rw [List.drop_zero] at g3
  have g3' : ∀ b, 0 ≤ b → rd o b = colsum b L := fun b h => by rw [g3 b h, rd_zeros]; omega
  refine ⟨o, ?_, g2, g3'⟩
  unfold histogram_Merge.f
  rw [between_val, Option.bind_some, decide_eq_true (show 1 ≤ (L.length : Int) ∧ (L.length : Int) ≤ 4096 by omega), if_pos rfl, if_pos (show 0 < (L.length : Int) by omega)]
  have hx : (rd_L1 L 0).length = N := hl _ (rd_L1_mem L 0 (by omega))
  rw [hx, hk]
  refine (m_l0 L N hN hN' (by omega) hl L.length _ 0 (by omega)).trans (g1.trans ?_)
  have h3 := m_l3 o (by omega) (fun b h => by rw [g3' b h]; exact hs b h) o.length k 0 (by omega)
  rw [g2] at h3 ⊢
  exact h3

/-! The law. -/
theorem colsum_append (b : Int) : ∀ (A B : List (List Int)), colsum b (A ++ B) = colsum b A + colsum b B
  | [], B => by simp [colsum]
  | x :: A, B => by
    simp only [List.cons_append, colsum]
    rw [colsum_append b A B]
    omega

/-- The lists of the first d tiles. -/
def lists (f : Nat → List Int) : Nat → List (List Int)
  | 0 => []
  | d + 1 => lists f d ++ [f d]

theorem lists_len (f : Nat → List Int) : ∀ d, (lists f d).length = d
  | 0 => rfl
  | d + 1 => by simp only [lists]; rw [List.length_append, lists_len f d]; rfl

theorem lists_all (P : List Int → Prop) (f : Nat → List Int) : ∀ d, (∀ j, j < d → P (f j)) → ∀ x ∈ lists f d, P x
  | 0, _, x, hx => by simp [lists] at hx
  | d + 1, h, x, hx => by
    simp only [lists, List.mem_append, List.mem_singleton] at hx
    rcases hx with hx | hx
    · exact lists_all P f d (fun j hj => h j (by omega)) x hx
    · rw [hx]; exact h d (by omega)

theorem lists_sum (b : Int) (f : Nat → List Int) : ∀ d, colsum b (lists f d) = sumN d (fun j => rd (f j) b)
  | 0 => rfl
  | d + 1 => by
    simp only [lists, sumN]
    rw [colsum_append, lists_sum b f d]
    simp [colsum]

theorem rowsl_len (W : Int) (P : List Int) (x0 x1 : Int) : ∀ (d : Nat) (y : Int), (rowsl W P x0 x1 d y).length ≤ d * P.length
  | 0, _ => by simp [rowsl]
  | d + 1, y => by
    have := rowsl_len W P x0 x1 d (y + 1)
    simp only [rowsl]
    rw [List.length_append, Nat.add_mul]
    have h : (rowl W P x0 x1 y).length ≤ P.length := by unfold rowl; rw [List.length_drop, List.length_take]; omega
    omega

theorem rowsl_full {W H : Int} {P : List Int} (hW : 1 ≤ W) (hP : (P.length : Int) = W * H) : ∀ (d : Nat) (y : Int), 0 ≤ y → y + (d : Int) ≤ H → ((rowsl W P 0 W d y).length : Int) = W * (d : Int)
  | 0, _, _, _ => by simp [rowsl]
  | d + 1, y, h0, h1 => by
    have ih := rowsl_full hW hP d (y + 1) (by omega) (by omega)
    obtain ⟨a0, a1⟩ := row_in (y := y) (W := W) (H := H) h0 (by omega) (by omega)
    have hl := rowl_len (W := W) (P := P) (x0 := 0) (x1 := W) (y := y) a0 (by omega) (by omega) (by omega)
    simp only [rowsl]
    rw [List.length_append, hl, Int.natCast_add, ih, show ((d + 1 : Nat) : Int) = (d : Int) + 1 from rfl, Int.mul_add]
    omega

theorem part_in {W H m : Int} {P : List Int} {n x0 y0 x1 y1 : Int} (hV : PV W H m P) (hn : 1 ≤ n ∧ n ≤ 128) (hI : IN W H x0 y0 x1 y1) : part W H m P n x0 y0 x1 y1 = (fill m n (List.replicate n.toNat 0) (rowsl W P x0 x1 (y1 - y0).toNat y0), 0) := by
  unfold part
  rw [if_pos hV, if_pos hn, if_pos hI]

/-- The histogram of a tile. -/
def tileH (m n W H tw th : Int) (P : List Int) (i : Int) : List Int :=
  fill m n (List.replicate n.toNat 0) (rowsl W P (i % cd W tw * tw) (min (i % cd W tw * tw + tw) W) (min (i / cd W tw * th + th) H - i / cd W tw * th).toNat (i / cd W tw * th))

theorem zeros_all (N : Nat) : ∀ v ∈ List.replicate N (0 : Int), 0 ≤ v ∧ v ≤ 0 := fun v hv => by rw [List.eq_of_mem_replicate hv]; omega

theorem fill_zero_rd {m n : Int} (hm : 1 ≤ m) (hm' : m ≤ 4294967296) (hn : 1 ≤ n) (hn' : n ≤ 128) (vs : List Int) (hv : ∀ v ∈ vs, 0 ≤ v ∧ v ≤ m) (hl : vs.length ≤ 4611686018427387904) (b : Int) (hb : 0 ≤ b) : rd (fill m n (List.replicate n.toNat 0) vs) b = cntb m n b vs := by
  rw [fill_rd hm hm' hn hn' vs _ 0 hv (by rw [List.length_replicate]; omega) (Int.le_refl _) (zeros_all _) (by omega) b hb, rd_zeros]
  omega

theorem mem_rd {l : List Int} {v : Int} (h : v ∈ l) : ∃ b, 0 ≤ b ∧ rd l b = v := by
  obtain ⟨i, hi, e⟩ := List.mem_iff_getElem.1 h
  exact ⟨(i : Int), by omega, by simp [rd, hi, e]⟩

theorem rd_ext {a b : List Int} (hl : a.length = b.length) (h : ∀ i, 0 ≤ i → rd a i = rd b i) : a = b := by
  refine List.ext_getElem hl (fun i h1 h2 => ?_)
  have := h (i : Int) (by omega)
  simpa [rd, h1, h2] using this

theorem same_loop (L : List Int) (hL : L.length ≤ 100000) (d : Nat) : ∀ (k i : Nat), i + d = L.length → d < k → tilefarmref4_Same.l0 k L L (i : Int) = some true := by
  induction d with
  | zero =>
    intro k i hi hk
    obtain ⟨k, rfl⟩ : ∃ m, k = m + 1 := ⟨k - 1, by omega⟩
    rw [tilefarmref4_Same.l0, if_neg (by omega)]
  | succ d ih =>
    intro k i hi hk
    obtain ⟨k, rfl⟩ : ∃ m, k = m + 1 := ⟨k - 1, by omega⟩
    rw [tilefarmref4_Same.l0, if_pos (by omega), if_pos (by omega), if_pos (by omega), if_pos rfl, wrap_in (n := (i : Int) + 1) (by omega) (by omega)]
    exact ih k (i + 1) (by omega) (by omega)

theorem same_eq (L : List Int) (hL : L.length ≤ 1000) (K : Nat) (hK : 2000 ≤ K) : tilefarmref4_Same.f K L L = some true := by
  unfold tilefarmref4_Same.f
  rw [if_pos rfl]
  exact same_loop L (by omega) L.length K 0 (by omega) (by omega)

theorem suml_drop (l : List Int) (i : Nat) (h : i < l.length) : suml (l.drop i) = rd l (i : Int) + suml (l.drop (i + 1)) := by
  rw [rd_drop l i h]
  rfl

theorem law_l1 (M : List Int) (W H m p : Int) (q : Int) (P : List Int) (a : Int) (hM : M.length ≤ 128) (hv : ∀ v ∈ M, 0 ≤ v ∧ v ≤ 4096) (hsum : suml M = W * H) (hw : wrap64 (W * H) = W * H) : ∀ (d k j : Nat) (s : Int), j + d = M.length → 0 ≤ s → s ≤ 4096 * (j : Int) → s + suml (M.drop j) = suml M → 2000 ≤ k →
    tilefarmlaw12_HistogramTiles.l1 (k + d + 1) M 0 0 s (j : Int) W H m P a p q M = some true
  | 0, k, j, s, hj, h0, h1, hs, hk => by
    rw [List.drop_eq_nil_of_le (by omega)] at hs
    have hs' : s = W * H := by rw [← hsum, ← hs]; simp [suml]
    have hsane : tilefarmlaw12_sane.f k = some true := at_rounds tilefarmlaw12_sane.mono (by omega) sane_eq
    rw [tilefarmlaw12_HistogramTiles.l1, if_neg (show ¬ (j : Int) < (M.length : Int) by omega), if_pos rfl, if_pos rfl]
    show (tilefarmref4_Same.f k M M).bind _ = _
    rw [same_eq M (by omega) k hk, Option.bind_some, if_pos rfl, hw, if_pos hs', hsane, Option.bind_some]
  | d + 1, k, j, s, hj, h0, h1, hs, hk => by
    have hr := rd_bd (show (0 : Int) ≤ 4096 by decide) hv (j : Int)
    rw [suml_drop M j (by omega)] at hs
    rw [show k + (d + 1) + 1 = (k + d + 1) + 1 from rfl, tilefarmlaw12_HistogramTiles.l1, if_pos (show (j : Int) < (M.length : Int) by omega), if_pos (show 0 ≤ (j : Int) by omega), wrap_in (n := s + rd M (j : Int)) (by omega) (by omega), wrap_in (n := (j : Int) + 1) (by omega) (by omega)]
    exact law_l1 M W H m p q P a hM hv hsum hw d k (j + 1) (s + rd M (j : Int)) (by omega) (by omega) (by omega) (by omega) hk

theorem tile_in {W H tw th i : Int} (hf : Fine W H tw th) (h0 : 0 ≤ i) (hi : i < cd W tw * cd H th) : IN W H (i % cd W tw * tw) (i / cd W tw * th) (min (i % cd W tw * tw + tw) W) (min (i / cd W tw * th + th) H) := by
  have hc := cd_spec hf.1 hf.2.2.2.2.1
  obtain ⟨r1, r2, r3, r4⟩ := row_col hc.1 h0 hi
  have b1 := begin_lt hf.1 hf.2.2.2.2.1 r1 r2
  have b2 := begin_lt hf.2.2.1 hf.2.2.2.2.2.2.1 r3 r4
  have t1 := hf.2.2.2.2.1
  have t2 := hf.2.2.2.2.2.2.1
  generalize i % cd W tw * tw = x at b1 ⊢
  generalize i / cd W tw * th = y at b2 ⊢
  clear hc r1 r2 r3 r4
  omega

theorem tile_rows {W H tw th i : Int} (hf : Fine W H tw th) (h0 : 0 ≤ i) (hi : i < cd W tw * cd H th) : (min (i / cd W tw * th + th) H - i / cd W tw * th).toNat ≤ 128 := by
  have h := tile_in hf h0 hi
  have hH := hf.2.2.2.1
  omega

theorem tileH_rd {m n W H tw th i : Int} {P : List Int} (hV : PV W H m P) (hl : P.length ≤ 30) (hn : 1 ≤ n) (hn' : n ≤ 128) (hf : Fine W H tw th) (h0 : 0 ≤ i) (hi : i < cd W tw * cd H th) (b : Int) (hb : 0 ≤ b) :
    rd (tileH m n W H tw th P i) b = tileR m n b W H tw th P i ∧ 0 ≤ tileR m n b W H tw th P i ∧ tileR m n b W H tw th P i ≤ 4096 := by
  have hr := tile_rows hf h0 hi
  have hlen := rowsl_len W P (i % cd W tw * tw) (min (i % cd W tw * tw + tw) W) (min (i / cd W tw * th + th) H - i / cd W tw * th).toNat (i / cd W tw * th)
  have hm : (min (i / cd W tw * th + th) H - i / cd W tw * th).toNat * P.length ≤ 128 * 30 := Nat.mul_le_mul hr hl
  have hc := cntb_nonneg m n b (rowsl W P (i % cd W tw * tw) (min (i % cd W tw * tw + tw) W) (min (i / cd W tw * th + th) H - i / cd W tw * th).toNat (i / cd W tw * th))
  refine ⟨?_, hc.1, ?_⟩
  · exact fill_zero_rd hV.1.2.2.2.2.2.1 hV.1.2.2.2.2.2.2 hn hn' _ (fun v hv => hV.2.2 v (rowsl_mem _ _ hv)) (by omega) b hb
  · refine Int.le_trans hc.2 ?_
    omega

theorem tileH_len (m n W H tw th : Int) (P : List Int) (i : Int) : (tileH m n W H tw th P i).length = n.toNat := by
  unfold tileH; rw [fill_len, List.length_replicate]

theorem tileH_all {m n W H tw th i : Int} {P : List Int} (hV : PV W H m P) (hl : P.length ≤ 30) (hn : 1 ≤ n) (hn' : n ≤ 128) (hf : Fine W H tw th) (h0 : 0 ≤ i) (hi : i < cd W tw * cd H th) : ∀ v ∈ tileH m n W H tw th P i, 0 ≤ v ∧ v ≤ 4096 := by
  intro v hv
  obtain ⟨b, hb, e⟩ := mem_rd hv
  obtain ⟨e1, e2, e3⟩ := tileH_rd (m := m) (n := n) (P := P) hV hl hn hn' hf h0 hi b hb
  rw [← e, e1]
  exact ⟨e2, e3⟩

/-- The whole histogram. -/
def wholeH (m n W H : Int) (P : List Int) : List Int := fill m n (List.replicate n.toNat 0) (rowsl W P 0 W (H - 0).toNat 0)

theorem full_len {W H m : Int} {P : List Int} (hV : PV W H m P) : ((rowsl W P 0 W (H - 0).toNat 0).length : Int) = W * H := by
  have h := rowsl_full (W := W) (H := H) (P := P) hV.1.1 hV.2.1 (H - 0).toNat 0 (Int.le_refl _) (by have := hV.1.2.2.1; omega)
  rw [h, show (((H - 0).toNat : Nat) : Int) = H by have := hV.1.2.2.1; omega]

theorem wholeH_rd {m n W H : Int} {P : List Int} (hV : PV W H m P) (hn : 1 ≤ n) (hn' : n ≤ 128) (b : Int) (hb : 0 ≤ b) :
    rd (wholeH m n W H P) b = R m n b W P 0 W 0 H ∧ 0 ≤ R m n b W P 0 W 0 H ∧ R m n b W P 0 W 0 H ≤ 4096 := by
  have hlen := full_len hV
  have hc := cntb_nonneg m n b (rowsl W P 0 W (H - 0).toNat 0)
  have hwh := hV.1.2.2.2.2.1
  refine ⟨?_, hc.1, ?_⟩
  · exact fill_zero_rd hV.1.2.2.2.2.2.1 hV.1.2.2.2.2.2.2 hn hn' _ (fun v hv => hV.2.2 v (rowsl_mem _ _ hv)) (by omega) b hb
  · refine Int.le_trans hc.2 ?_
    omega

theorem suml_zeros : ∀ N, suml (List.replicate N 0) = 0
  | 0 => rfl
  | N + 1 => by rw [List.replicate_succ]; simp only [suml]; rw [suml_zeros N]; rfl

theorem wholeH_sum {m n W H : Int} {P : List Int} (hV : PV W H m P) (hn : 1 ≤ n) (hn' : n ≤ 128) : suml (wholeH m n W H P) = W * H := by
  have hlen := full_len hV
  have hwh := hV.1.2.2.2.2.1
  unfold wholeH
  rw [fill_sum hV.1.2.2.2.2.2.1 hV.1.2.2.2.2.2.2 hn hn' _ _ 0 (fun v hv => hV.2.2 v (rowsl_mem _ _ hv)) (by rw [List.length_replicate]; omega) (Int.le_refl _) (zeros_all _) (by omega), hlen, suml_zeros]
  omega

theorem merged {m n W H tw th : Int} {P : List Int} (hV : PV W H m P) (hl : P.length ≤ 30) (hn : 1 ≤ n) (hn' : n ≤ 128) (hf : Fine W H tw th) (c s : Nat) (hc : (c : Int) = cd W tw * cd H th) (hs : s < c) (hc' : c ≤ 40) (K : Nat) (hK : 20000 ≤ K) :
    histogram_Merge.f K (lists (fun j => tileH m n W H tw th P (((j + s) % c : Nat) : Int)) c) = some (wholeH m n W H P, 0) := by
  have hi : ∀ j : Nat, ((((j + s) % c : Nat) : Int)) < cd W tw * cd H th := fun j => by
    have := Nat.mod_lt (j + s) (show 0 < c by omega)
    omega
  have hcol : ∀ b, 0 ≤ b → colsum b (lists (fun j => tileH m n W H tw th P (((j + s) % c : Nat) : Int)) c) = R m n b W P 0 W 0 H := fun b hb => by
    rw [lists_sum, ← tiles_all m n b W H tw th P hf c s hc hs]
    exact sumN_congr _ (fun j _ => (tileH_rd hV hl hn hn' hf (by omega) (hi j) b hb).1)
  obtain ⟨o, g1, g2, g3⟩ := merge_spec K (lists (fun j => tileH m n W H tw th P (((j + s) % c : Nat) : Int)) c) n.toNat (by omega) (by omega) (by rw [lists_len]; omega) (by rw [lists_len]; omega)
    (lists_all (fun x => x.length = n.toNat) _ c (fun j _ => tileH_len m n W H tw th P _)) (lists_all (fun x => ∀ v ∈ x, 0 ≤ v ∧ v ≤ 4096) _ c (fun j _ => tileH_all hV hl hn hn' hf (by omega) (hi j)))
    (fun b hb => by rw [hcol b hb]; exact (wholeH_rd hV hn hn' b hb).2.2) hK
  have e : o = wholeH m n W H P := rd_ext (by rw [g2]; unfold wholeH; rw [fill_len, List.length_replicate]) (fun b hb => by rw [g3 b hb, hcol b hb, (wholeH_rd hV hn hn' b hb).1])
  rw [g1, e]

theorem whole_in {W H m : Int} {P : List Int} {n : Int} (hV : PV W H m P) (hn : 1 ≤ n ∧ n ≤ 128) : whole W H m P n = (n, 1, wrap64 (W * H), wholeH m n W H P, 0) := by
  have hI : IN W H 0 0 W H := by have := hV.1; omega
  unfold whole
  rw [part_in hV hn hI, if_pos rfl]
  rfl

theorem law_end {m n W H tw th : Int} {P : List Int} (hV : PV W H m P) (hl : P.length ≤ 30) (hn : 1 ≤ n) (hn' : n ≤ 128) (hf : Fine W H tw th) (c s : Nat) (hc : (c : Int) = cd W tw * cd H th) (hs : s < c) (hc' : c ≤ 40) (a1 : Int) (k : Nat) (hk : 30000 ≤ k) :
    tilefarmlaw12_HistogramTiles.l0 (k + 1) a1 n tw th (cd W tw) (cd H th) (lists (fun j => tileH m n W H tw th P (((j + s) % c : Nat) : Int)) c) (c : Int) W H m P = some true := by
  have hwh := hV.1.2.2.2.2.1
  have h0 : 0 ≤ W * H := by rw [← hV.2.1]; omega
  have hlen : (wholeH m n W H P).length = n.toNat := by unfold wholeH; rw [fill_len, List.length_replicate]
  rw [tilefarmlaw12_HistogramTiles.l0, wrap_in (n := cd W tw * cd H th) (by omega) (by omega), if_neg (show ¬ (c : Int) < cd W tw * cd H th by omega), merged hV hl hn hn' hf c s hc hs hc' k (by omega), Option.bind_some, whole_p k W H m P n (by omega) (by omega), Option.bind_some, whole_in hV ⟨hn, hn'⟩]
  have hk2 : ∃ q, k = q + (wholeH m n W H P).length + 1 ∧ 2000 ≤ q := ⟨k - (wholeH m n W H P).length - 1, by omega, by omega⟩
  obtain ⟨q, hq, hq2⟩ := hk2
  rw [hq]
  exact law_l1 (wholeH m n W H P) W H m 1 (wrap64 (W * H)) P n (by omega) (fun v hv => by
    obtain ⟨b, hb, e⟩ := mem_rd hv
    obtain ⟨e1, e2, e3⟩ := wholeH_rd (n := n) hV hn hn' b hb
    rw [← e, e1]
    exact ⟨e2, e3⟩) (wholeH_sum hV hn hn') (wrap_in (by omega) (by omega)) _ q 0 0 (by omega) (Int.le_refl _) (by omega) (by simp) hq2

theorem turn_mod (i s c : Nat) (hc : 0 < c) (hc' : c ≤ 40) (hi : i < c) (hs : s < c) : Int.tmod (wrap64 ((i : Int) + (s : Int))) (c : Int) = (((i + s) % c : Nat) : Int) := by
  rw [wrap_in (by omega) (by omega), Int.tmod_eq_emod_of_nonneg (by omega)]
  rfl

theorem turn_lt (i s c : Nat) (hc : 0 < c) {x : Int} (h : (c : Int) = x) : 0 ≤ (((i + s) % c : Nat) : Int) ∧ (((i + s) % c : Nat) : Int) < x := by
  have := Nat.mod_lt (i + s) hc
  omega

theorem part_tile {m n W H tw th i : Int} {P : List Int} (hV : PV W H m P) (hl : P.length ≤ 30) (hn : 1 ≤ n) (hn' : n ≤ 128) (hf : Fine W H tw th) (h0 : 0 ≤ i) (hi : i < cd W tw * cd H th) (k : Nat) (hk : 30000 ≤ k) :
    histogram_Partial.f k W H m P n (i % cd W tw * tw) (i / cd W tw * th) (min (i % cd W tw * tw + tw) W) (min (i / cd W tw * th + th) H) = some (tileH m n W H tw th P i, 0) := by
  rw [part_p k W H m P n _ _ _ _ (by omega) (by omega), part_in hV ⟨hn, hn'⟩ (tile_in hf h0 hi)]
  rfl

theorem law_round {m n W H tw th : Int} {P : List Int} (hV : PV W H m P) (hl : P.length ≤ 30) (hn : 1 ≤ n) (hn' : n ≤ 128) (hf : Fine W H tw th) (c s : Nat) (hc : (c : Int) = cd W tw * cd H th) (hs : s < c) (hc' : c ≤ 40) (a1 : Int) (ha : a1 % (c : Int) = (s : Int)) (k : Nat) (hk : 30000 ≤ k) (i : Nat) (hi : i < c) (L : List (List Int)) (hL : L.length ≤ 100) :
    tilefarmlaw12_HistogramTiles.l0 (k + 1) a1 n tw th (cd W tw) (cd H th) L (i : Int) W H m P = tilefarmlaw12_HistogramTiles.l0 k a1 n tw th (cd W tw) (cd H th) (L ++ [tileH m n W H tw th P (((i + s) % c : Nat) : Int)]) ((i + 1 : Nat) : Int) W H m P := by
  have c0 : 0 < c := Nat.lt_of_le_of_lt (Nat.zero_le _) hs
  obtain ⟨m0, m1⟩ := turn_lt i s c c0 hc
  have w1 : wrap64 (c : Int) = (c : Int) := by clear hV hf m0 m1 hc ha; exact wrap_in (by omega) (by omega)
  have w2 : wrap64 ((i : Int) + 1) = ((i + 1 : Nat) : Int) := by clear hV hf m0 m1 hc ha; exact wrap_in (by omega) (by omega)
  have w3 : (i : Int) < (c : Int) := by clear hV hf m0 m1 hc ha; omega
  have w4 : (0 : Int) < (c : Int) := by clear hV hf m0 m1 hc ha; omega
  have w5 : (c : Int) ≤ 4611686018427387904 := by clear hV hf m0 m1 hc ha; omega
  have w6 : L.length < 5864062014805 := by clear hV hf m0 m1 hc ha; omega
  have w7 : 1 < k := by clear hV hf m0 m1 hc ha; omega
  rw [tilefarmlaw12_HistogramTiles.l0, ← hc, w1, if_pos w3, mod_eq a1 (c : Int) w4 w5, Option.bind_some, if_neg (Int.ne_of_gt w4), ha, turn_mod i s c c0 hc' hi hs, tile_eq w7 hf m0 m1, Option.bind_some, part_tile hV hl hn hn' hf m0 m1 k hk, Option.bind_some, if_pos rfl, if_pos w6, w2]

theorem law_l0 {m n W H tw th : Int} {P : List Int} (hV : PV W H m P) (hl : P.length ≤ 30) (hn : 1 ≤ n) (hn' : n ≤ 128) (hf : Fine W H tw th) (c s : Nat) (hc : (c : Int) = cd W tw * cd H th) (hs : s < c) (hc' : c ≤ 40) (a1 : Int) (ha : a1 % (c : Int) = (s : Int)) (k : Nat) (hk : 30000 ≤ k) :
    ∀ (d i : Nat), i + d = c → tilefarmlaw12_HistogramTiles.l0 (k + d + 1) a1 n tw th (cd W tw) (cd H th) (lists (fun j => tileH m n W H tw th P (((j + s) % c : Nat) : Int)) i) (i : Int) W H m P = some true
  | 0, i, hi => by
    have : i = c := hi
    rw [this]
    exact law_end hV hl hn hn' hf c s hc hs hc' a1 k hk
  | d + 1, i, hi => by
    have ih := law_l0 hV hl hn hn' hf c s hc hs hc' a1 ha k hk d (i + 1) (by clear hV hf hc ha; omega)
    have h1 : 30000 ≤ k + d + 1 := by clear hV hf hc ha; omega
    have h2 : i < c := by clear hV hf hc ha; omega
    refine (law_round hV hl hn hn' hf c s hc hs hc' a1 ha (k + d + 1) h1 i h2 _ ?_).trans ih
    rw [lists_len]
    clear hV hf hc ha
    omega

theorem law_go {m n W H tw th : Int} {P : List Int} (hV : PV W H m P) (hW : W ≤ 6) (hH : H ≤ 5) (hl : P.length ≤ 30) (hn : 1 ≤ n) (hn' : n ≤ 128) (hf : Fine W H tw th) (a1 : Int) (F : Nat) (hF : 30100 ≤ F) :
    tilefarmlaw12_HistogramTiles.l0 F a1 n tw th (cd W tw) (cd H th) [] 0 W H m P = some true := by
  have hc := cd_spec hf.1 hf.2.2.2.2.1
  have hr := cd_spec hf.2.2.1 hf.2.2.2.2.2.2.1
  have hm := mul_bd (x := cd W tw) (y := cd H th) (B := 6) (C := 5) (by omega) (by omega) (by omega) (by omega)
  have hm1 := mul_bd (x := cd W tw - 1) (y := cd H th - 1) (B := 6) (C := 5) (by omega) (by omega) (by omega) (by omega)
  have hpos : 1 ≤ cd W tw * cd H th := by
    have e : cd W tw * 1 ≤ cd W tw * cd H th := Int.mul_le_mul_of_nonneg_left hr.1 (by omega)
    rw [Int.mul_one] at e
    exact Int.le_trans hc.1 e
  obtain ⟨c, hcc⟩ : ∃ c : Nat, (c : Int) = cd W tw * cd H th := ⟨(cd W tw * cd H th).toNat, Int.toNat_of_nonneg hm.1⟩
  have s0 := Int.emod_nonneg a1 (show (c : Int) ≠ 0 by omega)
  have s1 := Int.emod_lt_of_pos a1 (show (0 : Int) < (c : Int) by omega)
  obtain ⟨s, hs⟩ : ∃ s : Nat, (s : Int) = a1 % (c : Int) := ⟨(a1 % (c : Int)).toNat, Int.toNat_of_nonneg s0⟩
  have hc40 : c ≤ 40 := by clear hV hf hs s0 s1 hm1; omega
  obtain ⟨k, hk, hk2⟩ : ∃ k, F = k + c + 1 ∧ 30000 ≤ k := ⟨F - c - 1, by clear hV hf hs s0 s1 hm1 hm; omega, by clear hV hf hs s0 s1 hm1 hm; omega⟩
  rw [hk]
  exact law_l0 hV hl hn hn' hf c s hcc (by rw [← hs] at s1; exact Int.ofNat_lt.1 s1) hc40 a1 hs.symm k hk2 c 0 (Nat.zero_add c)

theorem HistogramTiles : tilefarmlaw12_HistogramTiles.Pure := by
  intro t a1 hl hl8 _ _
  have ht : t.length ≤ 4611686018427387904 := by omega
  obtain ⟨K, hK⟩ : ∃ K : Nat, 30100 ≤ K := ⟨30100, Nat.le_refl _⟩
  refine ⟨K, ?_⟩
  obtain ⟨p, h1, p1, p2, p3, p4, p5, p6, p7, p8, p9⟩ := plane_spec K (by omega) t ht 0 (Int.le_refl _)
  obtain ⟨r1, g1, g1a, g1b, g1c⟩ := next_o t p.2.2.2.2 9 p9 ht (by omega) (by omega)
  obtain ⟨r2, g2, g2a, g2b, g2c⟩ := next_o t r1.2 3 g1c ht (by omega) (by omega)
  obtain ⟨r3, g3, g3a, g3b, g3c⟩ := next_o t r2.2 3 g2c ht (by omega) (by omega)
  have w1 : wrap64 (1 + r1.1) = 1 + r1.1 := wrap_in (by omega) (by omega)
  have w2 : wrap64 (1 + r2.1) = 1 + r2.1 := wrap_in (by omega) (by omega)
  have w3 : wrap64 (1 + r3.1) = 1 + r3.1 := wrap_in (by omega) (by omega)
  have hf : Fine p.1 p.2.1 (1 + r2.1) (1 + r3.1) := by omega
  obtain ⟨hV, hlen⟩ := plane_PV p1 p2 p3 p4 p5 p6 p7 p8
  unfold tilefarmlaw12_HistogramTiles.f tilefarmgen_New.f
  rw [Option.bind_some, h1, Option.bind_some, g1, Option.bind_some, g2, Option.bind_some, g3, Option.bind_some, w1, w2, w3, count_eq (by omega), if_pos hf, Option.bind_some]
  exact law_go hV p2 p4 hlen (by omega) (by omega) hf a1 K hK


end Go.Proofs.Yticicecobchdiaa.Pure
namespace Go.Proofs.Yticicecobchdiaa
open Go.ChangeShapes Go.WideShapes
/-- The print's own word, under the name that the printed row uses. -/
theorem PrintWords.sized_ints {H : Type} {enc : TypeId × Value → H} {P : Program} {W : World} {base : Nat} {spare : Nat → Bool} {held : Bool} {t e : TypeId} {k : IntKind} {a : Option Addr} {len cap : Nat} {d : DataW H} {ps : List MemPlace} {ts : List TypeId} {ds : List (DataW H)} {j : Nat}
    (hsz : (DataW.weightsEach P ts ds).all (· ≤ reachBytes) = true) (ht : ts[j]? = some t) (hd : ds[j]? = some d) (hu : P.underlying t = some (.slice e)) (he : P.underlying e = some (.int k)) (hc : P.cellsOf e = 1) {B : Nat} (hB : P.bytesOf e = B)
    (h : DataW.Trod enc P W base spare held t (.slice a len cap) d ps) : len * B ≤ 140737488351232 :=
  Go.Proofs.YticicecobchdiaaW.PrintWords.sized_ints hsz ht hd hu he hc hB h
end Go.Proofs.Yticicecobchdiaa

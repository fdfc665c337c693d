/- With wrapping edges, moving a plane cyclically moves its convolution: for every tape and every number. -/
import Derived.Test.YthgmndomnibefaaKConvolveMovesx12
import Derived.Test.YthgmndomnibefaaKConvolveMovesa
namespace Go.Proofs.Ythgmndomnibefaa.Pure
open Go.RowKit Go.Proofs.Ythgmndomnibefaa.PConvolveMoves Go.Proofs.YthgmndomnibefaaW.PrintWords Go.Proofs.YthgmndomnibefaaW.PrintLast Go.Proofs.YthgmndomnibefaaW.PrintMore
set_option linter.unusedVariables false
set_option linter.unusedSimpArgs false

theorem wrap_in {n : Int} (h : -9223372036854775808 ≤ n) (h' : n ≤ 9223372036854775807) : wrap64 n = n := by unfold wrap64; omega

theorem tmod_emod (a n : Int) (h : 0 < n) : (0 ≤ Int.tmod a n ∧ Int.tmod a n = a % n) ∨ (Int.tmod a n < 0 ∧ Int.tmod a n + n = a % n) := by
  have h1 := Int.tmod_eq_emod (a := a) (b := n)
  have h2 := Int.emod_nonneg a (by omega : n ≠ 0)
  have h3 := Int.emod_lt_of_pos a h
  split at h1 <;> omega

theorem mod_eq (a n : Int) (h : 0 < n) (hn : n ≤ 4611686018427387904) : tilefarmgen_Mod.f a n = some (a % n) := by
  have h2 := Int.emod_nonneg a (by omega : n ≠ 0)
  have h3 := Int.emod_lt_of_pos a h
  unfold tilefarmgen_Mod.f
  rw [if_neg (by omega)]
  rcases tmod_emod a n h with ⟨h4, h5⟩ | ⟨h4, h5⟩
  · rw [if_neg (by omega), h5]
  · rw [if_pos h4, wrap_in (by omega) (by omega), h5]

theorem sd_true {p : Prop} [Decidable p] (h : p) : some true = some (decide p) := by rw [decide_eq_true h]
theorem sd_false {p : Prop} [Decidable p] (h : ¬ p) : some false = some (decide p) := by rw [decide_eq_false h]
theorem sd_iff {p q : Prop} [Decidable p] [Decidable q] (h : q ↔ p) : some (decide q) = some (decide p) := by rw [decide_eq_decide.2 h]

theorem mx_max (a b : Int) : mx a b = max a b := by unfold mx; omega
theorem mn_min (a b : Int) : mn a b = min a b := by unfold mn; omega

theorem mul_bd {x y B C : Int} (hx : 0 ≤ x) (hy : 0 ≤ y) (hxB : x ≤ B) (hyB : y ≤ C) : 0 ≤ x * y ∧ x * y ≤ B * C :=
  ⟨Int.mul_nonneg hx hy, Int.mul_le_mul hxB hyB hy (by omega)⟩

theorem dec_iff {p q : Prop} [Decidable p] [Decidable q] (h : p ↔ q) : decide p = decide q := decide_eq_decide.2 h
theorem and_not_dec (p q : Prop) [Decidable p] [Decidable q] : (decide p && !decide q) = decide (p ∧ ¬ q) := by
  by_cases hp : p <;> by_cases hq : q <;> simp [hp, hq]

theorem wrap64_range (n : Int) : -9223372036854775808 ≤ wrap64 n ∧ wrap64 n ≤ 9223372036854775807 := by unfold wrap64; omega

theorem wf_range {n : Int} (h : (Lit.int .i64 n).wf = true) : -9223372036854775808 ≤ n ∧ n ≤ 9223372036854775807 := by
  simp only [Lit.wf, IntKind.min, IntKind.max, IntKind.signed, IntKind.bits, Bool.and_eq_true, decide_eq_true_eq, if_true] at h
  omega


theorem next_spec (l : List Int) (s n : Int) (hs : 0 ≤ s) (hl : l.length ≤ 4611686018427387904) (h : 0 < n) (hn : n ≤ 4611686018427387904) :
    ∃ r s', tilefarmgen_Tape_Next.f l s n = some (r, s') ∧ 0 ≤ r ∧ r < n ∧ 0 ≤ s' := by
  unfold tilefarmgen_Tape_Next.f
  rw [if_neg (by omega)]
  by_cases h1 : s ≥ (l.length : Int)
  · rw [if_pos h1]; exact ⟨_, _, rfl, by omega, by omega, hs⟩
  · have e1 : wrap64 (s + 1) = s + 1 := wrap_in (by omega) (by omega)
    have e2 : wrap64 (s + 1 - 1) = s := by rw [wrap_in (by omega) (by omega)]; omega
    rw [if_neg h1]
    simp only [e1, e2]
    rw [if_pos hs, if_pos (by omega), mod_eq _ _ h hn]
    exact ⟨_, _, rfl, Int.emod_nonneg _ (by omega), Int.emod_lt_of_pos _ h, by omega⟩


theorem rd_mem (l : List Int) (i : Nat) (h : i < l.length) : rd l (i : Int) ∈ l := by
  simp [rd, h]

theorem rd_drop (l : List Int) (i : Nat) (h : i < l.length) : l.drop i = rd l (i : Int) :: l.drop (i + 1) := by
  rw [List.drop_eq_getElem_cons h]
  simp [rd, h]

theorem next_o (l : List Int) (s n : Int) (hs : 0 ≤ s) (hl : l.length ≤ 4611686018427387904) (h : 0 < n) (hn : n ≤ 4611686018427387904) :
    ∃ bt, tilefarmgen_Tape_Next.f l s n = some bt ∧ 0 ≤ bt.1 ∧ bt.1 < n ∧ 0 ≤ bt.2 := by
  obtain ⟨r, s', h1, h2, h3, h4⟩ := next_spec l s n hs hl h hn
  exact ⟨(r, s'), h1, h2, h3, h4⟩

theorem pick_o (l : List Int) (s : Int) (xs : List Int) (hs : 0 ≤ s) (hl : l.length ≤ 4611686018427387904) (h : 0 < xs.length) (hx : xs.length ≤ 100) :
    ∃ bt, tilefarmgen_Tape_Pick.f l s xs = some bt ∧ bt.1 ∈ xs ∧ 0 ≤ bt.2 := by
  obtain ⟨r, s', h1, h2, h3, h4⟩ := next_spec l s (xs.length : Int) hs hl (by omega) (by omega)
  refine ⟨(rd xs r, s'), ?_, ?_, h4⟩
  · unfold tilefarmgen_Tape_Pick.f
    rw [h1, Option.bind_some, if_pos h2, if_pos h3]
  · obtain ⟨n, rfl⟩ := Int.eq_ofNat_of_zero_le h2
    exact rd_mem xs n (by omega)


abbrev V (a b c d : Int) : Prop := (a = 0 ∧ b = 0 ∧ c = 0 ∧ d = 0) ∨ (-1048576 ≤ a ∧ a ≤ 1048576 ∧ -1048576 ≤ b ∧ b ≤ 1048576 ∧ -1048576 ≤ c ∧ c ≤ 1048576 ∧ -1048576 ≤ d ∧ d ≤ 1048576 ∧ a < c ∧ b < d)

theorem empty_eq (a b c d : Int) : rect_Empty.f a b c d = some (decide (a = 0 ∧ b = 0 ∧ c = 0 ∧ d = 0)) := by
  unfold rect_Empty.f
  congr 1
  rw [Bool.eq_iff_iff]
  simp

theorem coord_eq (a : Int) : rect_coord.f a = some (decide (-1048576 ≤ a ∧ a ≤ 1048576)) := by
  unfold rect_coord.f
  split <;> congr 1 <;> rw [Bool.eq_iff_iff] <;> simp <;> omega

theorem valid_eq (a b c d : Int) : rect_Valid.f a b c d = some (decide (V a b c d)) := by
  unfold rect_Valid.f
  simp only [empty_eq, coord_eq, Option.bind_some, decide_eq_true_eq]
  repeat' split
  all_goals first | (refine sd_iff ?_; omega) | (refine sd_true ?_; omega) | (refine sd_false ?_; omega)

def ix (a0 a1 a2 a3 b0 b1 b2 b3 : Int) : Int × Int × Int × Int :=
  if V a0 a1 a2 a3 ∧ V b0 b1 b2 b3 ∧ mx a0 b0 < mn a2 b2 ∧ mx a1 b1 < mn a3 b3 then (mx a0 b0, mx a1 b1, mn a2 b2, mn a3 b3) else (0, 0, 0, 0)

theorem intersect_eq (k : Nat) (a0 a1 a2 a3 b0 b1 b2 b3 : Int) : rect_Intersect.f (k + 1) a0 a1 a2 a3 b0 b1 b2 b3 = some (ix a0 a1 a2 a3 b0 b1 b2 b3) := by
  unfold rect_Intersect.f ix
  simp only [valid_eq, Option.bind_some, rect_Intersect.j0, decide_eq_true_eq, Bool.not_eq_true', decide_eq_false_iff_not, if_true]
  by_cases h1 : V a0 a1 a2 a3
  · by_cases h2 : V b0 b1 b2 b3
    · rw [if_pos h1, if_neg (fun h => h h2)]
      by_cases h3 : mx a0 b0 < mn a2 b2
      · by_cases h4 : mx a1 b1 < mn a3 b3
        · rw [if_neg (by omega), if_neg (by omega), if_pos ⟨h1, h2, h3, h4⟩]
        · rw [if_neg (by omega), if_pos (by omega), if_neg (fun h => h4 h.2.2.2)]
      · rw [if_pos (by omega), if_neg (fun h => h3 h.2.2.1)]
    · rw [if_pos h1, if_pos h2, if_neg (fun h => h2 h.2.1)]
  · rw [if_neg h1, if_neg (fun h => h1 h.1)]

theorem ix_spec {a0 a1 a2 a3 b0 b1 b2 b3 c0 c1 c2 c3 : Int} (hc : ix a0 a1 a2 a3 b0 b1 b2 b3 = (c0, c1, c2, c3)) (ha : V a0 a1 a2 a3) (hb : V b0 b1 b2 b3) :
    (c0 = 0 ∧ c1 = 0 ∧ c2 = 0 ∧ c3 = 0 ∧ (min a2 b2 ≤ max a0 b0 ∨ min a3 b3 ≤ max a1 b1)) ∨ (c0 = max a0 b0 ∧ c1 = max a1 b1 ∧ c2 = min a2 b2 ∧ c3 = min a3 b3 ∧ c0 < c2 ∧ c1 < c3) := by
  simp only [ix, mx_max, mn_min] at hc
  split at hc
  · next h =>
    simp only [Prod.mk.injEq] at hc
    exact .inr (by omega)
  · next h =>
    simp only [Prod.mk.injEq] at hc
    refine .inl ?_
    have : ¬ (max a0 b0 < min a2 b2 ∧ max a1 b1 < min a3 b3) := fun h' => h ⟨ha, hb, h'⟩
    omega

theorem ix_inside {a0 a1 a2 a3 b0 b1 b2 b3 c0 c1 c2 c3 : Int} (h : (c0 = 0 ∧ c1 = 0 ∧ c2 = 0 ∧ c3 = 0 ∧ (min a2 b2 ≤ max a0 b0 ∨ min a3 b3 ≤ max a1 b1)) ∨ (c0 = max a0 b0 ∧ c1 = max a1 b1 ∧ c2 = min a2 b2 ∧ c3 = min a3 b3 ∧ c0 < c2 ∧ c1 < c3))
    (hy : ¬ (c0 = 0 ∧ c1 = 0 ∧ c2 = 0 ∧ c3 = 0)) : a0 ≤ c0 ∧ c0 < c2 ∧ c2 ≤ a2 ∧ a1 ≤ c1 ∧ c1 < c3 ∧ c3 ≤ a3 := by
  rcases h with h | h
  · exact absurd ⟨h.1, h.2.1, h.2.2.1, h.2.2.2.1⟩ hy
  · omega

theorem V_range {a b c d : Int} (h : V a b c d) : -1048576 ≤ a ∧ c ≤ 1048576 ∧ -1048576 ≤ b ∧ d ≤ 1048576 := by omega
theorem V_mono {a b c d : Int} (h : V a b c d) : a ≤ c ∧ b ≤ d := by omega


theorem mul_some (a b c : Int) : ∃ p, extent_Mul.f a b c = some p := by
  unfold extent_Mul.f
  by_cases c1 : a < 0
  · rw [if_pos c1]; exact ⟨_, rfl⟩
  · rw [if_neg c1]
    by_cases c2 : b < 0
    · rw [if_pos c2]; exact ⟨_, rfl⟩
    · rw [if_neg c2]
      by_cases c3 : c < 0
      · rw [if_pos c3]; exact ⟨_, rfl⟩
      · rw [if_neg c3]
        by_cases c4 : a = 0
        · rw [if_pos c4]; exact ⟨_, rfl⟩
        · rw [if_neg c4]
          by_cases c5 : b > wrap64 (Int.tdiv c a)
          · rw [if_pos c5]; exact ⟨_, rfl⟩
          · rw [if_neg c5]; exact ⟨_, rfl⟩

/-- Which sizes a plane can have. -/
abbrev SZ (a b m : Int) : Prop := 1 ≤ a ∧ a ≤ 128 ∧ 1 ≤ b ∧ b ≤ 128 ∧ a * b ≤ 4096 ∧ 1 ≤ m ∧ m ≤ 4294967296

theorem size_no {a b m : Int} (h : ¬ SZ a b m) : some false = some (decide (SZ a b m)) := by rw [decide_eq_false h]

theorem size_val (a b m : Int) : plane_size.f a b m = some (decide (SZ a b m)) := by
  unfold plane_size.f
  by_cases c1 : a ≥ 1
  · by_cases c2 : a ≤ 128
    · by_cases c3 : b ≥ 1
      · by_cases c4 : b ≤ 128
        · obtain ⟨b0, b1⟩ := mul_bd (x := a) (y := b) (B := 128) (C := 128) (by omega) (by omega) c2 c4
          have hq : b ≤ 4096 / a ↔ b * a ≤ 4096 := Int.le_ediv_iff_mul_le (by omega)
          have q0 : 0 ≤ 4096 / a := Int.ediv_nonneg (by decide) (by omega)
          have q1 : 4096 / a ≤ 4096 := Int.ediv_le_self _ (by decide)
          rw [Int.mul_comm b a] at hq
          unfold extent_Mul.f
          rw [if_neg (show ¬ a < 0 by omega), if_neg (show ¬ b < 0 by omega), if_neg (show ¬ (4096 : Int) < 0 by decide), if_neg (show ¬ a = 0 by omega), Int.tdiv_eq_ediv_of_nonneg (by decide), wrap_in (n := 4096 / a) (by omega) (by omega), wrap_in (n := a * b) (by omega) (by omega)]
          by_cases c5 : b > 4096 / a
          · rw [if_pos c5]
            exact size_no (fun h => by have := hq.2 h.2.2.2.2.1; omega)
          · rw [if_neg c5, Option.bind_some]
            simp only [if_pos c1, if_pos c2, if_pos c3, if_pos c4, if_true]
            by_cases c6 : m ≥ 1
            · rw [if_pos c6]
              have := hq.1 (by omega)
              exact congrArg some (decide_eq_decide.2 ⟨fun h => ⟨c1, c2, c3, c4, this, c6, h⟩, fun h => h.2.2.2.2.2.2⟩)
            · rw [if_neg c6]
              exact size_no (fun h => c6 h.2.2.2.2.2.1)
        · obtain ⟨p, hp⟩ := mul_some a b 4096
          rw [hp, Option.bind_some]
          simp only [if_pos c1, if_pos c2, if_pos c3, if_neg c4, ite_self]
          exact size_no (fun h => c4 h.2.2.2.1)
      · obtain ⟨p, hp⟩ := mul_some a b 4096
        rw [hp, Option.bind_some]
        simp only [if_pos c1, if_pos c2, if_neg c3, ite_self]
        exact size_no (fun h => c3 h.2.2.1)
    · obtain ⟨p, hp⟩ := mul_some a b 4096
      rw [hp, Option.bind_some]
      simp only [if_pos c1, if_neg c2, ite_self]
      exact size_no (fun h => c2 h.2.1)
  · obtain ⟨p, hp⟩ := mul_some a b 4096
    rw [hp, Option.bind_some]
    simp only [if_neg c1, ite_self]
    exact size_no (fun h => c1 h.1)

/-- Which planes are valid. -/
abbrev PV (a b m : Int) (l : List Int) : Prop := SZ a b m ∧ (l.length : Int) = a * b ∧ ∀ v ∈ l, 0 ≤ v ∧ v ≤ m

theorem vloop_spec (a b m : Int) (l : List Int) (hl : l.length ≤ 4611686018427387904) : ∀ (d k i : Nat), i + d = l.length → d < k →
    plane_Valid.l0 k l (l.length : Int) (i : Int) a b m l = some (decide (∀ v ∈ l.drop i, 0 ≤ v ∧ v ≤ m))
  | 0, k, i, hi, hk => by
    obtain ⟨k, rfl⟩ : ∃ n, k = n + 1 := ⟨k - 1, by omega⟩
    rw [plane_Valid.l0, if_neg (show ¬ (i : Int) < (l.length : Int) by omega), List.drop_eq_nil_of_le (by omega)]
    simp
  | d + 1, k, i, hi, hk => by
    obtain ⟨k, rfl⟩ : ∃ n, k = n + 1 := ⟨k - 1, by omega⟩
    rw [plane_Valid.l0, rd_drop l i (by omega)]
    simp only [if_pos (show (i : Int) < (l.length : Int) by omega), if_pos (show 0 ≤ (i : Int) by omega), List.mem_cons, forall_eq_or_imp]
    rw [wrap_in (n := (i : Int) + 1) (by omega) (by omega), show ((i : Int) + 1) = ((i + 1 : Nat) : Int) from rfl, vloop_spec a b m l hl d k (i + 1) (by omega) (by omega)]
    by_cases c1 : rd l (i : Int) < 0
    · rw [if_pos c1]
      exact sd_false (fun h => by omega)
    · rw [if_neg c1]
      by_cases c2 : rd l (i : Int) > m
      · rw [if_pos c2]
        exact sd_false (fun h => by omega)
      · rw [if_neg c2]
        exact sd_iff ⟨fun h => ⟨by omega, h⟩, fun h => h.2⟩

theorem pvalid_spec (k : Nat) (a b m : Int) (l : List Int) (hl : l.length ≤ 4611686018427387904) (hk : l.length + 1 < k) : plane_Valid.f k a b m l = some (decide (PV a b m l)) := by
  obtain ⟨k, rfl⟩ : ∃ n, k = n + 1 := ⟨k - 1, by omega⟩
  unfold plane_Valid.f
  rw [size_val, Option.bind_some]
  by_cases c1 : SZ a b m
  · rw [decide_eq_true c1, if_pos rfl]
    obtain ⟨b0, b1⟩ := mul_bd (x := a) (y := b) (B := 128) (C := 128) (by omega) (by omega) c1.2.1 c1.2.2.2.1
    simp only [plane_Valid.j0]
    rw [wrap_in (n := a * b) (by omega) (by omega)]
    by_cases c2 : (l.length : Int) = a * b
    · rw [bne_eq_false_iff_eq.2 c2, if_neg Bool.false_ne_true]
      have hv := vloop_spec a b m l hl l.length k 0 (by omega) (by omega)
      rw [List.drop_zero] at hv
      exact hv.trans (sd_iff ⟨fun h => ⟨c1, c2, h⟩, fun h => h.2.2⟩)
    · rw [bne_iff_ne.2 c2, if_pos rfl]
      exact sd_false (fun h => c2 h.2.1)
  · rw [decide_eq_false c1, if_neg Bool.false_ne_true]
    exact sd_false (fun h => c1 h.1)


theorem set_all (P : Int → Prop) (l : List Int) (i : Nat) (v : Int) (h : ∀ x ∈ l, P x) (hv : P v) : ∀ x ∈ l.set i v, P x := by
  intro x hx
  rcases List.mem_or_eq_of_mem_set hx with hx | hx
  · exact h x hx
  · rw [hx]; exact hv

theorem sized_loop (t : List Int) (ht : t.length ≤ 4611686018427387904) (a b m : Int) (hm : 1 ≤ m) (hm' : m ≤ 4294967296) : ∀ (d k i : Nat) (s : Int) (l : List Int), 0 ≤ s → i + d = l.length → l.length ≤ 100000 → d < k →
    (∀ v ∈ l, 0 ≤ v ∧ v ≤ m) → ∃ bt, tilefarmgen_Tape_Sized.l0 k (i : Int) t s a b m l = some bt ∧ bt.1 = a ∧ bt.2.1 = b ∧ bt.2.2.1 = m ∧ bt.2.2.2.1.length = l.length ∧ (∀ v ∈ bt.2.2.2.1, 0 ≤ v ∧ v ≤ m) ∧ 0 ≤ bt.2.2.2.2
  | 0, k, i, s, l, hs, hi, hl, hk, hv => by
    obtain ⟨k, rfl⟩ : ∃ n, k = n + 1 := ⟨k - 1, by omega⟩
    rw [tilefarmgen_Tape_Sized.l0, if_neg (show ¬ (i : Int) < (l.length : Int) by omega)]
    exact ⟨_, rfl, rfl, rfl, rfl, rfl, hv, hs⟩
  | d + 1, k, i, s, l, hs, hi, hl, hk, hv => by
    obtain ⟨k, rfl⟩ : ∃ n, k = n + 1 := ⟨k - 1, by omega⟩
    rw [tilefarmgen_Tape_Sized.l0, if_pos (show (i : Int) < (l.length : Int) by omega), wrap_in (n := m + 1) (by omega) (by omega)]
    obtain ⟨r1, h1, h1a, h1b, h1c⟩ := next_o t s (m + 1) hs ht (by omega) (by omega)
    obtain ⟨r2, h2, h2a, h2b, h2c⟩ := next_o t r1.2 (m + 1) h1c ht (by omega) (by omega)
    obtain ⟨r3, h3, h3a, h3b⟩ := pick_o t r2.2 [r1.1, r2.1, m, 0] h2c ht (by simp) (by simp)
    rw [h1, Option.bind_some, h2, Option.bind_some, h3, Option.bind_some, if_pos (show 0 ≤ (i : Int) by omega), wrap_in (n := (i : Int) + 1) (by omega) (by omega)]
    have hr : 0 ≤ r3.1 ∧ r3.1 ≤ m := by
      simp only [List.mem_cons, List.not_mem_nil, or_false] at h3a
      clear h1 h2 h3 hv
      omega
    obtain ⟨bt, g1, g2, g3, g4, g5, g6, g7⟩ := sized_loop t ht a b m hm hm' d k (i + 1) r3.2 (l.set (i : Int).toNat r3.1) h3b (by rw [List.length_set]; omega) (by rw [List.length_set]; omega) (by omega) (set_all _ l _ _ hv hr)
    exact ⟨bt, g1, g2, g3, g4, by rw [g5, List.length_set], g6, g7⟩

theorem sized_spec (K : Nat) (hK : 2000 ≤ K) (t : List Int) (ht : t.length ≤ 4611686018427387904) (s a b : Int) (hs : 0 ≤ s) (ha : 1 ≤ a) (ha' : a ≤ 30) (hb : 1 ≤ b) (hb' : b ≤ 30) :
    ∃ bt, tilefarmgen_Tape_Sized.f K t s a b = some bt ∧ bt.1 = a ∧ bt.2.1 = b ∧ 1 ≤ bt.2.2.1 ∧ bt.2.2.1 ≤ 65535 ∧ (bt.2.2.2.1.length : Int) = a * b ∧ (∀ v ∈ bt.2.2.2.1, 0 ≤ v ∧ v ≤ bt.2.2.1) ∧ 0 ≤ bt.2.2.2.2 := by
  obtain ⟨r, h1, h1a, h1b⟩ := pick_o t s [255, 255, 65535, 1, 7] hs ht (by simp) (by simp)
  have hr : 1 ≤ r.1 ∧ r.1 ≤ 65535 := by
    simp only [List.mem_cons, List.not_mem_nil, or_false] at h1a
    clear h1
    omega
  obtain ⟨m0, m1⟩ := mul_bd (x := a) (y := b) (B := 30) (C := 30) (by omega) (by omega) ha' hb'
  unfold tilefarmgen_Tape_Sized.f
  rw [h1, Option.bind_some, wrap_in (n := a * b) (by omega) (by omega), if_pos m0, if_pos (show (a * b : Int).toNat ≤ 35184372088832 by omega)]
  obtain ⟨bt, g1, g2, g3, g4, g5, g6, g7⟩ := sized_loop t ht a b r.1 hr.1 (by omega) (a * b : Int).toNat K 0 r.2 (List.replicate (a * b : Int).toNat 0) h1b (by rw [List.length_replicate]; omega) (by rw [List.length_replicate]; omega) (by omega) (fun v hv => by rw [List.eq_of_mem_replicate hv]; omega)
  rw [List.length_replicate] at g5
  exact ⟨bt, g1, g2, g3, by rw [g4]; exact hr.1, by rw [g4]; exact hr.2, by rw [g5]; omega, by rw [g4]; exact g6, g7⟩

theorem plane_spec (K : Nat) (hK : 2000 ≤ K) (t : List Int) (ht : t.length ≤ 4611686018427387904) (s : Int) (hs : 0 ≤ s) :
    ∃ bt, tilefarmgen_Tape_Plane.f K t s = some bt ∧ 1 ≤ bt.1 ∧ bt.1 ≤ 6 ∧ 1 ≤ bt.2.1 ∧ bt.2.1 ≤ 5 ∧ 1 ≤ bt.2.2.1 ∧ bt.2.2.1 ≤ 65535 ∧ (bt.2.2.2.1.length : Int) = bt.1 * bt.2.1 ∧ (∀ v ∈ bt.2.2.2.1, 0 ≤ v ∧ v ≤ bt.2.2.1) ∧ 0 ≤ bt.2.2.2.2 := by
  obtain ⟨r1, h1, h1a, h1b, h1c⟩ := next_o t s 6 hs ht (by omega) (by omega)
  obtain ⟨r2, h2, h2a, h2b, h2c⟩ := next_o t r1.2 5 h1c ht (by omega) (by omega)
  obtain ⟨bt, g1, g2, g3, g4, g5, g6, g7, g8⟩ := sized_spec K hK t ht r2.2 (1 + r1.1) (1 + r2.1) h2c (by omega) (by omega) (by omega) (by omega)
  refine ⟨bt, ?_, by omega, by omega, by omega, by omega, g4, g5, by rw [g6, g2, g3], g7, g8⟩
  unfold tilefarmgen_Tape_Plane.f
  rw [h1, Option.bind_some, h2, Option.bind_some, wrap_in (n := 1 + r1.1) (by omega) (by omega), wrap_in (n := 1 + r2.1) (by omega) (by omega), g1, Option.bind_some]

theorem plane_PV {a b m : Int} {l : List Int} (h1 : 1 ≤ a) (h2 : a ≤ 6) (h3 : 1 ≤ b) (h4 : b ≤ 5) (h5 : 1 ≤ m) (h6 : m ≤ 65535) (h7 : (l.length : Int) = a * b) (h8 : ∀ v ∈ l, 0 ≤ v ∧ v ≤ m) : PV a b m l ∧ l.length ≤ 30 := by
  obtain ⟨m0, m1⟩ := mul_bd (x := a) (y := b) (B := 6) (C := 5) (by omega) (by omega) h2 h4
  exact ⟨⟨⟨h1, by omega, h3, by omega, by omega, h5, by omega⟩, h7, h8⟩, by omega⟩


theorem bvalid_ok (k : Nat) (hk : 0 < k) (p f m : Int) (h0 : 0 ≤ p) (h1 : p ≤ 3) (hf : 0 ≤ f) (hf' : f ≤ m) (h : p = 3 ∨ f = 0) : border_Valid.f k p f m = some true := by
  obtain ⟨k, rfl⟩ : ∃ n, k = n + 1 := ⟨k - 1, by omega⟩
  unfold border_Valid.f
  by_cases c0 : p = 0
  · rw [if_pos c0]
    simp only [border_Valid.j0, c0, beq_self_eq_true, if_true]
    rw [show f = 0 by omega]; rfl
  · rw [if_neg c0]
    by_cases c1 : p = 1
    · rw [if_pos c1]
      simp only [border_Valid.j0, c1, beq_self_eq_true, if_true]
      rw [show f = 0 by omega]; rfl
    · rw [if_neg c1]
      by_cases c2 : p = 2
      · simp only [border_Valid.j0, c2, beq_self_eq_true, if_true]
        rw [show f = 0 by omega]; rfl
      · have e : (p == 2) = false := beq_eq_false_iff_ne.2 c2
        simp only [border_Valid.j0, e, if_neg Bool.false_ne_true]
        rw [if_pos (show p = 3 by omega), if_pos (show f ≥ 0 from hf), decide_eq_true hf']


/-- The rectangle is full and in the plane. -/
abbrev IN (W H x0 y0 x1 y1 : Int) : Prop := 0 ≤ x0 ∧ x0 < x1 ∧ x1 ≤ W ∧ 0 ≤ y0 ∧ y0 < y1 ∧ y1 ≤ H

theorem inside_p (k : Nat) {W H : Int} (hW : 1 ≤ W) (hW' : W ≤ 128) (hH : 1 ≤ H) (hH' : H ≤ 128) {a b c d : Int} (hz : ¬ (a = 0 ∧ b = 0 ∧ c = 0 ∧ d = 0)) : rect_Inside.f (k + 1) a b c d 0 0 W H = some (decide (IN W H a b c d)) := by
  have hb : V 0 0 W H := .inr (by omega)
  unfold rect_Inside.f
  rw [valid_eq, Option.bind_some]
  by_cases ha : V a b c d
  · rw [decide_eq_true ha, if_pos rfl, valid_eq, Option.bind_some, decide_eq_true hb, if_pos rfl, intersect_eq, Option.bind_some]
    simp only [ix, mx_max, mn_min]
    by_cases h : max a 0 < min c W ∧ max b 0 < min d H
    · rw [if_pos ⟨ha, hb, h.1, h.2⟩]
      congr 1
      rw [Bool.eq_iff_iff]
      simp only [Bool.and_eq_true, beq_iff_eq, decide_eq_true_eq]
      omega
    · rw [if_neg (fun g => h g.2.2)]
      congr 1
      rw [Bool.eq_iff_iff]
      simp only [Bool.and_eq_true, beq_iff_eq, decide_eq_true_eq]
      omega
  · rw [decide_eq_false ha, if_neg Bool.false_ne_true]
    exact sd_false (fun g => ha (.inr (by omega)))


theorem bmod_eq (a n : Int) (h : 0 < n) (hn : n ≤ 4611686018427387904) : border_mod.f a n = some (a % n) := by
  have h2 := Int.emod_nonneg a (by omega : n ≠ 0)
  have h3 := Int.emod_lt_of_pos a h
  unfold border_mod.f
  rw [if_neg (by omega)]
  rcases tmod_emod a n h with ⟨h4, h5⟩ | ⟨h4, h5⟩
  · rw [if_neg (by omega), h5]
  · rw [if_pos h4, wrap_in (by omega) (by omega), h5]

/-- What a coordinate is mapped to. -/
def ixv (i n p : Int) : Option Int :=
  if n < 1 ∨ n > 128 then none
  else if p = 0 then some (min (max i 0) (n - 1))
  else if p = 1 then some (min (i % (2 * n)) (2 * n - 1 - i % (2 * n)))
  else if p = 2 then some (i % n)
  else if p = 3 ∧ 0 ≤ i ∧ i < n then some i
  else none

def pr (v : Option Int) : Int × Bool := match v with
  | some v => (v, true)
  | none => (0, false)

theorem index_eq (k : Nat) (i n p : Int) : border_Index.f (k + 1) i n p = some (pr (ixv i n p)) := by
  unfold border_Index.f ixv
  by_cases h1 : n < 1
  · rw [if_pos h1, if_pos (.inl h1)]
    simp only [border_Index.j0, if_true, pr]
  · rw [if_neg h1]
    by_cases h2 : n > 128
    · rw [if_pos (.inr h2), decide_eq_true h2]
      simp only [border_Index.j0, if_true, pr]
    · rw [if_neg (by omega), decide_eq_false h2]
      have e1 : wrap64 (n - 1) = n - 1 := wrap_in (by omega) (by omega)
      have e2 : wrap64 (2 * n) = 2 * n := wrap_in (by omega) (by omega)
      have e3 : wrap64 (2 * n - 1) = 2 * n - 1 := wrap_in (by omega) (by omega)
      have g1 := Int.emod_nonneg i (by omega : 2 * n ≠ 0)
      have g2 := Int.emod_lt_of_pos i (by omega : 0 < 2 * n)
      simp only [border_Index.j0, if_neg Bool.false_ne_true, e1, e2, e3, bmod_eq i (2 * n) (by omega) (by omega), bmod_eq i n (by omega) (by omega), Option.bind_some, mx_max, mn_min]
      rw [wrap_in (n := 2 * n - 1 - i % (2 * n)) (by omega) (by omega)]
      by_cases q0 : p = 0
      · rw [if_pos q0, if_pos q0]; rfl
      · rw [if_neg q0, if_neg q0]
        by_cases q1 : p = 1
        · rw [if_pos q1, if_pos q1]; rfl
        · rw [if_neg q1, if_neg q1]
          by_cases q2 : p = 2
          · rw [if_pos q2, if_pos q2]; rfl
          · rw [if_neg q2, if_neg q2]
            by_cases q3 : p = 3
            · rw [if_pos q3]
              by_cases c1 : i ≥ 0
              · by_cases c2 : i < n
                · rw [if_pos c1, if_pos c2, if_pos (by omega)]; rfl
                · rw [if_pos c1, if_neg c2, if_neg (by omega)]; rfl
              · rw [if_neg c1, if_neg (by omega)]; rfl
            · rw [if_neg q3, if_neg (fun h => q3 h.1)]; rfl

theorem index_eq' {k : Nat} (hk : 0 < k) (i n p : Int) : border_Index.f k i n p = some (pr (ixv i n p)) := by
  obtain ⟨k, rfl⟩ : ∃ m, k = m + 1 := ⟨k - 1, by omega⟩
  exact index_eq k i n p

theorem ixv_none {i n p : Int} (h : n < 1 ∨ n > 128) : ixv i n p = none := by unfold ixv; rw [if_pos h]
theorem ixv_clamp {i n : Int} (h : 1 ≤ n) (h' : n ≤ 128) : ixv i n 0 = some (min (max i 0) (n - 1)) := by unfold ixv; rw [if_neg (by omega), if_pos rfl]
theorem ixv_mirror {i n : Int} (h : 1 ≤ n) (h' : n ≤ 128) : ixv i n 1 = some (min (i % (2 * n)) (2 * n - 1 - i % (2 * n))) := by unfold ixv; rw [if_neg (by omega), if_neg (by omega), if_pos rfl]
theorem ixv_wrap {i n : Int} (h : 1 ≤ n) (h' : n ≤ 128) : ixv i n 2 = some (i % n) := by unfold ixv; rw [if_neg (by omega), if_neg (by omega), if_neg (by omega), if_pos rfl]
theorem ixv_const {i n : Int} (h : 1 ≤ n) (h' : n ≤ 128) : ixv i n 3 = if 0 ≤ i ∧ i < n then some i else none := by
  unfold ixv; rw [if_neg (by omega), if_neg (by omega), if_neg (by omega), if_neg (by omega)]
  by_cases c : 0 ≤ i ∧ i < n
  · rw [if_pos ⟨rfl, c⟩, if_pos c]
  · rw [if_neg (fun h => c h.2), if_neg c]
theorem ixv_other {i n p : Int} (h : p ≠ 0) (h1 : p ≠ 1) (h2 : p ≠ 2) (h3 : p ≠ 3) : ixv i n p = none := by
  unfold ixv
  by_cases c : n < 1 ∨ n > 128
  · rw [if_pos c]
  · rw [if_neg c, if_neg h, if_neg h1, if_neg h2, if_neg (fun h => h3 h.1)]

/-- The policies 1 and 2 repeat after two lengths. -/
theorem emod_two (i n t : Int) (h : 0 < n) : (i + t * (2 * n)) % n = i % n := by
  rw [show t * (2 * n) = n * (t * 2) by grind]
  exact Int.add_mul_emod_self_left ..
theorem ixv_period {i n p t : Int} (hp : p ≠ 0) (hp3 : p ≠ 3) : ixv (i + t * (2 * n)) n p = ixv i n p := by
  unfold ixv
  by_cases c : n < 1 ∨ n > 128
  · rw [if_pos c, if_pos c]
  · rw [if_neg c, if_neg c, if_neg hp, if_neg hp, show (i + t * (2 * n)) % (2 * n) = i % (2 * n) from Int.add_mul_emod_self_right .., emod_two i n t (by omega)]
    by_cases c1 : p = 1
    · rw [if_pos c1, if_pos c1]
    · rw [if_neg c1, if_neg c1]
      by_cases c2 : p = 2
      · rw [if_pos c2, if_pos c2]
      · rw [if_neg c2, if_neg c2, if_neg (fun h => hp3 h.1), if_neg (fun h => hp3 h.1)]

theorem ixv_bounds {i n p v : Int} (h : ixv i n p = some v) : 0 ≤ v ∧ v < n ∧ 1 ≤ n ∧ n ≤ 128 := by
  unfold ixv at h
  split at h
  · cases h
  · next hn =>
    have g1 := Int.emod_nonneg i (by omega : 2 * n ≠ 0)
    have g2 := Int.emod_lt_of_pos i (by omega : 0 < 2 * n)
    have g3 := Int.emod_nonneg i (by omega : n ≠ 0)
    have g4 := Int.emod_lt_of_pos i (by omega : 0 < n)
    generalize i % (2 * n) = m at *
    generalize i % n = m2 at *
    split at h
    · cases h; omega
    · split at h
      · cases h; omega
      · split at h
        · cases h; omega
        · split at h
          · cases h; omega
          · cases h

theorem mulb {w x W X : Int} (h1 : -W ≤ w) (h2 : w ≤ W) (h3 : -X ≤ x) (h4 : x ≤ X) : -(W * X) ≤ w * x ∧ w * x ≤ W * X := by
  have p1 := Int.mul_nonneg (show 0 ≤ W - w by omega) (show 0 ≤ X + x by omega)
  have p2 := Int.mul_nonneg (show 0 ≤ W + w by omega) (show 0 ≤ X - x by omega)
  have p3 := Int.mul_nonneg (show 0 ≤ W - w by omega) (show 0 ≤ X - x by omega)
  have p4 := Int.mul_nonneg (show 0 ≤ W + w by omega) (show 0 ≤ X + x by omega)
  simp only [Int.sub_mul, Int.add_mul, Int.mul_sub, Int.mul_add] at p1 p2 p3 p4
  omega

theorem i64_low {n : Int} (h : -9223372036854775808 ≤ n) (h' : n ≤ 9223372036854775807) : Go.bits .and .i64 n 4294967295 = n % 4294967296 := by
  unfold Go.bits
  show IntKind.i64.wrap (((BitVec.ofInt 64 n) &&& (BitVec.ofInt 64 4294967295)).toNat : Int) = _
  rw [BitVec.toNat_and, BitVec.toNat_ofInt, BitVec.toNat_ofInt]
  have e1 : ((4294967295 : Int) % ((2 ^ 64 : Nat) : Int)).toNat = 2 ^ 32 - 1 := by decide +kernel
  rw [e1, Nat.and_two_pow_sub_one_eq_mod, Go.IntKind.wrap_i64]
  omega

theorem add_eq {a b n : Int} (hn : -2251799813685248 ≤ n) (hn' : n ≤ 2251799813685248) (hb : 0 ≤ b) (hb' : b ≤ 1000000000000) (ha : -100000000 ≤ a) (ha' : a ≤ 100000000) :
    ∃ a' b', fixed_wide_add.f a b n = some (a', b') ∧ a' * 4294967296 + b' = a * 4294967296 + b + n ∧ b ≤ b' ∧ b' ≤ b + 4294967296 := by
  unfold fixed_wide_add.f
  rw [i64_low (by omega) (by omega), wrap_in (by omega) (by omega), wrap_in (by omega) (by omega)]
  exact ⟨_, _, rfl, by omega, by omega, by omega⟩

theorem add_step {a b S n i : Int} (hi0 : 0 ≤ i) (hi : i ≤ 81) (hS : a * 4294967296 + b = S) (b1 : 0 ≤ b) (b2 : b ≤ 4294967296 * i) (s1 : -2251799813685248 * i ≤ S) (s2 : S ≤ 2251799813685248 * i) (hn : -2251799813685248 ≤ n ∧ n ≤ 2251799813685248) :
    ∃ a' b', fixed_wide_add.f a b n = some (a', b') ∧ a' * 4294967296 + b' = S + n ∧ (0 ≤ b' ∧ b' ≤ 4294967296 * (i + 1)) ∧ (-2251799813685248 * (i + 1) ≤ S + n ∧ S + n ≤ 2251799813685248 * (i + 1)) ∧ wrap64 (S + n) = S + n := by
  obtain ⟨a', b', f1, f2, f3, f4⟩ := add_eq (a := a) (b := b) (n := n) hn.1 hn.2 b1 (by omega) (by omega) (by omega)
  exact ⟨a', b', f1, by omega, ⟨by omega, by omega⟩, ⟨by omega, by omega⟩, wrap_in (by omega) (by omega)⟩

def inAcc (S : Int) : Bool := decide (-17592186044416 ≤ S) && decide (S ≤ 17592186044416)

theorem value_eq {a b S : Int} (hS : a * 4294967296 + b = S) (hb : 0 ≤ b) (hb' : b ≤ 4294967296 * 81) : ∃ p u v, fixed_wide_value.f a b = some (p, inAcc S, u, v) ∧ (inAcc S = true → p = S) := by
  unfold fixed_wide_value.f fixed_sum.f inAcc
  by_cases c1 : a < -1048576
  · rw [if_pos c1, decide_eq_false (show ¬ -17592186044416 ≤ S by omega)]
    exact ⟨_, _, _, rfl, fun h => by cases h⟩
  · rw [if_neg c1]
    by_cases c2 : a > 1048576
    · rw [if_pos c2, decide_eq_false (show ¬ S ≤ 17592186044416 by omega), Bool.and_false]
      exact ⟨_, _, _, rfl, fun h => by cases h⟩
    · rw [if_neg c2, wrap_in (n := a * 4294967296) (by omega) (by omega), hS, wrap_in (n := S) (by omega) (by omega)]
      by_cases c3 : S ≥ -17592186044416
      · rw [if_pos c3, decide_eq_true (show -17592186044416 ≤ S from c3), Bool.true_and]
        exact ⟨_, _, _, rfl, fun _ => rfl⟩
      · rw [if_neg c3, decide_eq_false (show ¬ -17592186044416 ≤ S from c3), Bool.false_and]
        exact ⟨_, _, _, rfl, fun h => by cases h⟩

theorem idx {i n L : Nat} (h : i + (n + 1) = L) : i + 1 + n = L ∧ i < L := by omega
theorem next_i {i L : Nat} (h : i < L) (hL : L ≤ 1000) : wrap64 ((i : Int) + 1) = ((i + 1 : Nat) : Int) ∧ (i : Int) ≤ 1000 ∧ (i : Int) < (L : Int) ∧ 0 ≤ (i : Int) := by
  refine ⟨?_, by omega, by omega, by omega⟩
  rw [wrap_in (by omega) (by omega)]; omega
theorem minmax_bd {x y : Int} (h : -(32767 * 68719476736) ≤ x ∧ x ≤ 32767 * 68719476736) (h' : -(32767 * 68719476736) ≤ y ∧ y ≤ 32767 * 68719476736) : (-2251799813685248 ≤ min x y ∧ min x y ≤ 2251799813685248) ∧ (-2251799813685248 ≤ max x y ∧ max x y ≤ 2251799813685248) ∧ wrap64 x = x ∧ wrap64 y = y :=
  ⟨by omega, by omega, wrap_in (by omega) (by omega), wrap_in (by omega) (by omega)⟩
theorem small_i {i L : Nat} (h : i < L) (hL : L ≤ 81) : (i : Int) ≤ 81 := by omega
theorem end_bd {b : Int} {i L : Nat} (h : i + 0 = L) (hL : L ≤ 81) (hb : b ≤ 4294967296 * (i : Int)) : b ≤ 4294967296 * 81 ∧ ¬ (i : Int) < (L : Int) := by omega


/-! Sums. -/
def sumN : Nat → (Nat → Int) → Int
  | 0, _ => 0
  | d + 1, f => sumN d f + f d

theorem sumN_congr {f g : Nat → Int} : ∀ n, (∀ j, j < n → f j = g j) → sumN n f = sumN n g
  | 0, _ => rfl
  | n + 1, h => by
    simp only [sumN]
    rw [sumN_congr n (fun j hj => h j (by omega)), h n (by omega)]

theorem sumN_bd {f : Nat → Int} {B : Int} : ∀ n, (∀ j, j < n → -B ≤ f j ∧ f j ≤ B) → -(B * (n : Int)) ≤ sumN n f ∧ sumN n f ≤ B * (n : Int)
  | 0, _ => by simp [sumN]
  | n + 1, h => by
    have a := sumN_bd n (fun j hj => h j (by omega))
    have b := h n (by omega)
    simp only [sumN]
    rw [show ((n + 1 : Nat) : Int) = (n : Int) + 1 from rfl, Int.mul_add, Int.mul_one]
    omega

/-! A pixel, which can lie outside. -/
def pix (W H : Int) (P : List Int) (p f x y : Int) : Int :=
  match ixv x W p, ixv y H p with
  | some i, some j => rd P (j * W + i)
  | _, _ => f

theorem cell_in {i j W H : Int} (h0 : 0 ≤ i) (h1 : i < W) (h2 : 0 ≤ j) (h3 : j < H) : 0 ≤ j * W ∧ j * W + i < W * H := by
  refine ⟨Int.mul_nonneg h2 (by omega), ?_⟩
  have := Int.mul_le_mul_of_nonneg_right (show j + 1 ≤ H by omega) (show 0 ≤ W by omega)
  rw [Int.add_mul, Int.one_mul, Int.mul_comm H W] at this
  omega

theorem rd_bd' {o : List Int} {B : Int} (hB : 0 ≤ B) (ho : ∀ v ∈ o, 0 ≤ v ∧ v ≤ B) (b : Int) : 0 ≤ rd o b ∧ rd o b ≤ B := by
  simp only [rd, List.getD_eq_getElem?_getD]
  rcases h : o[b.toNat]? with _ | v
  · exact ⟨Int.le_refl _, hB⟩
  · exact ho v (List.mem_of_getElem? h)

theorem pix_bd {W H m : Int} {P : List Int} (hP : ∀ v ∈ P, 0 ≤ v ∧ v ≤ m) (hm : 0 ≤ m) (p : Int) {f : Int} (hf : 0 ≤ f ∧ f ≤ m) (x y : Int) : 0 ≤ pix W H P p f x y ∧ pix W H P p f x y ≤ m := by
  unfold pix
  split
  · exact rd_bd' hm hP _
  · exact hf

theorem pixel_eq (k : Nat) (hk : 0 < k) (W H m : Int) (P : List Int) (p f x y : Int) (hl : (P.length : Int) = W * H) (hWH : W * H ≤ 4096) : plane_Pixel.f k W H m P p f x y = some (pix W H P p f x y) := by
  unfold plane_Pixel.f pix
  rw [index_eq' hk, index_eq' hk, Option.bind_some, Option.bind_some]
  rcases hx : ixv x W p with _ | i
  · rw [if_neg (show ¬ (pr none).2 = true by decide)]
  · rcases hy : ixv y H p with _ | j
    · rw [if_pos (show (pr (some i)).2 = true from rfl), if_neg (show ¬ (pr none).2 = true by decide)]
    · obtain ⟨a1, a2, a3, a4⟩ := ixv_bounds hx
      obtain ⟨b1, b2, b3, b4⟩ := ixv_bounds hy
      obtain ⟨c1, c2⟩ := cell_in a1 a2 b1 b2
      have e : wrap64 (wrap64 ((pr (some j)).1 * W) + (pr (some i)).1) = j * W + i := by
        show wrap64 (wrap64 (j * W) + i) = _
        rw [wrap_in (n := j * W) (by omega) (by omega), wrap_in (n := j * W + i) (by omega) (by omega)]
      rw [if_pos (show (pr (some i)).2 = true from rfl), if_pos (show (pr (some j)).2 = true from rfl), e, if_pos (show 0 ≤ j * W + i by omega), if_pos (show j * W + i < (P.length : Int) by omega)]

theorem pix_in {W H : Int} (P : List Int) {p f x y : Int} (hp : 0 ≤ p) (hp3 : p ≤ 3) (hW : W ≤ 128) (hH : H ≤ 128) (h0 : 0 ≤ x) (h1 : x < W) (h2 : 0 ≤ y) (h3 : y < H) : pix W H P p f x y = rd P (y * W + x) := by
  have e : ∀ {i n : Int}, 0 ≤ i → i < n → n ≤ 128 → ixv i n p = some i := by
    intro i n h0 h hn
    unfold ixv
    rw [if_neg (by omega), Int.emod_eq_of_lt h0 (by omega : i < 2 * n), Int.emod_eq_of_lt h0 h]
    by_cases q0 : p = 0
    · rw [if_pos q0]; congr 1; omega
    · rw [if_neg q0]
      by_cases q1 : p = 1
      · rw [if_pos q1]; congr 1; omega
      · rw [if_neg q1]
        by_cases q2 : p = 2
        · rw [if_pos q2]
        · rw [if_neg q2, if_pos (by omega)]
  unfold pix
  rw [e h0 h1 hW, e h2 h3 hH]

/-! The weighted sum from (x, y) on. -/
def conv (W H : Int) (P : List Int) (p f : Int) (a b : Nat) (l : List Int) (x y : Int) : Int :=
  sumN b (fun j => sumN a (fun i => rd l (((j * a + i : Nat)) : Int) * pix W H P p f (x + (i : Int)) (y + (j : Int))))

theorem rd_w {l : List Int} (hl : ∀ w ∈ l, -32767 ≤ w ∧ w ≤ 32767) (b : Int) : -32767 ≤ rd l b ∧ rd l b ≤ 32767 := by
  simp only [rd, List.getD_eq_getElem?_getD]
  rcases h : l[b.toNat]? with _ | v
  · exact ⟨by decide, by decide⟩
  · exact hl v (List.mem_of_getElem? h)

theorem prod_bd {w v m : Int} (h1 : -32767 ≤ w) (h2 : w ≤ 32767) (h3 : 0 ≤ v) (h4 : v ≤ m) (hm : m ≤ 4294967296) : -140733193388032 ≤ w * v ∧ w * v ≤ 140733193388032 := by
  have := mulb (w := w) (x := v) (W := 32767) (X := 4294967296) (by omega) h2 (by omega) (by omega)
  omega

theorem sum_small {A S w v : Int} {n : Nat} (hn : n ≤ 9) (hA : -20000000000000000 ≤ A ∧ A ≤ 20000000000000000) (h : -(140733193388032 * (n : Int)) ≤ S ∧ S ≤ 140733193388032 * (n : Int)) (hp : -140733193388032 ≤ w * v ∧ w * v ≤ 140733193388032) :
    wrap64 (A + S) = A + S ∧ wrap64 (A + S + wrap64 (w * v)) = wrap64 (A + (S + w * v)) := by
  refine ⟨wrap_in (by omega) (by omega), ?_⟩
  rw [wrap_in (n := w * v) (by omega) (by omega), Int.add_assoc]

theorem sum_idx {i d j a b L : Nat} (hi : i + (d + 1) = a) (hj : j < b) (ha : a ≤ 9) (hb : b ≤ 9) (hL : L = b * a) :
    wrap64 ((i : Int) + 1) = ((i + 1 : Nat) : Int) ∧ wrap64 (wrap64 ((j : Int) * (a : Int)) + (i : Int)) = ((j * a + i : Nat) : Int) ∧ (0 : Int) ≤ ((j * a + i : Nat) : Int) ∧ ((j * a + i : Nat) : Int) < (L : Int) ∧ (i : Int) < (a : Int) ∧ i + 1 + d = a ∧ i ≤ 9 ∧ (i : Int) ≤ 8 ∧ (j : Int) ≤ 8 := by
  have hja : j * a ≤ 8 * 9 := Nat.mul_le_mul (by omega) ha
  have hcast : (j : Int) * (a : Int) = ((j * a : Nat) : Int) := (Int.natCast_mul j a).symm
  have h1 : (j + 1) * a ≤ b * a := Nat.mul_le_mul_right _ hj
  rw [Nat.add_mul, Nat.one_mul] at h1
  refine ⟨?_, ?_, by omega, by omega, by omega, by omega, by omega, by omega, by omega⟩
  · rw [wrap_in (by omega) (by omega)]; rfl
  · rw [hcast, wrap_in (n := ((j * a : Nat) : Int)) (by omega) (by omega), wrap_in (by omega) (by omega)]; rfl

theorem sum_xy {x y : Int} {i j : Nat} (hx : -1000 ≤ x ∧ x ≤ 1000) (hy : -1000 ≤ y ∧ y ≤ 1000) (hi : (i : Int) ≤ 8) (hj : (j : Int) ≤ 8) : wrap64 (x + (i : Int)) = x + (i : Int) ∧ wrap64 (y + (j : Int)) = y + (j : Int) ∧ wrap64 ((j : Int) + 1) = ((j + 1 : Nat) : Int) := by
  refine ⟨wrap_in (by omega) (by omega), wrap_in (by omega) (by omega), ?_⟩
  rw [wrap_in (by omega) (by omega)]; rfl

theorem sum_cell {x y W H : Int} {i j a b L : Nat} (hin : 0 ≤ x ∧ 0 ≤ y ∧ x + (a : Int) ≤ W ∧ y + (b : Int) ≤ H) (hi : (i : Int) < (a : Int)) (hj : j < b) (hx : x ≤ 1000) (hWH : W * H ≤ 4096) (hL : (L : Int) = W * H) :
    wrap64 (wrap64 (wrap64 ((y + (j : Int)) * W) + x) + (i : Int)) = (y + (j : Int)) * W + (x + (i : Int)) ∧ 0 ≤ (y + (j : Int)) * W + (x + (i : Int)) ∧ (y + (j : Int)) * W + (x + (i : Int)) < (L : Int) ∧ 0 ≤ x + (i : Int) ∧ x + (i : Int) < W ∧ 0 ≤ y + (j : Int) ∧ y + (j : Int) < H := by
  have hcell := cell_in (i := x + (i : Int)) (j := y + (j : Int)) (W := W) (H := H) (by omega) (by omega) (by omega) (by omega)
  refine ⟨?_, by omega, by omega, by omega, by omega, by omega, by omega⟩
  rw [wrap_in (n := (y + (j : Int)) * W) (by omega) (by omega), wrap_in (n := (y + (j : Int)) * W + x) (by omega) (by omega), wrap_in (by omega) (by omega)]
  omega

/-- What a weighted sum is taken of. -/
structure SV (W H m : Int) (P : List Int) (p f : Int) (a b : Nat) (l : List Int) (x y : Int) : Prop where
  hP : ∀ v ∈ P, 0 ≤ v ∧ v ≤ m
  hm : 0 ≤ m
  hm' : m ≤ 4294967296
  hf : 0 ≤ f ∧ f ≤ m
  hp : 0 ≤ p
  hp3 : p ≤ 3
  hW : W ≤ 128
  hH : H ≤ 128
  hPl : (P.length : Int) = W * H
  hWH : W * H ≤ 4096
  ha : a ≤ 9
  hb : b ≤ 9
  hl : ∀ w ∈ l, -32767 ≤ w ∧ w ≤ 32767
  hll : l.length = b * a
  hx : -1000 ≤ x ∧ x ≤ 1000
  hy : -1000 ≤ y ∧ y ≤ 1000

/-- One product. -/
def prd (W H : Int) (P : List Int) (p f : Int) (a : Nat) (l : List Int) (x y : Int) (j i : Nat) : Int := rd l (((j * a + i : Nat)) : Int) * pix W H P p f (x + (i : Int)) (y + (j : Int))

section
variable {W H m : Int} {P : List Int} {p f : Int} {a b : Nat} {l : List Int} {x y : Int}

theorem prd_bd (h : SV W H m P p f a b l x y) (j i : Nat) : -140733193388032 ≤ prd W H P p f a l x y j i ∧ prd W H P p f a l x y j i ≤ 140733193388032 := by
  have w1 := rd_w h.hl ((j * a + i : Nat) : Int)
  have v1 := pix_bd (W := W) (H := H) h.hP h.hm p h.hf (x + (i : Int)) (y + (j : Int))
  exact prod_bd w1.1 w1.2 v1.1 v1.2 h.hm'

theorem sum_l1 (h : SV W H m P p f a b l x y) (inn : Bool) (hin : inn = true → 0 ≤ x ∧ 0 ≤ y ∧ x + (a : Int) ≤ W ∧ y + (b : Int) ≤ H)
    (j : Nat) (hj : j < b) (A : Int) (hA : -20000000000000000 ≤ A ∧ A ≤ 20000000000000000) (c : Int) : ∀ (d k i : Nat), i + d = a → 0 < k →
    convolve_sum.l1 (k + d + 1) (a : Int) l x y (wrap64 (A + sumN i (prd W H P p f a l x y j))) inn (j : Int) c (j : Int) (a : Int) (i : Int) W H m P p f =
      convolve_sum.l0 k (a : Int) l x y (wrap64 (A + sumN a (prd W H P p f a l x y j))) inn c ((j + 1 : Nat) : Int) W H m P p f
  | 0, k, i, hi, hk => by
    have hia : i = a := hi
    have hj8 : (j : Int) ≤ 8 := by have := h.hb; clear hA; omega
    rw [hia, convolve_sum.l1, if_neg (Int.lt_irrefl _), (sum_xy (i := 0) h.hx h.hy (by decide) hj8).2.2]
  | d + 1, k, i, hi, hk => by
    obtain ⟨eI, eW, q1, q2, q3, q4, q5, q6, q7⟩ := sum_idx hi hj h.ha h.hb h.hll
    obtain ⟨eX, eY, -⟩ := sum_xy (i := i) (j := j) h.hx h.hy q6 q7
    have ih := sum_l1 h inn hin j hj A hA c d k (i + 1) q4 hk
    have sb := sumN_bd (f := prd W H P p f a l x y j) (B := 140733193388032) i (fun i' _ => prd_bd h j i')
    simp only [sumN] at ih
    obtain ⟨eA, eV⟩ := sum_small q5 hA sb (prd_bd h j i)
    have eV' : ∀ v, v = pix W H P p f (x + (i : Int)) (y + (j : Int)) → wrap64 (A + sumN i (prd W H P p f a l x y j) + wrap64 (rd l ((j * a + i : Nat) : Int) * v)) = wrap64 (A + (sumN i (prd W H P p f a l x y j) + prd W H P p f a l x y j i)) := by
      intro v hv
      rw [hv]
      exact eV
    rw [show k + (d + 1) + 1 = (k + d + 1) + 1 from rfl, convolve_sum.l1, if_pos q3, eA, eI, eW, eX, eY]
    by_cases hn : inn = true
    · obtain ⟨eP, z1, z2, z3, z4, z5, z6⟩ := sum_cell (L := P.length) (hin hn) q3 hj h.hx.2 h.hWH h.hPl
      rw [if_pos hn, eP, if_pos z1, if_pos z2, if_pos q1, if_pos q2, eV' _ (pix_in P h.hp h.hp3 h.hW h.hH z3 z4 z5 z6).symm]
      exact ih
    · rw [if_neg hn, pixel_eq _ (Nat.succ_pos _) W H m P p f _ _ h.hPl h.hWH, Option.bind_some, if_pos q1, if_pos q2, eV' _ rfl]
      exact ih

theorem row_bd (h : SV W H m P p f a b l x y) (j : Nat) : -1266598740492288 ≤ sumN a (prd W H P p f a l x y j) ∧ sumN a (prd W H P p f a l x y j) ≤ 1266598740492288 := by
  have s := sumN_bd (f := prd W H P p f a l x y j) (B := 140733193388032) a (fun i' _ => prd_bd h j i')
  have ha := h.ha
  omega

theorem rows_bd (h : SV W H m P p f a b l x y) (n : Nat) (hn : n ≤ 9) : -20000000000000000 ≤ sumN n (fun j => sumN a (prd W H P p f a l x y j)) ∧ sumN n (fun j => sumN a (prd W H P p f a l x y j)) ≤ 20000000000000000 := by
  have s := sumN_bd (f := fun j => sumN a (prd W H P p f a l x y j)) (B := 1266598740492288) n (fun j _ => row_bd h j)
  omega

theorem sum_l0 (h : SV W H m P p f a b l x y) (inn : Bool) (hin : inn = true → 0 ≤ x ∧ 0 ≤ y ∧ x + (a : Int) ≤ W ∧ y + (b : Int) ≤ H) (c : Int) (hc : c = (b : Int)) :
    ∀ (d k j : Nat), j + d = b → 0 < k →
    convolve_sum.l0 (k + d * (a + 2) + 1) (a : Int) l x y (wrap64 (sumN j (fun j => sumN a (prd W H P p f a l x y j)))) inn c (j : Int) W H m P p f = some (conv W H P p f a b l x y)
  | 0, k, j, hj, hk => by
    have hjb : j = b := hj
    have sb := rows_bd h b h.hb
    rw [hjb, convolve_sum.l0, hc, if_neg (Int.lt_irrefl _), wrap_in (by omega) (by omega)]
    rfl
  | d + 1, k, j, hj, hk => by
    have ih := sum_l0 h inn hin c hc d k (j + 1) (by omega) hk
    have sb := rows_bd h j (by have := h.hb; omega)
    have hfu : k + (d + 1) * (a + 2) + 1 = (k + d * (a + 2) + 1 + a + 1) + 1 := by rw [Nat.add_mul]; omega
    have h1 := sum_l1 h inn hin j (by omega) _ sb c a (k + d * (a + 2) + 1) 0 (Nat.zero_add a) (Nat.succ_pos _)
    simp only [sumN, Int.add_zero] at h1 ih
    rw [hfu, convolve_sum.l0, if_pos (show (j : Int) < c by omega)]
    exact h1.trans ih

theorem sum_eq (h : SV W H m P p f a b l x y) (K : Nat) (hK : 200 ≤ K) :
    convolve_sum.f K W H m P p f (a : Int) (b : Int) l x y = some (conv W H P p f a b l x y) := by
  have ha := h.ha
  have hb := h.hb
  have hx := h.hx
  have hy := h.hy
  have hba : b * (a + 2) ≤ 9 * 11 := Nat.mul_le_mul hb (by omega)
  obtain ⟨k, hk, hk0⟩ : ∃ k, K = (k + b * (a + 2) + 1) + 1 ∧ 0 < k := ⟨K - b * (a + 2) - 2, by omega, by omega⟩
  have j0 : ∀ inn : Bool, (inn = true → 0 ≤ x ∧ 0 ≤ y ∧ x + (a : Int) ≤ W ∧ y + (b : Int) ≤ H) → convolve_sum.j0 K (a : Int) (b : Int) l x y 0 inn W H m P p f = some (conv W H P p f a b l x y) := by
    intro inn hin
    rw [hk, convolve_sum.j0]
    have h0 := sum_l0 h inn hin (b : Int) rfl b k 0 (Nat.zero_add b) hk0
    simp only [sumN] at h0
    rw [show wrap64 0 = 0 from wrap_in (by decide) (by decide)] at h0
    exact h0
  unfold convolve_sum.f
  rw [wrap_in (n := x + (a : Int)) (by omega) (by omega), wrap_in (n := y + (b : Int)) (by omega) (by omega)]
  by_cases c1 : x ≥ 0
  · rw [if_pos c1]
    by_cases c2 : y ≥ 0
    · rw [if_pos c2]
      by_cases c3 : x + (a : Int) ≤ W
      · rw [if_pos c3]
        exact j0 _ (fun h => ⟨c1, c2, c3, of_decide_eq_true h⟩)
      · rw [if_neg c3]
        exact j0 false (fun h => by cases h)
    · rw [if_neg c2]
      exact j0 false (fun h => by cases h)
  · rw [if_neg c1]
    exact j0 false (fun h => by cases h)
end


/-! The tape's weights. -/
theorem tw_loop (l : List Int) (hl : l.length ≤ 4611686018427387904) (N : Nat) (hN : N ≤ 100) (n : Nat) :
    ∀ (k i : Nat) (xs : List Int) (s : Int), i + n = N → n + 1 ≤ k → xs.length = i → 0 ≤ s → (∀ w ∈ xs, -20 ≤ w ∧ w ≤ 20) →
      ∃ bt, 0 ≤ bt.2 ∧ tilefarmgen_Tape_Weights.l0 k (N : Int) xs (i : Int) l s = some bt ∧ bt.1.length = N ∧ ∀ w ∈ bt.1, -20 ≤ w ∧ w ≤ 20 := by
  induction n with
  | zero =>
    intro k i xs s hi hk hx hs hw
    obtain ⟨k, rfl⟩ : ∃ m, k = m + 1 := ⟨k - 1, by omega⟩
    simp only [tilefarmgen_Tape_Weights.l0]
    rw [if_neg (by omega)]
    exact ⟨(xs, s), hs, rfl, by show xs.length = N; omega, hw⟩
  | succ n ih =>
    intro k i xs s hi hk hx hs hw
    obtain ⟨k, rfl⟩ : ∃ m, k = m + 1 := ⟨k - 1, by omega⟩
    have e1 : wrap64 ((i : Int) + 1) = ((i + 1 : Nat) : Int) := by rw [wrap_in (by omega) (by omega)]; omega
    obtain ⟨bt, a1, a2, a3, a4⟩ := next_o l s 41 hs hl (by decide) (by decide)
    obtain ⟨bu, b1, b2, b3⟩ := pick_o l bt.2 [1, 2, (-1), 0, wrap64 (bt.1 - 20), 5] a4 hl (by simp) (by simp)
    have hb : -20 ≤ bu.1 ∧ bu.1 ≤ 20 := by
      simp only [List.mem_cons, List.not_mem_nil, or_false] at b2
      rw [wrap_in (by omega) (by omega)] at b2
      clear a1 b1 hw
      omega
    obtain ⟨bv, c1, c2, c3, c4⟩ := ih k (i + 1) (xs ++ [bu.1]) bu.2 (by omega) (by omega) (by simp; omega) b3 (fun w hw' => by
      rcases List.mem_append.1 hw' with h | h
      · exact hw w h
      · rw [List.mem_singleton.1 h]; exact hb)
    refine ⟨bv, c1, ?_, c3, c4⟩
    simp only [tilefarmgen_Tape_Weights.l0]
    rw [if_pos (by omega), a1, Option.bind_some, b1, Option.bind_some, if_pos (by omega), e1]
    exact c2

theorem tw_o (k : Nat) (hk : 200 ≤ k) (l : List Int) (hl : l.length ≤ 4611686018427387904) (s : Int) (N : Nat) (hs : 0 ≤ s) (hN : N ≤ 100) :
    ∃ bt, tilefarmgen_Tape_Weights.f k l s (N : Int) = some bt ∧ bt.1.length = N ∧ (∀ w ∈ bt.1, -20 ≤ w ∧ w ≤ 20) ∧ 0 ≤ bt.2 := by
  obtain ⟨bt, h1, h2, h3, h4⟩ := tw_loop l hl N hN N k 0 [] s (by omega) (by omega) rfl hs (fun w hw => by simp at hw)
  exact ⟨bt, h2, h3, h4, h1⟩

/-! The checks of small weights. -/
theorem w_loop (l : List Int) (hl : l.length ≤ 81) (hw : ∀ w ∈ l, -32767 ≤ w ∧ w ≤ 32767) : ∀ (d k i : Nat), i + d = l.length → fixed_Weights.l0 (k + d + 1) l (l.length : Int) (i : Int) = some 0
  | 0, k, i, hi => by rw [fixed_Weights.l0, if_neg (show ¬ (i : Int) < (l.length : Int) by omega)]
  | d + 1, k, i, hi => by
    have hm := hw _ (rd_mem l i (by omega))
    rw [show k + (d + 1) + 1 = (k + d + 1) + 1 from rfl, fixed_Weights.l0]
    simp only [if_pos (show (i : Int) < (l.length : Int) by omega), if_pos (show 0 ≤ (i : Int) by omega)]
    rw [if_neg (show ¬ rd l (i : Int) < -32767 by omega), if_neg (show ¬ rd l (i : Int) > 32767 by omega), wrap_in (n := (i : Int) + 1) (by omega) (by omega)]
    exact w_loop l hl hw d k (i + 1) (by omega)

theorem w_ok (K : Nat) (hK : 100 ≤ K) (l : List Int) (h0 : 1 ≤ l.length) (hl : l.length ≤ 81) (hw : ∀ w ∈ l, -32767 ≤ w ∧ w ≤ 32767) : fixed_Weights.f K l = some 0 := by
  obtain ⟨k, rfl⟩ : ∃ k, K = (k + l.length + 1) + 1 := ⟨K - l.length - 2, by omega⟩
  unfold fixed_Weights.f
  rw [if_neg (show ¬ (l.length : Int) = 0 by omega), decide_eq_false (show ¬ (l.length : Int) > 81 by omega)]
  simp only [fixed_Weights.j0, Bool.false_eq_true, if_false]
  exact w_loop l hl hw l.length k 0 (by omega)

theorem small_acc {S : Int} {i : Nat} (hi : i ≤ 81) (h : -(1310700 * (i : Int)) ≤ S ∧ S ≤ 1310700 * (i : Int)) : inAcc S = true := by
  unfold inAcc
  rw [decide_eq_true (show -17592186044416 ≤ S by omega), decide_eq_true (show S ≤ 17592186044416 by omega)]
  rfl

theorem b_step {S u : Int} {i : Nat} (hS : -(1310700 * (i : Int)) ≤ S ∧ S ≤ 1310700 * (i : Int)) (hu : -1310700 ≤ u ∧ u ≤ 1310700) : -(1310700 * ((i + 1 : Nat) : Int)) ≤ S + u ∧ S + u ≤ 1310700 * ((i + 1 : Nat) : Int) := by omega
theorem b_wide {S : Int} {i : Nat} (h : -(1310700 * (i : Int)) ≤ S ∧ S ≤ 1310700 * (i : Int)) : -2251799813685248 * (i : Int) ≤ S ∧ S ≤ 2251799813685248 * (i : Int) := by omega
theorem b_minmax {x : Int} (h : -(20 * 65535) ≤ x ∧ x ≤ 20 * 65535) : wrap64 0 = 0 ∧ wrap64 x = x ∧ (-1310700 ≤ mn 0 x ∧ mn 0 x ≤ 1310700) ∧ (-1310700 ≤ mx 0 x ∧ mx 0 x ≤ 1310700) ∧ (-2251799813685248 ≤ mn 0 x ∧ mn 0 x ≤ 2251799813685248) ∧ (-2251799813685248 ≤ mx 0 x ∧ mx 0 x ≤ 2251799813685248) := by
  rw [mn_min, mx_max]
  exact ⟨wrap_in (by decide) (by decide), wrap_in (by omega) (by omega), by omega, by omega, by omega, by omega⟩

theorem b_loop (l : List Int) (hl : l.length ≤ 81) (hw : ∀ w ∈ l, -20 ≤ w ∧ w ≤ 20) (m : Int) (h0 : 0 ≤ m) (hm : m ≤ 65535) : ∀ (d k i : Nat) (a b c e S T : Int), i + d = l.length → a * 4294967296 + b = S → c * 4294967296 + e = T → (0 ≤ b ∧ b ≤ 4294967296 * (i : Int)) → (0 ≤ e ∧ e ≤ 4294967296 * (i : Int)) →
    (-(1310700 * (i : Int)) ≤ S ∧ S ≤ 1310700 * (i : Int)) → (-(1310700 * (i : Int)) ≤ T ∧ T ≤ 1310700 * (i : Int)) → ∃ u v, fixed_Bounds.l0 (k + d + 1) l 0 m (i : Int) a b c e = some (u, v, true)
  | 0, k, i, a, b, c, e, S, T, hi, hS, hT, hb, he, bS, bT => by
    obtain ⟨g1, g2⟩ := end_bd hi hl hb.2
    obtain ⟨g3, -⟩ := end_bd hi hl he.2
    obtain ⟨p, u, v, e1, -⟩ := value_eq hS hb.1 g1
    obtain ⟨p', u', v', e2, -⟩ := value_eq hT he.1 g3
    have hi' : i ≤ 81 := by clear hS hT bS bT hb he; omega
    rw [small_acc hi' bS] at e1
    rw [small_acc hi' bT] at e2
    rw [fixed_Bounds.l0, if_neg g2, e1, Option.bind_some, e2, Option.bind_some, if_pos rfl, if_pos rfl]
    exact ⟨_, _, rfl⟩
  | d + 1, k, i, a, b, c, e, S, T, hi, hS, hT, hb, he, bS, bT => by
    obtain ⟨hidx, hlt⟩ := idx hi
    obtain ⟨e1, -, hI, hP⟩ := next_i hlt (Nat.le_trans hl (by decide))
    have hi9 := small_i hlt hl
    have hmem := hw _ (rd_mem l i hlt)
    obtain ⟨z0, z1, z2, z3, z4, z5⟩ := b_minmax (mulb (X := 65535) hmem.1 hmem.2 (by omega) hm)
    obtain ⟨a', b', f1, f2, f3, -, -⟩ := add_step hP hi9 hS hb.1 hb.2 (b_wide bS).1 (b_wide bS).2 z4
    obtain ⟨c', e', g1, g2, g3, -, -⟩ := add_step hP hi9 hT he.1 he.2 (b_wide bT).1 (b_wide bT).2 z5
    have hc : ((i + 1 : Nat) : Int) = (i : Int) + 1 := Int.natCast_succ i
    obtain ⟨u, v, r⟩ := b_loop l hl hw m h0 hm d k (i + 1) a' b' c' e' _ _ hidx f2 g2 (by rw [hc]; exact f3) (by rw [hc]; exact g3) (b_step bS z2) (b_step bT z3)
    refine ⟨u, v, ?_⟩
    rw [show k + (d + 1) + 1 = (k + d + 1) + 1 from rfl, fixed_Bounds.l0, if_pos hI, if_pos hP, e1, Int.mul_zero, z0, z1, f1, Option.bind_some, g1, Option.bind_some]
    exact r

theorem bounds_ok (K : Nat) (hK : 200 ≤ K) (l : List Int) (h1 : 1 ≤ l.length) (hl : l.length ≤ 81) (hw : ∀ w ∈ l, -20 ≤ w ∧ w ≤ 20) (m : Int) (h0 : 0 ≤ m) (hm : m ≤ 65535) : ∃ u v, fixed_Bounds.f K l 0 m = some (u, v, true) := by
  obtain ⟨k, hk⟩ : ∃ k, K = k + l.length + 1 := ⟨K - l.length - 1, by omega⟩
  obtain ⟨u, v, r⟩ := b_loop l hl hw m h0 hm l.length k 0 0 0 0 0 0 0 (by omega) (by decide) (by decide) (by decide) (by decide) (by decide) (by decide)
  refine ⟨u, v, ?_⟩
  unfold fixed_Bounds.f
  rw [w_ok K (by omega) l h1 hl (fun w h => by have := hw w h; omega), Option.bind_some, if_pos rfl, if_neg (show ¬ (0 : Int) > m by omega), if_neg (show ¬ (0 : Int) < -68719476736 by decide), if_neg (show ¬ m > 68719476736 by omega), hk]
  exact r

theorem kernel_ok {a : Int} (h : 1 ≤ a ∧ a ≤ 9) : convolve_kernel.f a = some true := by
  unfold convolve_kernel.f
  rw [if_pos h.1, decide_eq_true h.2]

theorem value_ok {a : Int} (h : 1 ≤ a ∧ a ≤ 4294967296) : convolve_value.f a = some true := by
  unfold convolve_value.f
  rw [if_pos h.1, decide_eq_true h.2]

theorem check_ok (K : Nat) (hK : 300 ≤ K) (m : Int) (hm : 1 ≤ m) (hm' : m ≤ 65535) (a b : Nat) (ha : 1 ≤ a ∧ a ≤ 9) (hb : 1 ≤ b ∧ b ≤ 9) (l : List Int) (hl : l.length = b * a) (hw : ∀ w ∈ l, -20 ≤ w ∧ w ≤ 20) (s : Int) (hs : 0 ≤ s ∧ s ≤ 24) (o : Int) (ho : 1 ≤ o ∧ o ≤ 4294967296) :
    convolve_Check.f K m (a : Int) (b : Int) l s o = some 0 := by
  obtain ⟨k, rfl⟩ : ∃ n, K = n + 1 + 1 + 1 := ⟨K - 3, by omega⟩
  have h1 : b * a ≤ 9 * 9 := Nat.mul_le_mul hb.2 ha.2
  have h2 : 1 * 1 ≤ b * a := Nat.mul_le_mul hb.1 ha.1
  have e : (a : Int) * (b : Int) = ((b * a : Nat) : Int) := by rw [Int.mul_comm]; exact (Int.natCast_mul b a).symm
  have ebne : ((l.length : Int) != wrap64 ((a : Int) * (b : Int))) = false := by rw [e, wrap_in (by omega) (by omega), hl]; exact bne_self_eq_false _
  obtain ⟨u, v, r⟩ := bounds_ok k (by omega) l (by omega) (by omega) hw m (by omega) hm'
  unfold convolve_Check.f
  rw [kernel_ok (by omega), Option.bind_some, if_pos rfl, kernel_ok (by omega), Option.bind_some, if_pos rfl, ebne, convolve_Check.j0, if_neg Bool.false_ne_true, w_ok (k + 1 + 1) (by omega) l (by omega) (by omega) (fun w h => by have := hw w h; omega), Option.bind_some, if_pos rfl, if_neg (show ¬ s < 0 by omega), decide_eq_false (show ¬ s > 24 by omega),
    convolve_Check.j1, if_neg Bool.false_ne_true, value_ok (by omega), Option.bind_some, if_pos rfl, value_ok ho, Option.bind_some, convolve_Check.j2, if_neg (show ¬ (!true) = true by decide), r, Option.bind_some, if_pos rfl]

/-! The pixels of a rectangle. -/
def rowg (g : Int → Int → Int) (y : Int) : Nat → Int → List Int
  | 0, _ => []
  | d + 1, x => g x y :: rowg g y d (x + 1)

def rowsg (g : Int → Int → Int) (x0 : Int) (w : Nat) : Nat → Int → List Int
  | 0, _ => []
  | d + 1, y => rowg g y w x0 ++ rowsg g x0 w d (y + 1)

theorem rowg_len (g : Int → Int → Int) (y : Int) : ∀ (d : Nat) (x : Int), (rowg g y d x).length = d
  | 0, _ => rfl
  | d + 1, x => by simp only [rowg]; rw [List.length_cons, rowg_len g y d (x + 1)]

theorem rowsg_len (g : Int → Int → Int) (x0 : Int) (w : Nat) : ∀ (d : Nat) (y : Int), (rowsg g x0 w d y).length = d * w
  | 0, _ => by simp [rowsg]
  | d + 1, y => by simp only [rowsg]; rw [List.length_append, rowg_len, rowsg_len g x0 w d (y + 1), Nat.add_mul]; omega

theorem rowg_get (g : Int → Int → Int) (y : Int) : ∀ (d : Nat) (x : Int) (i : Nat), i < d → (rowg g y d x)[i]? = some (g (x + (i : Int)) y)
  | 0, _, i, h => by omega
  | d + 1, x, 0, h => by simp [rowg]
  | d + 1, x, i + 1, h => by
    simp only [rowg, List.getElem?_cons_succ]
    rw [rowg_get g y d (x + 1) i (by omega), show x + 1 + (i : Int) = x + ((i + 1 : Nat) : Int) by omega]

theorem rowsg_get (g : Int → Int → Int) (x0 : Int) (w : Nat) : ∀ (d : Nat) (y : Int) (j i : Nat), j < d → i < w → (rowsg g x0 w d y)[j * w + i]? = some (g (x0 + (i : Int)) (y + (j : Int)))
  | 0, _, j, i, h, _ => by omega
  | d + 1, y, 0, i, h, hi => by
    simp only [rowsg]
    rw [List.getElem?_append_left (by rw [rowg_len]; omega), Nat.zero_mul, Nat.zero_add, rowg_get g y w x0 i hi]
    simp
  | d + 1, y, j + 1, i, h, hi => by
    simp only [rowsg]
    rw [List.getElem?_append_right (by rw [rowg_len, Nat.add_mul]; omega), rowg_len, show (j + 1) * w + i - w = j * w + i by rw [Nat.add_mul]; omega, rowsg_get g x0 w d (y + 1) j i (by omega) hi, show y + 1 + (j : Int) = y + ((j + 1 : Nat) : Int) by omega]

theorem rowsg_rd (g : Int → Int → Int) (x0 : Int) (w d : Nat) (y : Int) (j i : Nat) (hj : j < d) (hi : i < w) : rd (rowsg g x0 w d y) ((j * w + i : Nat) : Int) = g (x0 + (i : Int)) (y + (j : Int)) := by
  simp only [rd, Int.toNat_natCast, List.getD_eq_getElem?_getD]
  rw [rowsg_get g x0 w d y j i hj hi]
  rfl

theorem rowg_all (Q : Int → Prop) (g : Int → Int → Int) (h : ∀ x y, Q (g x y)) (y : Int) : ∀ (d : Nat) (x : Int), ∀ v ∈ rowg g y d x, Q v
  | 0, _, v, hv => by simp [rowg] at hv
  | d + 1, x, v, hv => by
    simp only [rowg, List.mem_cons] at hv
    rcases hv with hv | hv
    · rw [hv]; exact h _ _
    · exact rowg_all Q g h y d (x + 1) v hv

theorem rowsg_all (Q : Int → Prop) (g : Int → Int → Int) (h : ∀ x y, Q (g x y)) (x0 : Int) (w : Nat) : ∀ (d : Nat) (y : Int), ∀ v ∈ rowsg g x0 w d y, Q v
  | 0, _, v, hv => by simp [rowsg] at hv
  | d + 1, y, v, hv => by
    simp only [rowsg, List.mem_append] at hv
    rcases hv with hv | hv
    · exact rowg_all Q g h y w x0 v hv
    · exact rowsg_all Q g h x0 w d (y + 1) v hv

/-! Shift and clamp. -/
def shv (t s : Int) : Int := if -17592186044416 ≤ t ∧ t ≤ 17592186044416 then (if s = 0 then t else shr .i64 (wrap64 (t + (shl .i64 1 (wrap64 (s - 1))))) s) else 0

theorem shift_eq (k : Nat) (hk : 0 < k) (t s : Int) (hs : 0 ≤ s) (hs' : s ≤ 24) : fixed_Shift.f k t s = some (shv t s) := by
  obtain ⟨k, rfl⟩ : ∃ n, k = n + 1 := ⟨k - 1, by omega⟩
  unfold fixed_Shift.f fixed_sum.f shv
  have no : ∀ b : Bool, b = true → fixed_Shift.j0 (k + 1) t s b = some 0 := fun b hb => by rw [fixed_Shift.j0, if_pos hb]
  by_cases c1 : t ≥ -17592186044416
  · rw [if_pos c1, Option.bind_some]
    by_cases c2 : t ≤ 17592186044416
    · rw [decide_eq_true c2, if_pos rfl, if_neg (show ¬ s < 0 by omega), decide_eq_false (show ¬ s > 24 by omega), fixed_Shift.j0, if_neg Bool.false_ne_true, if_pos (show -17592186044416 ≤ t ∧ t ≤ 17592186044416 from ⟨c1, c2⟩)]
      by_cases c3 : s = 0
      · rw [if_pos c3, if_pos c3]
      · rw [if_neg c3, if_neg c3, if_pos (show 0 ≤ wrap64 (s - 1) by rw [wrap_in (by omega) (by omega)]; omega), if_pos hs]
    · rw [decide_eq_false c2, if_neg Bool.false_ne_true, no true rfl, if_neg (fun h => c2 h.2)]
  · rw [if_neg c1, Option.bind_some, if_neg Bool.false_ne_true, no true rfl, if_neg (fun h => c1 h.1)]

/-- A pixel of a convolution. -/
def cg (W H : Int) (P : List Int) (p f : Int) (a b : Nat) (l : List Int) (s o : Int) (x y : Int) : Int :=
  mx (mn (shv (conv W H P p f a b l (x - (a : Int) / 2) (y - (b : Int) / 2)) s) o) 0

theorem cg_bd (W H : Int) (P : List Int) (p f : Int) (a b : Nat) (l : List Int) (s o : Int) (ho : 1 ≤ o) (x y : Int) : 0 ≤ cg W H P p f a b l s o x y ∧ cg W H P p f a b l s o x y ≤ o := by
  unfold cg
  rw [mx_max, mn_min]
  omega

/-- What the arguments of a convolution are like. -/
structure CV (W H m : Int) (P : List Int) (p f : Int) (a b : Nat) (l : List Int) (s o : Int) : Prop where
  v : PV W H m P
  m' : m ≤ 65535
  p0 : 0 ≤ p
  p3 : p ≤ 3
  f0 : 0 ≤ f
  f1 : f ≤ m
  pf : p = 3 ∨ f = 0
  a1 : 1 ≤ a
  a9 : a ≤ 9
  b1 : 1 ≤ b
  b9 : b ≤ 9
  ll : l.length = b * a
  lw : ∀ w ∈ l, -20 ≤ w ∧ w ≤ 20
  s0 : 0 ≤ s
  s24 : s ≤ 24
  o1 : 1 ≤ o
  o2 : o ≤ 4294967296

theorem half_eq {a : Nat} (ha : a ≤ 9) : wrap64 (Int.tdiv (a : Int) 2) = (a : Int) / 2 := by
  rw [Int.tdiv_eq_ediv_of_nonneg (by omega), wrap_in (by omega) (by omega)]

theorem t_l1 {W H m : Int} {P : List Int} {p f : Int} {a b : Nat} {l : List Int} {s o : Int} (h : CV W H m P p f a b l s o) (y x0 y0 x1 y1 q0 q1 q2 : Int) (hy : 0 ≤ y) (hy' : y ≤ 200) (h1 : x1 ≤ 200) :
    ∀ (d k : Nat) (x : Int) (acc : List Int), x + (d : Int) = x1 → 0 ≤ x → 300 ≤ k → acc.length + d ≤ 1000000 →
      convolve_Tile.l1 (k + d + 1) (a : Int) (b : Int) l s o y x W H m P p f x0 y0 x1 y1 q0 q1 q2 acc = convolve_Tile.l0 k (a : Int) (b : Int) l s o (y + 1) W H m P p f x0 y0 x1 y1 q0 q1 q2 (acc ++ rowg (cg W H P p f a b l s o) y d x)
  | 0, k, x, acc, hx, hx0, hk, hacc => by
    rw [convolve_Tile.l1, if_neg (show ¬ x < x1 by omega), wrap_in (n := y + 1) (by omega) (by omega)]
    simp only [rowg, List.append_nil]
  | d + 1, k, x, acc, hx, hx0, hk, hacc => by
    have ih := t_l1 h y x0 y0 x1 y1 q0 q1 q2 hy hy' h1 d k (x + 1) (acc ++ [cg W H P p f a b l s o x y]) (by omega) (by omega) hk (by rw [List.length_append, List.length_singleton]; omega)
    have ha9 := h.a9
    have hb9 := h.b9
    have hsv : SV W H m P p f a b l (x - (a : Int) / 2) (y - (b : Int) / 2) := ⟨h.v.2.2, Int.le_trans (by decide) h.v.1.2.2.2.2.2.1, h.v.1.2.2.2.2.2.2, ⟨h.f0, h.f1⟩, h.p0, h.p3, h.v.1.2.1, h.v.1.2.2.2.1, h.v.2.1, h.v.1.2.2.2.2.1, h.a9, h.b9, fun w hw => by have := h.lw w hw; omega, h.ll, by omega, by omega⟩
    have hsum := sum_eq hsv (k + d + 1) (by omega)
    rw [show k + (d + 1) + 1 = (k + d + 1) + 1 from rfl, convolve_Tile.l1, if_pos (show x < x1 by omega), half_eq ha9, half_eq hb9, wrap_in (n := x - (a : Int) / 2) (by omega) (by omega), wrap_in (n := y - (b : Int) / 2) (by omega) (by omega), hsum, Option.bind_some, shift_eq _ (by omega) _ _ h.s0 h.s24, Option.bind_some]
    unfold fixed_Clamp.f
    rw [Option.bind_some, if_pos (show acc.length < 17592186044416 by omega), wrap_in (n := x + 1) (by omega) (by omega)]
    refine ih.trans ?_
    rw [List.append_assoc]
    first | done | rfl

theorem t_l0 {W H m : Int} {P : List Int} {p f : Int} {a b : Nat} {l : List Int} {s o : Int} (h : CV W H m P p f a b l s o) (x0 y0 x1 y1 q0 q1 q2 : Int) (hx : 0 ≤ x0) (hxx : x0 ≤ x1) (hy1 : y1 ≤ 128) (h1 : x1 ≤ 128) :
    ∀ (d k : Nat) (y : Int) (acc : List Int), y + (d : Int) = y1 → 0 ≤ y → 300 ≤ k → acc.length + d * (x1 - x0).toNat ≤ 1000000 →
      convolve_Tile.l0 (k + d * ((x1 - x0).toNat + 2) + 1) (a : Int) (b : Int) l s o y W H m P p f x0 y0 x1 y1 q0 q1 q2 acc = some (q0, q1, q2, acc ++ rowsg (cg W H P p f a b l s o) x0 (x1 - x0).toNat d y, 0)
  | 0, k, y, acc, hy, hy0, hk, hacc => by
    rw [convolve_Tile.l0, if_neg (show ¬ y < y1 by omega)]
    simp only [rowsg, List.append_nil]
  | d + 1, k, y, acc, hy, hy0, hk, hacc => by
    have hd : (d + 1) * (x1 - x0).toNat = d * (x1 - x0).toNat + (x1 - x0).toNat := by rw [Nat.add_mul]; omega
    have ih := t_l0 h x0 y0 x1 y1 q0 q1 q2 hx hxx hy1 h1 d k (y + 1) (acc ++ rowg (cg W H P p f a b l s o) y (x1 - x0).toNat x0) (by omega) (by omega) hk (by rw [List.length_append, rowg_len]; omega)
    have hfu : k + (d + 1) * ((x1 - x0).toNat + 2) + 1 = (k + d * ((x1 - x0).toNat + 2) + 1 + (x1 - x0).toNat + 1) + 1 := by rw [Nat.add_mul]; omega
    rw [hfu, convolve_Tile.l0, if_pos (show y < y1 by omega)]
    refine (t_l1 h y x0 y0 x1 y1 q0 q1 q2 hy0 (by omega) (by omega) (x1 - x0).toNat (k + d * ((x1 - x0).toNat + 2) + 1) x0 acc (by omega) hx (by omega) (by omega)).trans (ih.trans ?_)
    rw [List.append_assoc]
    rfl

theorem tile_ok {W H m : Int} {P : List Int} {p f : Int} {a b : Nat} {l : List Int} {s o : Int} (h : CV W H m P p f a b l s o) {x0 y0 x1 y1 : Int} (hI : IN W H x0 y0 x1 y1) (K : Nat) (hK : 30000 ≤ K) :
    convolve_Tile.f K W H m P p f (a : Int) (b : Int) l s o x0 y0 x1 y1 = some (x1 - x0, y1 - y0, o, rowsg (cg W H P p f a b l s o) x0 (x1 - x0).toNat (y1 - y0).toNat y0, 0) := by
  obtain ⟨i1, i2, i3, i4, i5, i6⟩ := hI
  have hW := h.v.1.2.1
  have hH := h.v.1.2.2.2.1
  have hlen : P.length ≤ 4096 := by have := h.v.2.1; have := h.v.1.2.2.2.2.1; omega
  have hb : (y1 - y0).toNat * ((x1 - x0).toNat + 2) ≤ 128 * 130 := Nat.mul_le_mul (by omega) (by omega)
  have hb2 : (y1 - y0).toNat * (x1 - x0).toNat ≤ 128 * 128 := Nat.mul_le_mul (by omega) (by omega)
  obtain ⟨k, hk, hk3⟩ : ∃ k, K = (k + (y1 - y0).toNat * ((x1 - x0).toNat + 2) + 1) + 1 + 1 ∧ 300 ≤ k := ⟨K - (y1 - y0).toNat * ((x1 - x0).toNat + 2) - 3, by omega, by omega⟩
  have hz : ¬ (x0 = 0 ∧ y0 = 0 ∧ x1 = 0 ∧ y1 = 0) := by omega
  unfold convolve_Tile.f
  rw [pvalid_spec K W H m P (by omega) (by omega), Option.bind_some, decide_eq_true h.v, if_pos rfl, bvalid_ok K (by omega) p f m h.p0 h.p3 h.f0 h.f1 h.pf, Option.bind_some, hk, convolve_Tile.j0, if_neg (show ¬ (!true) = true by decide),
    check_ok _ (by omega) m h.v.1.2.2.2.2.2.1 h.m' a b ⟨h.a1, h.a9⟩ ⟨h.b1, h.b9⟩ l h.ll h.lw s ⟨h.s0, h.s24⟩ o ⟨h.o1, h.o2⟩, Option.bind_some, if_pos rfl, empty_eq, Option.bind_some, decide_eq_false hz, if_neg Bool.false_ne_true, inside_p _ h.v.1.1 hW h.v.1.2.2.1 hH hz, Option.bind_some, decide_eq_true (show IN W H x0 y0 x1 y1 from ⟨i1, i2, i3, i4, i5, i6⟩), convolve_Tile.j1, if_neg (show ¬ (!true) = true by decide), wrap_in (n := x1 - x0) (by omega) (by omega), wrap_in (n := y1 - y0) (by omega) (by omega)]
  exact t_l0 h x0 y0 x1 y1 (x1 - x0) (y1 - y0) o i1 (by omega) (by omega) (by omega) (y1 - y0).toNat k y0 [] (by omega) i4 hk3 (by rw [List.length_nil]; omega)

theorem sane_eq : tilefarmlaw9_sane.f 60 = some true := by decide +kernel

/-- Where the pixel i goes. -/
def mv (W n i : Int) : Int := i / W * W + (i % W + n) % W

theorem mv_eq {W n i : Int} (hW : 1 ≤ W) (hW' : W ≤ 6) (hn : 0 ≤ n) (hn' : n < W) (hi : 0 ≤ i) (hi' : i ≤ 1000) :
    wrap64 (wrap64 (wrap64 (Int.tdiv i W) * W) + Int.tmod (wrap64 (Int.tmod i W + n)) W) = mv W n i := by
  have e := Int.mul_ediv_add_emod i W
  have g1 := Int.emod_nonneg i (show W ≠ 0 by omega)
  have g2 := Int.emod_lt_of_pos i (show 0 < W by omega)
  have g3 : 0 ≤ i / W := Int.ediv_nonneg hi (by omega)
  have g4 : i / W ≤ i := Int.ediv_le_self _ hi
  have g5 := Int.emod_nonneg (i % W + n) (show W ≠ 0 by omega)
  have g6 := Int.emod_lt_of_pos (i % W + n) (show 0 < W by omega)
  have g7 : i / W * W = W * (i / W) := Int.mul_comm ..
  unfold mv
  rw [Int.tdiv_eq_ediv_of_nonneg hi, Int.tmod_eq_emod_of_nonneg hi, wrap_in (n := i / W) (by omega) (by omega), wrap_in (n := i / W * W) (by omega) (by omega), wrap_in (n := i % W + n) (by omega) (by omega), Int.tmod_eq_emod_of_nonneg (by omega), wrap_in (by omega) (by omega)]

theorem mv_cell {W n : Int} (hW : 1 ≤ W) {x y : Int} (hx : 0 ≤ x) (hx' : x < W) : mv W n (y * W + x) = y * W + (x + n) % W := by
  unfold mv
  have e1 : (y * W + x) / W = y := by
    rw [Int.add_comm, Int.add_mul_ediv_right _ _ (by omega), Int.ediv_eq_zero_of_lt hx hx', Int.zero_add]
  have e2 : (y * W + x) % W = x := by
    rw [Int.add_comm, Int.add_mul_emod_self_right, Int.emod_eq_of_lt hx hx']
  rw [e1, e2]

theorem turn_inj {W n a b : Int} (hn : 0 ≤ n) (hn' : n < W) (ha : 0 ≤ a) (ha' : a < W) (hb : 0 ≤ b) (hb' : b < W) (h : (a + n) % W = (b + n) % W) : a = b := by
  have h1 : ∀ c : Int, 0 ≤ c → c < W → (c + n) % W = c + n ∨ (c + n) % W = c + n - W := by
    intro c h0 h1
    by_cases q : c + n < W
    · exact .inl (Int.emod_eq_of_lt (by omega) q)
    · refine .inr ?_
      rw [show c + n = (c + n - W) + W by omega, Int.add_emod_right, Int.emod_eq_of_lt (by omega) (by omega)]
      omega
  rcases h1 a ha ha' with p | p <;> rcases h1 b hb hb' with q | q <;> omega

theorem mv_parts {W n i : Int} (hW : 1 ≤ W) : mv W n i / W = i / W ∧ mv W n i % W = (i % W + n) % W := by
  have g5 := Int.emod_nonneg (i % W + n) (show W ≠ 0 by omega)
  have g6 := Int.emod_lt_of_pos (i % W + n) (show 0 < W by omega)
  unfold mv
  constructor
  · rw [Int.add_comm, Int.add_mul_ediv_right _ _ (by omega), Int.ediv_eq_zero_of_lt g5 g6, Int.zero_add]
  · rw [Int.add_comm, Int.add_mul_emod_self_right, Int.emod_eq_of_lt g5 g6]

theorem mv_inj {W n i j : Int} (hW : 1 ≤ W) (hn : 0 ≤ n) (hn' : n < W) (h : mv W n i = mv W n j) : i = j := by
  have a := mv_parts (n := n) (i := i) hW
  have b := mv_parts (n := n) (i := j) hW
  rw [h] at a
  have e1 : i / W = j / W := by rw [← a.1, b.1]
  have e2 : i % W = j % W := turn_inj hn hn' (Int.emod_nonneg _ (by omega)) (Int.emod_lt_of_pos _ (by omega)) (Int.emod_nonneg _ (by omega)) (Int.emod_lt_of_pos _ (by omega)) (by rw [← a.2, b.2])
  have f1 := Int.mul_ediv_add_emod i W
  have f2 := Int.mul_ediv_add_emod j W
  rw [← f1, ← f2, e1, e2]

theorem mv_in {W H n i : Int} (hW : 1 ≤ W) (hn : 0 ≤ n) (h0 : 0 ≤ i) (h : i < W * H) : 0 ≤ mv W n i ∧ mv W n i < W * H := by
  have g5 := Int.emod_nonneg (i % W + n) (show W ≠ 0 by omega)
  have g6 := Int.emod_lt_of_pos (i % W + n) (show 0 < W by omega)
  have g3 : 0 ≤ i / W := Int.ediv_nonneg h0 (by omega)
  have g4 : i / W < H := by rw [Int.ediv_lt_iff_lt_mul (by omega), Int.mul_comm]; exact h
  have hc := cell_in (i := (i % W + n) % W) (j := i / W) (W := W) (H := H) g5 g6 g3 g4
  unfold mv
  exact ⟨Int.add_nonneg hc.1 g5, hc.2⟩

theorem rd_set {o : List Int} {i b : Int} {x : Int} (hi : 0 ≤ i) (hi' : i < (o.length : Int)) (hb : 0 ≤ b) : rd (o.set i.toNat x) b = if i = b then x else rd o b := by
  simp only [rd, List.getD_eq_getElem?_getD, List.getElem?_set]
  by_cases h : i = b
  · rw [if_pos (show i.toNat = b.toNat by omega), if_pos (show i.toNat < o.length by omega), if_pos h]
    rfl
  · rw [if_neg (show ¬ i.toNat = b.toNat by omega), if_neg h]

/-- Q is P moved, as far as place c. -/
structure Mvd (W H n m : Int) (P Q : List Int) (c : Nat) : Prop where
  len : Q.length = P.length
  bd : ∀ v ∈ Q, 0 ≤ v ∧ v ≤ m
  mv : ∀ i : Nat, i < c → rd Q (mv W n (i : Int)) = rd P (i : Int)

theorem mvd_step {W H n m : Int} {P Q : List Int} {c : Nat} (hW : 1 ≤ W) (hn : 0 ≤ n) (hn' : n < W) (hP : ∀ v ∈ P, 0 ≤ v ∧ v ≤ m) (hPl : (P.length : Int) = W * H) (h : Mvd W H n m P Q c) (hc : c < P.length) : Mvd W H n m P (Q.set (mv W n (c : Int)).toNat (rd P (c : Int))) (c + 1) := by
  obtain ⟨b0, b1⟩ := mv_in (H := H) hW hn (Int.natCast_nonneg c) (by rw [← hPl]; exact Int.ofNat_lt.2 hc)
  refine ⟨by rw [List.length_set]; exact h.len, set_all _ _ _ _ h.bd (hP _ (rd_mem P c hc)), fun i hi => ?_⟩
  have hi1 : (i : Int) < W * H := by rw [← hPl]; exact Int.ofNat_lt.2 (by omega)
  obtain ⟨d0, d1⟩ := mv_in (H := H) hW hn (Int.natCast_nonneg i) hi1
  rw [rd_set b0 (by rw [h.len, hPl]; exact b1) d0]
  by_cases q : i = c
  · rw [q, if_pos rfl]
  · rw [if_neg (fun e => q (by have := mv_inj hW hn hn' e; omega))]
    exact h.mv i (by omega)

theorem conv_congr {W H : Int} {P Q : List Int} {p f : Int} {a b : Nat} {l : List Int} {x y x' y' : Int} (h : ∀ i j : Nat, i < a → j < b → pix W H P p f (x + (i : Int)) (y + (j : Int)) = pix W H Q p f (x' + (i : Int)) (y' + (j : Int))) : conv W H P p f a b l x y = conv W H Q p f a b l x' y' := by
  unfold conv
  refine sumN_congr b (fun j hj => sumN_congr a (fun i hi => ?_))
  rw [h i j hi hj]

theorem pix_wrap {W H : Int} (hW : 1 ≤ W) (hW' : W ≤ 128) (hH : 1 ≤ H) (hH' : H ≤ 128) (P : List Int) (f x y : Int) : pix W H P 2 f x y = rd P (y % H * W + x % W) := by
  unfold pix
  rw [ixv_wrap hW hW', ixv_wrap hH hH']

theorem pix_moved {W H n m : Int} {P Q : List Int} (hW : 1 ≤ W) (hW' : W ≤ 128) (hH : 1 ≤ H) (hH' : H ≤ 128) (hPl : (P.length : Int) = W * H) (h : Mvd W H n m P Q P.length) (f x y x' : Int) (hx : x' % W = (x + n) % W) : pix W H Q 2 f x' y = pix W H P 2 f x y := by
  rw [pix_wrap hW hW' hH hH', pix_wrap hW hW' hH hH', hx]
  have g1 := Int.emod_nonneg x (show W ≠ 0 by omega)
  have g2 := Int.emod_lt_of_pos x (show 0 < W by omega)
  have g3 := Int.emod_nonneg y (show H ≠ 0 by omega)
  have g4 := Int.emod_lt_of_pos y (show 0 < H by omega)
  have hc := cell_in (i := x % W) (j := y % H) (W := W) (H := H) g1 g2 g3 g4
  obtain ⟨i, hi⟩ : ∃ i : Nat, (i : Int) = y % H * W + x % W := ⟨(y % H * W + x % W).toNat, Int.toNat_of_nonneg (Int.add_nonneg hc.1 g1)⟩
  have hm := h.mv i (by rw [← hPl, ← hi] at hc; exact Int.ofNat_lt.1 hc.2)
  rw [hi, mv_cell hW g1 g2] at hm
  rw [← hm, Int.emod_add_emod]

theorem cg_moved {W H n m : Int} {P Q : List Int} (hW : 1 ≤ W) (hW' : W ≤ 128) (hH : 1 ≤ H) (hH' : H ≤ 128) (hPl : (P.length : Int) = W * H) (h : Mvd W H n m P Q P.length) (l : List Int) (s o x y : Int) : cg W H Q 2 0 3 3 l s o ((x + n) % W) y = cg W H P 2 0 3 3 l s o x y := by
  unfold cg
  rw [conv_congr (P := Q) (Q := P) (x' := x - ((3 : Nat) : Int) / 2) (y' := y - ((3 : Nat) : Int) / 2) (fun i j _ _ => ?_)]
  refine pix_moved hW hW' hH hH' hPl h 0 _ _ _ ?_
  rw [show (x + n) % W - ((3 : Nat) : Int) / 2 + (i : Int) = (x + n) % W + ((i : Int) - ((3 : Nat) : Int) / 2) by omega, Int.emod_add_emod]
  congr 1
  omega

theorem full_idx {W H : Int} {L i : Nat} (hW : 1 ≤ W) (hH : 1 ≤ H) (hL : (L : Int) = W * H) (hi : i < L) : ∃ y x : Nat, x < (W - 0).toNat ∧ y < (H - 0).toNat ∧ (i : Int) = ((y * (W - 0).toNat + x : Nat) : Int) ∧ (i : Int) = (y : Int) * W + (x : Int) ∧ (x : Int) < W := by
  obtain ⟨w, hw⟩ : ∃ w : Nat, W = (w : Int) := ⟨W.toNat, by omega⟩
  have hwp : 0 < w := by omega
  have e := Nat.div_add_mod i w
  have e2 := Nat.mod_lt i hwp
  have hlt : i / w < H.toNat := by
    rw [Nat.div_lt_iff_lt_mul hwp]
    have : ((H.toNat * w : Nat) : Int) = W * H := by rw [Int.natCast_mul, Int.toNat_of_nonneg (by omega), hw, Int.mul_comm]
    rw [← hL] at this
    have := Int.ofNat.inj this
    omega
  have e3 : i / w * w + i % w = i := by rw [Nat.mul_comm]; exact e
  have ew : (W - 0).toNat = w := by omega
  refine ⟨i / w, i % w, by omega, by omega, ?_, ?_, by omega⟩
  · rw [ew, e3]
  · rw [hw, ← Int.natCast_mul, ← Int.natCast_add, e3]

theorem tile_rd (g : Int → Int → Int) {W H : Int} {L i : Nat} (hW : 1 ≤ W) (hH : 1 ≤ H) (hL : (L : Int) = W * H) (hi : i < L) : rd (rowsg g 0 (W - 0).toNat (H - 0).toNat 0) (i : Int) = g ((i : Int) % W) ((i : Int) / W) := by
  obtain ⟨y, x, h1, h2, h3, h4, h5⟩ := full_idx hW hH hL hi
  have e1 : (i : Int) % W = (x : Int) := by rw [h4, Int.add_comm, Int.add_mul_emod_self_right, Int.emod_eq_of_lt (Int.natCast_nonneg x) h5]
  have e2 : (i : Int) / W = (y : Int) := by rw [h4, Int.add_comm, Int.add_mul_ediv_right _ _ (by omega), Int.ediv_eq_zero_of_lt (Int.natCast_nonneg x) h5, Int.zero_add]
  rw [e1, e2, h3, rowsg_rd g 0 _ _ 0 y x h2 h1, Int.zero_add, Int.zero_add]

theorem tile_len (g : Int → Int → Int) {W H : Int} {L : Nat} (hW : 1 ≤ W) (hH : 1 ≤ H) (hL : (L : Int) = W * H) : (rowsg g 0 (W - 0).toNat (H - 0).toNat 0).length = L := by
  rw [rowsg_len]
  have : (((H - 0).toNat * (W - 0).toNat : Nat) : Int) = (L : Int) := by
    rw [Int.natCast_mul, Int.toNat_of_nonneg (by omega), Int.toNat_of_nonneg (by omega), hL, Int.mul_comm, Int.sub_zero, Int.sub_zero]
  exact Int.ofNat.inj this

theorem small_nat {i L : Nat} (hi : i < L) (hL : L ≤ 30) : (i : Int) ≤ 1000 ∧ wrap64 ((i : Int) + 1) = ((i + 1 : Nat) : Int) := by
  refine ⟨by omega, ?_⟩
  rw [wrap_in (by omega) (by omega)]; rfl

theorem law_l1 {W H n m q0 q1 q2 r0 r1 r2 : Int} {P X Y : List Int} (hW : 1 ≤ W) (hW' : W ≤ 6) (hn : 0 ≤ n) (hn' : n < W) (hPl : (P.length : Int) = W * H) (hl : P.length ≤ 30) (hX : X.length = P.length) (hY : Y.length = P.length)
    (hxy : ∀ i : Nat, i < P.length → rd Y (mv W n (i : Int)) = rd X (i : Int)) : ∀ (d k i : Nat), i + d = P.length → 100 ≤ k → tilefarmlaw9_ConvolveMoves.l1 (k + d + 1) n (i : Int) W H m P q0 q1 q2 X r0 r1 r2 Y = some true
  | 0, k, i, hi, hk => by
    have hsane : tilefarmlaw9_sane.f k = some true := at_rounds tilefarmlaw9_sane.mono (by omega) sane_eq
    have hiP : i = P.length := hi
    rw [hiP, tilefarmlaw9_ConvolveMoves.l1, if_neg (Int.lt_irrefl _), hsane, Option.bind_some]
  | d + 1, k, i, hi, hk => by
    obtain ⟨h1, h2⟩ := idx hi
    obtain ⟨s1, s2⟩ := small_nat h2 hl
    obtain ⟨b0, b1⟩ := mv_in (H := H) hW hn (Int.natCast_nonneg i) (by rw [← hPl]; exact Int.ofNat_lt.2 h2)
    rw [show k + (d + 1) + 1 = (k + d + 1) + 1 from rfl, tilefarmlaw9_ConvolveMoves.l1, if_pos (Int.ofNat_lt.2 h2), if_neg (show ¬ W = 0 by omega), mv_eq hW hW' hn hn' (Int.natCast_nonneg i) s1, if_pos b0, if_pos (show mv W n (i : Int) < (Y.length : Int) by rw [hY, hPl]; exact b1), if_pos (Int.natCast_nonneg i), if_pos (Int.ofNat_lt.2 (by rw [hX]; exact h2)), if_pos (hxy i h2), s2]
    exact law_l1 hW hW' hn hn' hPl hl hX hY hxy d k (i + 1) h1 hk

theorem law_end {W H n m : Int} {P Q : List Int} (hV : PV W H m P) (hW' : W ≤ 6) (hm : m ≤ 65535) (hn : 0 ≤ n) (hn' : n < W) (hl : P.length ≤ 30) (hQ : Mvd W H n m P Q P.length) (t : List Int) (ht : t.length ≤ 4611686018427387904) (s : Int) (hs : 0 ≤ s) (K : Nat) (hK : 31000 ≤ K) :
    tilefarmlaw9_ConvolveMoves.l0 (K + 1) n (P.length : Int) t s W H m P W H m Q = some true := by
  obtain ⟨w, w1, w2, w3, w4⟩ := tw_o K (by omega) t ht s 9 hs (by omega)
  obtain ⟨r, r1, r2, r3, r4⟩ := next_o t w.2 4 w4 ht (by omega) (by omega)
  have hVQ : PV W H m Q := ⟨hV.1, by rw [hQ.len]; exact hV.2.1, hQ.bd⟩
  have c1 : CV W H m P 2 0 3 3 w.1 r.1 255 := ⟨hV, hm, by decide, by decide, by decide, Int.le_trans (by decide) hV.1.2.2.2.2.2.1, .inr rfl, by decide, by decide, by decide, by decide, w2, w3, r2, by omega, by decide, by decide⟩
  have c2 : CV W H m Q 2 0 3 3 w.1 r.1 255 := ⟨hVQ, hm, by decide, by decide, by decide, Int.le_trans (by decide) hV.1.2.2.2.2.2.1, .inr rfl, by decide, by decide, by decide, by decide, w2, w3, r2, by omega, by decide, by decide⟩
  have hW := hV.1.1
  have hH := hV.1.2.2.1
  have hall : IN W H 0 0 W H := ⟨Int.le_refl _, hW, Int.le_refl _, Int.le_refl _, hH, Int.le_refl _⟩
  have f1 := tile_ok c1 hall K (by omega)
  have f2 := tile_ok c2 hall K (by omega)
  have l1 := tile_len (cg W H P 2 0 3 3 w.1 r.1 255) hW hH hV.2.1
  have l2 := tile_len (cg W H Q 2 0 3 3 w.1 r.1 255) hW hH hV.2.1
  have hxy : ∀ i : Nat, i < P.length → rd (rowsg (cg W H Q 2 0 3 3 w.1 r.1 255) 0 (W - 0).toNat (H - 0).toNat 0) (mv W n (i : Int)) = rd (rowsg (cg W H P 2 0 3 3 w.1 r.1 255) 0 (W - 0).toNat (H - 0).toNat 0) (i : Int) := by
    intro i hi
    obtain ⟨b0, b1⟩ := mv_in (H := H) hW hn (Int.natCast_nonneg i) (by rw [← hV.2.1]; exact Int.ofNat_lt.2 hi)
    obtain ⟨j, hj⟩ : ∃ j : Nat, (j : Int) = mv W n (i : Int) := ⟨(mv W n (i : Int)).toNat, Int.toNat_of_nonneg b0⟩
    have hjl : j < P.length := by rw [← hj, ← hV.2.1] at b1; exact Int.ofNat_lt.1 b1
    have hp := mv_parts (n := n) (i := (i : Int)) hW
    rw [← hj, tile_rd _ hW hH hV.2.1 hjl, tile_rd _ hW hH hV.2.1 hi, hj, hp.1, hp.2, cg_moved hW hV.1.2.1 hH hV.1.2.2.2.1 hV.2.1 hQ]
  generalize rowsg (cg W H P 2 0 3 3 w.1 r.1 255) 0 (W - 0).toNat (H - 0).toNat 0 = X at f1 l1 hxy
  generalize rowsg (cg W H Q 2 0 3 3 w.1 r.1 255) 0 (W - 0).toNat (H - 0).toNat 0 = Y at f2 l2 hxy
  obtain ⟨k, hk, hk2⟩ : ∃ k, K = (k + P.length + 1) + 1 ∧ 100 ≤ k := ⟨K - P.length - 2, by omega, by omega⟩
  have hne : ((Y.length : Int) != (P.length : Int)) = false := by rw [l2]; exact bne_self_eq_false _
  rw [tilefarmlaw9_ConvolveMoves.l0, if_neg (Int.lt_irrefl _)]
  rw [show (9 : Int) = ((9 : Nat) : Int) from rfl, w1, Option.bind_some, r1, Option.bind_some]
  rw [show (3 : Int) = ((3 : Nat) : Int) from rfl, f1, Option.bind_some, f2, Option.bind_some, if_pos rfl, if_pos rfl]
  show (if (X.length : Int) = (P.length : Int) then _ else _) = _
  rw [if_pos (by rw [l1])]
  show tilefarmlaw9_ConvolveMoves.j1 K n ((Y.length : Int) != (P.length : Int)) W H m P (W - 0) (H - 0) 255 X (W - 0) (H - 0) 255 Y = _
  rw [hne, hk, tilefarmlaw9_ConvolveMoves.j1, if_neg Bool.false_ne_true]
  exact law_l1 hW hW' hn hn' hV.2.1 hl l1 l2 hxy P.length k 0 (Nat.zero_add _) hk2

theorem law_l0 {W H n m : Int} {P : List Int} (hV : PV W H m P) (hW' : W ≤ 6) (hm : m ≤ 65535) (hn : 0 ≤ n) (hn' : n < W) (hl : P.length ≤ 30) (t : List Int) (ht : t.length ≤ 4611686018427387904) (s : Int) (hs : 0 ≤ s) (K : Nat) (hK : 31000 ≤ K) :
    ∀ (d i : Nat) (Q : List Int), i + d = P.length → Mvd W H n m P Q i → tilefarmlaw9_ConvolveMoves.l0 (K + d + 1) n (i : Int) t s W H m P W H m Q = some true
  | 0, i, Q, hi, hQ => by
    have hiP : i = P.length := hi
    rw [hiP] at hQ ⊢
    exact law_end hV hW' hm hn hn' hl hQ t ht s hs K hK
  | d + 1, i, Q, hi, hQ => by
    obtain ⟨h1, h2⟩ := idx hi
    obtain ⟨s1, s2⟩ := small_nat h2 hl
    have hW := hV.1.1
    obtain ⟨b0, b1⟩ := mv_in (H := H) hW hn (Int.natCast_nonneg i) (by rw [← hV.2.1]; exact Int.ofNat_lt.2 h2)
    have hst := mvd_step hW hn hn' hV.2.2 hV.2.1 hQ h2
    rw [show K + (d + 1) + 1 = (K + d + 1) + 1 from rfl, tilefarmlaw9_ConvolveMoves.l0, if_pos (Int.ofNat_lt.2 h2), if_neg (show ¬ W = 0 by omega), mv_eq hW hW' hn hn' (Int.natCast_nonneg i) s1, if_pos (Int.natCast_nonneg i), if_pos b0, if_pos (show mv W n (i : Int) < (Q.length : Int) by rw [hQ.len, hV.2.1]; exact b1), s2]
    exact law_l0 hV hW' hm hn hn' hl t ht s hs K hK d (i + 1) _ h1 hst

theorem ConvolveMoves : tilefarmlaw9_ConvolveMoves.Pure := by
  intro t by_ hl hl8 _ _
  have ht : t.length ≤ 4611686018427387904 := by omega
  obtain ⟨K, hK⟩ : ∃ K : Nat, 40000 ≤ K := ⟨40000, Nat.le_refl _⟩
  refine ⟨K, ?_⟩
  obtain ⟨p, h1, p1, p2, p3, p4, p5, p6, p7, p8, p9⟩ := plane_spec K (by omega) t ht 0 (Int.le_refl _)
  obtain ⟨hV, hlen⟩ := plane_PV p1 p2 p3 p4 p5 p6 p7 p8
  have n0 := Int.emod_nonneg by_ (show p.1 ≠ 0 by omega)
  have n1 := Int.emod_lt_of_pos by_ (show 0 < p.1 by omega)
  obtain ⟨k, hk, hk2⟩ : ∃ k, K = k + p.2.2.2.1.length + 1 ∧ 31000 ≤ k := ⟨K - p.2.2.2.1.length - 1, by omega, by omega⟩
  unfold tilefarmlaw9_ConvolveMoves.f tilefarmgen_New.f
  rw [Option.bind_some, h1, Option.bind_some, mod_eq by_ p.1 (by omega) (by omega), Option.bind_some]
  unfold tilefarmref4_Copy.f
  rw [if_pos (show ([] : List Int).length + p.2.2.2.1.length < 17592186044416 by rw [List.length_nil]; omega), Option.bind_some, List.nil_append, hk]
  exact law_l0 hV p2 p6 n0 n1 hlen t ht p.2.2.2.2 p9 k hk2 p.2.2.2.1.length 0 p.2.2.2.1 (Nat.zero_add _) ⟨rfl, p8, fun i hi => by omega⟩


end Go.Proofs.Ythgmndomnibefaa.Pure
namespace Go.Proofs.Ythgmndomnibefaa
open Go.ChangeShapes Go.WideShapes
/-- The print's own word, under the name that the printed row uses. -/
theorem PrintWords.sized_ints {H : Type} {enc : TypeId × Value → H} {P : Program} {W : World} {base : Nat} {spare : Nat → Bool} {held : Bool} {t e : TypeId} {k : IntKind} {a : Option Addr} {len cap : Nat} {d : DataW H} {ps : List MemPlace} {ts : List TypeId} {ds : List (DataW H)} {j : Nat}
    (hsz : (DataW.weightsEach P ts ds).all (· ≤ reachBytes) = true) (ht : ts[j]? = some t) (hd : ds[j]? = some d) (hu : P.underlying t = some (.slice e)) (he : P.underlying e = some (.int k)) (hc : P.cellsOf e = 1) {B : Nat} (hB : P.bytesOf e = B)
    (h : DataW.Trod enc P W base spare held t (.slice a len cap) d ps) : len * B ≤ 140737488351232 :=
  Go.Proofs.YthgmndomnibefaaW.PrintWords.sized_ints hsz ht hd hu he hc hB h
end Go.Proofs.Ythgmndomnibefaa

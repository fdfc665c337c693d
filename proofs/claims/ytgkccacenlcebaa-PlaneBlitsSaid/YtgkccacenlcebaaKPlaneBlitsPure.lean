/- Cropping what was blitted gives it back, blitting a crop at its place changes nothing, and pixels outside of the place stay: for every tape and every number. -/
import Derived.Test.YtgkccacenlcebaaKPlaneBlitsx13
import Derived.Test.YtgkccacenlcebaaKPlaneBlitsa
namespace Go.Proofs.Ytgkccacenlcebaa.Pure
open Go.RowKit Go.Proofs.Ytgkccacenlcebaa.PPlaneBlits Go.Proofs.YtgkccacenlcebaaW.PrintWords Go.Proofs.YtgkccacenlcebaaW.PrintLast Go.Proofs.YtgkccacenlcebaaW.PrintMore
set_option linter.unusedVariables false
set_option linter.unusedSimpArgs false

theorem wrap_in {n : Int} (h : -9223372036854775808 ≤ n) (h' : n ≤ 9223372036854775807) : wrap64 n = n := by unfold wrap64; omega

theorem tmod_emod (a n : Int) (h : 0 < n) : (0 ≤ Int.tmod a n ∧ Int.tmod a n = a % n) ∨ (Int.tmod a n < 0 ∧ Int.tmod a n + n = a % n) := by
  have h1 := Int.tmod_eq_emod (a := a) (b := n)
  have h2 := Int.emod_nonneg a (by omega : n ≠ 0)
  have h3 := Int.emod_lt_of_pos a h
  split at h1 <;> omega

theorem mod_eq (a n : Int) (h : 0 < n) (hn : n ≤ 4611686018427387904) : tilefarmgen_Mod.f a n = some (a % n) := by
  have h2 := Int.emod_nonneg a (by omega : n ≠ 0)
  have h3 := Int.emod_lt_of_pos a h
  unfold tilefarmgen_Mod.f
  rw [if_neg (by omega)]
  rcases tmod_emod a n h with ⟨h4, h5⟩ | ⟨h4, h5⟩
  · rw [if_neg (by omega), h5]
  · rw [if_pos h4, wrap_in (by omega) (by omega), h5]

theorem sd_true {p : Prop} [Decidable p] (h : p) : some true = some (decide p) := by rw [decide_eq_true h]
theorem sd_false {p : Prop} [Decidable p] (h : ¬ p) : some false = some (decide p) := by rw [decide_eq_false h]
theorem sd_iff {p q : Prop} [Decidable p] [Decidable q] (h : q ↔ p) : some (decide q) = some (decide p) := by rw [decide_eq_decide.2 h]

theorem mx_max (a b : Int) : mx a b = max a b := by unfold mx; omega
theorem mn_min (a b : Int) : mn a b = min a b := by unfold mn; omega

theorem mul_bd {x y B C : Int} (hx : 0 ≤ x) (hy : 0 ≤ y) (hxB : x ≤ B) (hyB : y ≤ C) : 0 ≤ x * y ∧ x * y ≤ B * C :=
  ⟨Int.mul_nonneg hx hy, Int.mul_le_mul hxB hyB hy (by omega)⟩

theorem dec_iff {p q : Prop} [Decidable p] [Decidable q] (h : p ↔ q) : decide p = decide q := decide_eq_decide.2 h
theorem and_not_dec (p q : Prop) [Decidable p] [Decidable q] : (decide p && !decide q) = decide (p ∧ ¬ q) := by
  by_cases hp : p <;> by_cases hq : q <;> simp [hp, hq]

theorem wrap64_range (n : Int) : -9223372036854775808 ≤ wrap64 n ∧ wrap64 n ≤ 9223372036854775807 := by unfold wrap64; omega

theorem wf_range {n : Int} (h : (Lit.int .i64 n).wf = true) : -9223372036854775808 ≤ n ∧ n ≤ 9223372036854775807 := by
  simp only [Lit.wf, IntKind.min, IntKind.max, IntKind.signed, IntKind.bits, Bool.and_eq_true, decide_eq_true_eq, if_true] at h
  omega


theorem next_spec (l : List Int) (s n : Int) (hs : 0 ≤ s) (hl : l.length ≤ 4611686018427387904) (h : 0 < n) (hn : n ≤ 4611686018427387904) :
    ∃ r s', tilefarmgen_Tape_Next.f l s n = some (r, s') ∧ 0 ≤ r ∧ r < n ∧ 0 ≤ s' := by
  unfold tilefarmgen_Tape_Next.f
  rw [if_neg (by omega)]
  by_cases h1 : s ≥ (l.length : Int)
  · rw [if_pos h1]; exact ⟨_, _, rfl, by omega, by omega, hs⟩
  · have e1 : wrap64 (s + 1) = s + 1 := wrap_in (by omega) (by omega)
    have e2 : wrap64 (s + 1 - 1) = s := by rw [wrap_in (by omega) (by omega)]; omega
    rw [if_neg h1]
    simp only [e1, e2]
    rw [if_pos hs, if_pos (by omega), mod_eq _ _ h hn]
    exact ⟨_, _, rfl, Int.emod_nonneg _ (by omega), Int.emod_lt_of_pos _ h, by omega⟩


theorem rd_mem (l : List Int) (i : Nat) (h : i < l.length) : rd l (i : Int) ∈ l := by
  simp [rd, h]

theorem rd_drop (l : List Int) (i : Nat) (h : i < l.length) : l.drop i = rd l (i : Int) :: l.drop (i + 1) := by
  rw [List.drop_eq_getElem_cons h]
  simp [rd, h]

theorem next_o (l : List Int) (s n : Int) (hs : 0 ≤ s) (hl : l.length ≤ 4611686018427387904) (h : 0 < n) (hn : n ≤ 4611686018427387904) :
    ∃ bt, tilefarmgen_Tape_Next.f l s n = some bt ∧ 0 ≤ bt.1 ∧ bt.1 < n ∧ 0 ≤ bt.2 := by
  obtain ⟨r, s', h1, h2, h3, h4⟩ := next_spec l s n hs hl h hn
  exact ⟨(r, s'), h1, h2, h3, h4⟩

theorem pick_o (l : List Int) (s : Int) (xs : List Int) (hs : 0 ≤ s) (hl : l.length ≤ 4611686018427387904) (h : 0 < xs.length) (hx : xs.length ≤ 100) :
    ∃ bt, tilefarmgen_Tape_Pick.f l s xs = some bt ∧ bt.1 ∈ xs ∧ 0 ≤ bt.2 := by
  obtain ⟨r, s', h1, h2, h3, h4⟩ := next_spec l s (xs.length : Int) hs hl (by omega) (by omega)
  refine ⟨(rd xs r, s'), ?_, ?_, h4⟩
  · unfold tilefarmgen_Tape_Pick.f
    rw [h1, Option.bind_some, if_pos h2, if_pos h3]
  · obtain ⟨n, rfl⟩ := Int.eq_ofNat_of_zero_le h2
    exact rd_mem xs n (by omega)


abbrev V (a b c d : Int) : Prop := (a = 0 ∧ b = 0 ∧ c = 0 ∧ d = 0) ∨ (-1048576 ≤ a ∧ a ≤ 1048576 ∧ -1048576 ≤ b ∧ b ≤ 1048576 ∧ -1048576 ≤ c ∧ c ≤ 1048576 ∧ -1048576 ≤ d ∧ d ≤ 1048576 ∧ a < c ∧ b < d)

theorem empty_eq (a b c d : Int) : rect_Empty.f a b c d = some (decide (a = 0 ∧ b = 0 ∧ c = 0 ∧ d = 0)) := by
  unfold rect_Empty.f
  congr 1
  rw [Bool.eq_iff_iff]
  simp

theorem coord_eq (a : Int) : rect_coord.f a = some (decide (-1048576 ≤ a ∧ a ≤ 1048576)) := by
  unfold rect_coord.f
  split <;> congr 1 <;> rw [Bool.eq_iff_iff] <;> simp <;> omega

theorem valid_eq (a b c d : Int) : rect_Valid.f a b c d = some (decide (V a b c d)) := by
  unfold rect_Valid.f
  simp only [empty_eq, coord_eq, Option.bind_some, decide_eq_true_eq]
  repeat' split
  all_goals first | (refine sd_iff ?_; omega) | (refine sd_true ?_; omega) | (refine sd_false ?_; omega)

theorem ref_coord_eq (a : Int) : tilefarmref2_coord.f a = some (decide (-1048576 ≤ a ∧ a ≤ 1048576)) := by
  unfold tilefarmref2_coord.f
  split <;> congr 1 <;> rw [Bool.eq_iff_iff] <;> simp <;> omega

theorem ref_valid_eq (a b c d : Int) : tilefarmref2_Valid.f a b c d = some (decide (V a b c d)) := by
  unfold tilefarmref2_Valid.f
  simp only [ref_coord_eq, Option.bind_some, decide_eq_true_eq, V, Bool.and_eq_true, beq_iff_eq]
  repeat' split
  all_goals first | (refine sd_iff ?_; omega) | (refine sd_true ?_; omega) | (refine sd_false ?_; omega)

def ix (a0 a1 a2 a3 b0 b1 b2 b3 : Int) : Int × Int × Int × Int :=
  if V a0 a1 a2 a3 ∧ V b0 b1 b2 b3 ∧ mx a0 b0 < mn a2 b2 ∧ mx a1 b1 < mn a3 b3 then (mx a0 b0, mx a1 b1, mn a2 b2, mn a3 b3) else (0, 0, 0, 0)

theorem intersect_eq (k : Nat) (a0 a1 a2 a3 b0 b1 b2 b3 : Int) : rect_Intersect.f (k + 1) a0 a1 a2 a3 b0 b1 b2 b3 = some (ix a0 a1 a2 a3 b0 b1 b2 b3) := by
  unfold rect_Intersect.f ix
  simp only [valid_eq, Option.bind_some, rect_Intersect.j0, decide_eq_true_eq, Bool.not_eq_true', decide_eq_false_iff_not, if_true]
  by_cases h1 : V a0 a1 a2 a3
  · by_cases h2 : V b0 b1 b2 b3
    · rw [if_pos h1, if_neg (fun h => h h2)]
      by_cases h3 : mx a0 b0 < mn a2 b2
      · by_cases h4 : mx a1 b1 < mn a3 b3
        · rw [if_neg (by omega), if_neg (by omega), if_pos ⟨h1, h2, h3, h4⟩]
        · rw [if_neg (by omega), if_pos (by omega), if_neg (fun h => h4 h.2.2.2)]
      · rw [if_pos (by omega), if_neg (fun h => h3 h.2.2.1)]
    · rw [if_pos h1, if_pos h2, if_neg (fun h => h2 h.2.1)]
  · rw [if_neg h1, if_neg (fun h => h1 h.1)]

theorem ix_spec {a0 a1 a2 a3 b0 b1 b2 b3 c0 c1 c2 c3 : Int} (hc : ix a0 a1 a2 a3 b0 b1 b2 b3 = (c0, c1, c2, c3)) (ha : V a0 a1 a2 a3) (hb : V b0 b1 b2 b3) :
    (c0 = 0 ∧ c1 = 0 ∧ c2 = 0 ∧ c3 = 0 ∧ (min a2 b2 ≤ max a0 b0 ∨ min a3 b3 ≤ max a1 b1)) ∨ (c0 = max a0 b0 ∧ c1 = max a1 b1 ∧ c2 = min a2 b2 ∧ c3 = min a3 b3 ∧ c0 < c2 ∧ c1 < c3) := by
  simp only [ix, mx_max, mn_min] at hc
  split at hc
  · next h =>
    simp only [Prod.mk.injEq] at hc
    exact .inr (by omega)
  · next h =>
    simp only [Prod.mk.injEq] at hc
    refine .inl ?_
    have : ¬ (max a0 b0 < min a2 b2 ∧ max a1 b1 < min a3 b3) := fun h' => h ⟨ha, hb, h'⟩
    omega

theorem ix_inside {a0 a1 a2 a3 b0 b1 b2 b3 c0 c1 c2 c3 : Int} (h : (c0 = 0 ∧ c1 = 0 ∧ c2 = 0 ∧ c3 = 0 ∧ (min a2 b2 ≤ max a0 b0 ∨ min a3 b3 ≤ max a1 b1)) ∨ (c0 = max a0 b0 ∧ c1 = max a1 b1 ∧ c2 = min a2 b2 ∧ c3 = min a3 b3 ∧ c0 < c2 ∧ c1 < c3))
    (hy : ¬ (c0 = 0 ∧ c1 = 0 ∧ c2 = 0 ∧ c3 = 0)) : a0 ≤ c0 ∧ c0 < c2 ∧ c2 ≤ a2 ∧ a1 ≤ c1 ∧ c1 < c3 ∧ c3 ≤ a3 := by
  rcases h with h | h
  · exact absurd ⟨h.1, h.2.1, h.2.2.1, h.2.2.2.1⟩ hy
  · omega

theorem V_range {a b c d : Int} (h : V a b c d) : -1048576 ≤ a ∧ c ≤ 1048576 ∧ -1048576 ≤ b ∧ d ≤ 1048576 := by omega
theorem V_mono {a b c d : Int} (h : V a b c d) : a ≤ c ∧ b ≤ d := by omega


theorem rcontains_eq {a b c d : Int} (hV : V a b c d) (x y : Int) : tilefarmref2_Contains.f a b c d x y = some (decide (a ≤ x ∧ x < c ∧ b ≤ y ∧ y < d)) := by
  unfold tilefarmref2_Contains.f
  simp only [ref_valid_eq, Option.bind_some, decide_eq_true_eq]
  rw [if_pos hV]
  clear hV
  repeat' split
  all_goals first | (refine sd_iff ?_; omega) | (refine sd_false ?_; omega)

theorem V_of' {a b c d : Int} (h : -1048576 ≤ a ∧ a < c ∧ c ≤ 1048576 ∧ -1048576 ≤ b ∧ b < d ∧ d ≤ 1048576) : V a b c d := .inr (by omega)


theorem mul_some (a b c : Int) : ∃ p, extent_Mul.f a b c = some p := by
  unfold extent_Mul.f
  by_cases c1 : a < 0
  · rw [if_pos c1]; exact ⟨_, rfl⟩
  · rw [if_neg c1]
    by_cases c2 : b < 0
    · rw [if_pos c2]; exact ⟨_, rfl⟩
    · rw [if_neg c2]
      by_cases c3 : c < 0
      · rw [if_pos c3]; exact ⟨_, rfl⟩
      · rw [if_neg c3]
        by_cases c4 : a = 0
        · rw [if_pos c4]; exact ⟨_, rfl⟩
        · rw [if_neg c4]
          by_cases c5 : b > wrap64 (Int.tdiv c a)
          · rw [if_pos c5]; exact ⟨_, rfl⟩
          · rw [if_neg c5]; exact ⟨_, rfl⟩

/-- Which sizes a plane can have. -/
abbrev SZ (a b m : Int) : Prop := 1 ≤ a ∧ a ≤ 128 ∧ 1 ≤ b ∧ b ≤ 128 ∧ a * b ≤ 4096 ∧ 1 ≤ m ∧ m ≤ 4294967296

theorem size_no {a b m : Int} (h : ¬ SZ a b m) : some false = some (decide (SZ a b m)) := by rw [decide_eq_false h]

theorem size_val (a b m : Int) : plane_size.f a b m = some (decide (SZ a b m)) := by
  unfold plane_size.f
  by_cases c1 : a ≥ 1
  · by_cases c2 : a ≤ 128
    · by_cases c3 : b ≥ 1
      · by_cases c4 : b ≤ 128
        · obtain ⟨b0, b1⟩ := mul_bd (x := a) (y := b) (B := 128) (C := 128) (by omega) (by omega) c2 c4
          have hq : b ≤ 4096 / a ↔ b * a ≤ 4096 := Int.le_ediv_iff_mul_le (by omega)
          have q0 : 0 ≤ 4096 / a := Int.ediv_nonneg (by decide) (by omega)
          have q1 : 4096 / a ≤ 4096 := Int.ediv_le_self _ (by decide)
          rw [Int.mul_comm b a] at hq
          unfold extent_Mul.f
          rw [if_neg (show ¬ a < 0 by omega), if_neg (show ¬ b < 0 by omega), if_neg (show ¬ (4096 : Int) < 0 by decide), if_neg (show ¬ a = 0 by omega), Int.tdiv_eq_ediv_of_nonneg (by decide), wrap_in (n := 4096 / a) (by omega) (by omega), wrap_in (n := a * b) (by omega) (by omega)]
          by_cases c5 : b > 4096 / a
          · rw [if_pos c5]
            exact size_no (fun h => by have := hq.2 h.2.2.2.2.1; omega)
          · rw [if_neg c5, Option.bind_some]
            simp only [if_pos c1, if_pos c2, if_pos c3, if_pos c4, if_true]
            by_cases c6 : m ≥ 1
            · rw [if_pos c6]
              have := hq.1 (by omega)
              exact congrArg some (decide_eq_decide.2 ⟨fun h => ⟨c1, c2, c3, c4, this, c6, h⟩, fun h => h.2.2.2.2.2.2⟩)
            · rw [if_neg c6]
              exact size_no (fun h => c6 h.2.2.2.2.2.1)
        · obtain ⟨p, hp⟩ := mul_some a b 4096
          rw [hp, Option.bind_some]
          simp only [if_pos c1, if_pos c2, if_pos c3, if_neg c4, ite_self]
          exact size_no (fun h => c4 h.2.2.2.1)
      · obtain ⟨p, hp⟩ := mul_some a b 4096
        rw [hp, Option.bind_some]
        simp only [if_pos c1, if_pos c2, if_neg c3, ite_self]
        exact size_no (fun h => c3 h.2.2.1)
    · obtain ⟨p, hp⟩ := mul_some a b 4096
      rw [hp, Option.bind_some]
      simp only [if_pos c1, if_neg c2, ite_self]
      exact size_no (fun h => c2 h.2.1)
  · obtain ⟨p, hp⟩ := mul_some a b 4096
    rw [hp, Option.bind_some]
    simp only [if_neg c1, ite_self]
    exact size_no (fun h => c1 h.1)

/-- Which planes are valid. -/
abbrev PV (a b m : Int) (l : List Int) : Prop := SZ a b m ∧ (l.length : Int) = a * b ∧ ∀ v ∈ l, 0 ≤ v ∧ v ≤ m

theorem vloop_spec (a b m : Int) (l : List Int) (hl : l.length ≤ 4611686018427387904) : ∀ (d k i : Nat), i + d = l.length → d < k →
    plane_Valid.l0 k l (l.length : Int) (i : Int) a b m l = some (decide (∀ v ∈ l.drop i, 0 ≤ v ∧ v ≤ m))
  | 0, k, i, hi, hk => by
    obtain ⟨k, rfl⟩ : ∃ n, k = n + 1 := ⟨k - 1, by omega⟩
    rw [plane_Valid.l0, if_neg (show ¬ (i : Int) < (l.length : Int) by omega), List.drop_eq_nil_of_le (by omega)]
    simp
  | d + 1, k, i, hi, hk => by
    obtain ⟨k, rfl⟩ : ∃ n, k = n + 1 := ⟨k - 1, by omega⟩
    rw [plane_Valid.l0, rd_drop l i (by omega)]
    simp only [if_pos (show (i : Int) < (l.length : Int) by omega), if_pos (show 0 ≤ (i : Int) by omega), List.mem_cons, forall_eq_or_imp]
    rw [wrap_in (n := (i : Int) + 1) (by omega) (by omega), show ((i : Int) + 1) = ((i + 1 : Nat) : Int) from rfl, vloop_spec a b m l hl d k (i + 1) (by omega) (by omega)]
    by_cases c1 : rd l (i : Int) < 0
    · rw [if_pos c1]
      exact sd_false (fun h => by omega)
    · rw [if_neg c1]
      by_cases c2 : rd l (i : Int) > m
      · rw [if_pos c2]
        exact sd_false (fun h => by omega)
      · rw [if_neg c2]
        exact sd_iff ⟨fun h => ⟨by omega, h⟩, fun h => h.2⟩

theorem pvalid_spec (k : Nat) (a b m : Int) (l : List Int) (hl : l.length ≤ 4611686018427387904) (hk : l.length + 1 < k) : plane_Valid.f k a b m l = some (decide (PV a b m l)) := by
  obtain ⟨k, rfl⟩ : ∃ n, k = n + 1 := ⟨k - 1, by omega⟩
  unfold plane_Valid.f
  rw [size_val, Option.bind_some]
  by_cases c1 : SZ a b m
  · rw [decide_eq_true c1, if_pos rfl]
    obtain ⟨b0, b1⟩ := mul_bd (x := a) (y := b) (B := 128) (C := 128) (by omega) (by omega) c1.2.1 c1.2.2.2.1
    simp only [plane_Valid.j0]
    rw [wrap_in (n := a * b) (by omega) (by omega)]
    by_cases c2 : (l.length : Int) = a * b
    · rw [bne_eq_false_iff_eq.2 c2, if_neg Bool.false_ne_true]
      have hv := vloop_spec a b m l hl l.length k 0 (by omega) (by omega)
      rw [List.drop_zero] at hv
      exact hv.trans (sd_iff ⟨fun h => ⟨c1, c2, h⟩, fun h => h.2.2⟩)
    · rw [bne_iff_ne.2 c2, if_pos rfl]
      exact sd_false (fun h => c2 h.2.1)
  · rw [decide_eq_false c1, if_neg Bool.false_ne_true]
    exact sd_false (fun h => c1 h.1)


theorem set_all (P : Int → Prop) (l : List Int) (i : Nat) (v : Int) (h : ∀ x ∈ l, P x) (hv : P v) : ∀ x ∈ l.set i v, P x := by
  intro x hx
  rcases List.mem_or_eq_of_mem_set hx with hx | hx
  · exact h x hx
  · rw [hx]; exact hv

theorem sized_loop (t : List Int) (ht : t.length ≤ 4611686018427387904) (a b m : Int) (hm : 1 ≤ m) (hm' : m ≤ 4294967296) : ∀ (d k i : Nat) (s : Int) (l : List Int), 0 ≤ s → i + d = l.length → l.length ≤ 100000 → d < k →
    (∀ v ∈ l, 0 ≤ v ∧ v ≤ m) → ∃ bt, tilefarmgen_Tape_Sized.l0 k (i : Int) t s a b m l = some bt ∧ bt.1 = a ∧ bt.2.1 = b ∧ bt.2.2.1 = m ∧ bt.2.2.2.1.length = l.length ∧ (∀ v ∈ bt.2.2.2.1, 0 ≤ v ∧ v ≤ m) ∧ 0 ≤ bt.2.2.2.2
  | 0, k, i, s, l, hs, hi, hl, hk, hv => by
    obtain ⟨k, rfl⟩ : ∃ n, k = n + 1 := ⟨k - 1, by omega⟩
    rw [tilefarmgen_Tape_Sized.l0, if_neg (show ¬ (i : Int) < (l.length : Int) by omega)]
    exact ⟨_, rfl, rfl, rfl, rfl, rfl, hv, hs⟩
  | d + 1, k, i, s, l, hs, hi, hl, hk, hv => by
    obtain ⟨k, rfl⟩ : ∃ n, k = n + 1 := ⟨k - 1, by omega⟩
    rw [tilefarmgen_Tape_Sized.l0, if_pos (show (i : Int) < (l.length : Int) by omega), wrap_in (n := m + 1) (by omega) (by omega)]
    obtain ⟨r1, h1, h1a, h1b, h1c⟩ := next_o t s (m + 1) hs ht (by omega) (by omega)
    obtain ⟨r2, h2, h2a, h2b, h2c⟩ := next_o t r1.2 (m + 1) h1c ht (by omega) (by omega)
    obtain ⟨r3, h3, h3a, h3b⟩ := pick_o t r2.2 [r1.1, r2.1, m, 0] h2c ht (by simp) (by simp)
    rw [h1, Option.bind_some, h2, Option.bind_some, h3, Option.bind_some, if_pos (show 0 ≤ (i : Int) by omega), wrap_in (n := (i : Int) + 1) (by omega) (by omega)]
    have hr : 0 ≤ r3.1 ∧ r3.1 ≤ m := by
      simp only [List.mem_cons, List.not_mem_nil, or_false] at h3a
      clear h1 h2 h3 hv
      omega
    obtain ⟨bt, g1, g2, g3, g4, g5, g6, g7⟩ := sized_loop t ht a b m hm hm' d k (i + 1) r3.2 (l.set (i : Int).toNat r3.1) h3b (by rw [List.length_set]; omega) (by rw [List.length_set]; omega) (by omega) (set_all _ l _ _ hv hr)
    exact ⟨bt, g1, g2, g3, g4, by rw [g5, List.length_set], g6, g7⟩

theorem sized_spec (K : Nat) (hK : 2000 ≤ K) (t : List Int) (ht : t.length ≤ 4611686018427387904) (s a b : Int) (hs : 0 ≤ s) (ha : 1 ≤ a) (ha' : a ≤ 30) (hb : 1 ≤ b) (hb' : b ≤ 30) :
    ∃ bt, tilefarmgen_Tape_Sized.f K t s a b = some bt ∧ bt.1 = a ∧ bt.2.1 = b ∧ 1 ≤ bt.2.2.1 ∧ bt.2.2.1 ≤ 65535 ∧ (bt.2.2.2.1.length : Int) = a * b ∧ (∀ v ∈ bt.2.2.2.1, 0 ≤ v ∧ v ≤ bt.2.2.1) ∧ 0 ≤ bt.2.2.2.2 := by
  obtain ⟨r, h1, h1a, h1b⟩ := pick_o t s [255, 255, 65535, 1, 7] hs ht (by simp) (by simp)
  have hr : 1 ≤ r.1 ∧ r.1 ≤ 65535 := by
    simp only [List.mem_cons, List.not_mem_nil, or_false] at h1a
    clear h1
    omega
  obtain ⟨m0, m1⟩ := mul_bd (x := a) (y := b) (B := 30) (C := 30) (by omega) (by omega) ha' hb'
  unfold tilefarmgen_Tape_Sized.f
  rw [h1, Option.bind_some, wrap_in (n := a * b) (by omega) (by omega), if_pos m0, if_pos (show (a * b : Int).toNat ≤ 35184372088832 by omega)]
  obtain ⟨bt, g1, g2, g3, g4, g5, g6, g7⟩ := sized_loop t ht a b r.1 hr.1 (by omega) (a * b : Int).toNat K 0 r.2 (List.replicate (a * b : Int).toNat 0) h1b (by rw [List.length_replicate]; omega) (by rw [List.length_replicate]; omega) (by omega) (fun v hv => by rw [List.eq_of_mem_replicate hv]; omega)
  rw [List.length_replicate] at g5
  exact ⟨bt, g1, g2, g3, by rw [g4]; exact hr.1, by rw [g4]; exact hr.2, by rw [g5]; omega, by rw [g4]; exact g6, g7⟩


theorem within_spec (l : List Int) (s w h : Int) (hs : 0 ≤ s) (hl : l.length ≤ 4611686018427387904) (hw : 0 < w) (hw2 : w ≤ 1000000) (hh : 0 < h) (hh2 : h ≤ 1000000) :
    ∃ a b c d s', tilefarmgen_Tape_Within.f l s w h = some (a, b, c, d, s') ∧ 0 ≤ s' ∧ 0 ≤ a ∧ a < c ∧ c ≤ w ∧ 0 ≤ b ∧ b < d ∧ d ≤ h := by
  obtain ⟨r1, s1, h1, h1a, h1b, h1c⟩ := next_spec l s w hs hl (by omega) (by omega)
  obtain ⟨r2, s2, h2, h2a, h2b, h2c⟩ := next_spec l s1 h h1c hl (by omega) (by omega)
  obtain ⟨r3, s3, h3, h3a, h3b, h3c⟩ := next_spec l s2 (w - r1) h2c hl (by omega) (by omega)
  obtain ⟨r4, s4, h4, h4a, h4b, h4c⟩ := next_spec l s3 (h - r2) h3c hl (by omega) (by omega)
  refine ⟨r1, r2, r1 + 1 + r3, r2 + 1 + r4, s4, ?_, h4c, h1a, by omega, by omega, h2a, by omega, by omega⟩
  unfold tilefarmgen_Tape_Within.f
  simp only [h1, h2, Option.bind_some]
  rw [wrap_in (n := w - r1) (by omega) (by omega), h3]
  simp only [Option.bind_some]
  rw [wrap_in (n := h - r2) (by omega) (by omega), h4]
  simp only [Option.bind_some]
  rw [wrap_in (n := r1 + 1) (by omega) (by omega), wrap_in (n := r1 + 1 + r3) (by omega) (by omega), wrap_in (n := r2 + 1) (by omega) (by omega), wrap_in (n := r2 + 1 + r4) (by omega) (by omega)]


/-- The rectangle is full and in the plane. -/
abbrev IN (W H x0 y0 x1 y1 : Int) : Prop := 0 ≤ x0 ∧ x0 < x1 ∧ x1 ≤ W ∧ 0 ≤ y0 ∧ y0 < y1 ∧ y1 ≤ H

theorem inside_p (k : Nat) {W H : Int} (hW : 1 ≤ W) (hW' : W ≤ 128) (hH : 1 ≤ H) (hH' : H ≤ 128) {a b c d : Int} (hz : ¬ (a = 0 ∧ b = 0 ∧ c = 0 ∧ d = 0)) : rect_Inside.f (k + 1) a b c d 0 0 W H = some (decide (IN W H a b c d)) := by
  have hb : V 0 0 W H := .inr (by omega)
  unfold rect_Inside.f
  rw [valid_eq, Option.bind_some]
  by_cases ha : V a b c d
  · rw [decide_eq_true ha, if_pos rfl, valid_eq, Option.bind_some, decide_eq_true hb, if_pos rfl, intersect_eq, Option.bind_some]
    simp only [ix, mx_max, mn_min]
    by_cases h : max a 0 < min c W ∧ max b 0 < min d H
    · rw [if_pos ⟨ha, hb, h.1, h.2⟩]
      congr 1
      rw [Bool.eq_iff_iff]
      simp only [Bool.and_eq_true, beq_iff_eq, decide_eq_true_eq]
      omega
    · rw [if_neg (fun g => h g.2.2)]
      congr 1
      rw [Bool.eq_iff_iff]
      simp only [Bool.and_eq_true, beq_iff_eq, decide_eq_true_eq]
      omega
  · rw [decide_eq_false ha, if_neg Bool.false_ne_true]
    exact sd_false (fun g => ha (.inr (by omega)))


/-- The pixels of a row of a rectangle. -/
def rowl (W : Int) (P : List Int) (x0 x1 y : Int) : List Int := (P.take (y * W + x1).toNat).drop (y * W + x0).toNat
/-- The pixels of some rows of a rectangle. -/
def rowsl (W : Int) (P : List Int) (x0 x1 : Int) : Nat → Int → List Int
  | 0, _ => []
  | d + 1, y => rowl W P x0 x1 y ++ rowsl W P x0 x1 d (y + 1)

theorem rowl_len {W : Int} {P : List Int} {x0 x1 y : Int} (h0 : 0 ≤ y * W) (h1 : 0 ≤ x0) (h2 : x0 ≤ x1) (h3 : y * W + x1 ≤ (P.length : Int)) : (rowl W P x0 x1 y).length = (x1 - x0).toNat := by
  unfold rowl
  rw [List.length_drop, List.length_take]
  omega

theorem rowl_mem {W : Int} {P : List Int} {x0 x1 y v : Int} (h : v ∈ rowl W P x0 x1 y) : v ∈ P := List.mem_of_mem_take (List.mem_of_mem_drop h)

theorem rowsl_mem {W : Int} {P : List Int} {x0 x1 v : Int} : ∀ (d : Nat) (y : Int), v ∈ rowsl W P x0 x1 d y → v ∈ P
  | 0, _, h => by simp [rowsl] at h
  | d + 1, y, h => by
    rcases List.mem_append.1 h with h | h
    · exact rowl_mem h
    · exact rowsl_mem d (y + 1) h

theorem row_in {y W H : Int} (h0 : 0 ≤ y) (h1 : y < H) (hW : 0 ≤ W) : 0 ≤ y * W ∧ y * W + W ≤ W * H := by
  refine ⟨Int.mul_nonneg h0 hW, ?_⟩
  have := Int.mul_le_mul_of_nonneg_right (show y + 1 ≤ H by omega) hW
  rw [Int.add_mul, Int.one_mul, Int.mul_comm H W] at this
  exact this


theorem cell_in {i j W H : Int} (h0 : 0 ≤ i) (h1 : i < W) (h2 : 0 ≤ j) (h3 : j < H) : 0 ≤ j * W ∧ j * W + i < W * H := by
  refine ⟨Int.mul_nonneg h2 (by omega), ?_⟩
  have := Int.mul_le_mul_of_nonneg_right (show j + 1 ≤ H by omega) (show 0 ≤ W by omega)
  rw [Int.add_mul, Int.one_mul, Int.mul_comm H W] at this
  omega


theorem rd_ext {a b : List Int} (hl : a.length = b.length) (h : ∀ i : Nat, i < a.length → rd a (i : Int) = rd b (i : Int)) : a = b := by
  refine List.ext_getElem hl (fun i h1 h2 => ?_)
  have := h i h1
  simpa [rd, h1, h2] using this

theorem rd_app_left {a b : List Int} {i : Nat} (h : i < a.length) : rd (a ++ b) (i : Int) = rd a (i : Int) := by
  simp only [rd, Int.toNat_natCast, List.getD_eq_getElem?_getD]
  rw [List.getElem?_append_left h]

theorem rd_app_right {a b : List Int} (i : Nat) : rd (a ++ b) ((a.length + i : Nat) : Int) = rd b (i : Int) := by
  simp only [rd, Int.toNat_natCast, List.getD_eq_getElem?_getD]
  rw [List.getElem?_append_right (Nat.le_add_right _ _), Nat.add_sub_cancel_left]

theorem rd_td {P : List Int} {A B i : Nat} (h : A + i < B) : rd ((P.take B).drop A) (i : Int) = rd P ((A + i : Nat) : Int) := by
  simp only [rd, Int.toNat_natCast, List.getD_eq_getElem?_getD, List.getElem?_drop, List.getElem?_take]
  rw [if_pos h]

/-- A full rectangle in a plane, in the numbers of the proofs. -/
structure RC (W H : Int) (P : List Int) (x0 y0 : Int) (w d : Nat) : Prop where
  hx0 : 0 ≤ x0
  hx1 : x0 + (w : Int) ≤ W
  hy0 : 0 ≤ y0
  hy1 : y0 + (d : Int) ≤ H
  hW : W ≤ 128
  hH : H ≤ 128
  hWH : W * H ≤ 4096
  hL : (P.length : Int) = W * H
  hw : 1 ≤ w
  hd : 1 ≤ d
  hw' : w ≤ 128
  hd' : d ≤ 128

theorem rc_row {W H : Int} {P : List Int} {x0 y0 : Int} {w d : Nat} (h : RC W H P x0 y0 w d) {j : Nat} (hj : j < d) : ∃ A : Nat, ((y0 + (j : Int)) * W + x0).toNat = A ∧ ((y0 + (j : Int)) * W + (x0 + (w : Int))).toNat = A + w ∧ A + w ≤ P.length ∧ (A : Int) = (y0 + (j : Int)) * W + x0 ∧ 0 ≤ (y0 + (j : Int)) * W ∧ (y0 + (j : Int)) * W ≤ 4096 := by
  obtain ⟨a0, a1⟩ := row_in (y := y0 + (j : Int)) (W := W) (H := H) (by have := h.hy0; omega) (by have := h.hy1; omega) (by have := h.hx0; have := h.hx1; omega)
  have h1 := h.hx0
  have h2 := h.hx1
  have h3 := h.hL
  have h4 := h.hWH
  exact ⟨_, rfl, by omega, by omega, by omega, a0, by omega⟩

theorem rowl_rc {W H : Int} {P : List Int} {x0 y0 : Int} {w d : Nat} (h : RC W H P x0 y0 w d) {j : Nat} (hj : j < d) : (rowl W P x0 (x0 + (w : Int)) (y0 + (j : Int))).length = w ∧ ∀ i : Nat, i < w → rd (rowl W P x0 (x0 + (w : Int)) (y0 + (j : Int))) (i : Int) = rd P ((y0 + (j : Int)) * W + x0 + (i : Int)) := by
  obtain ⟨A, e1, e2, e3, e4, -, -⟩ := rc_row h hj
  unfold rowl
  rw [e1, e2]
  refine ⟨by rw [List.length_drop, List.length_take]; omega, fun i hi => ?_⟩
  rw [rd_td (by omega), Int.natCast_add, e4]

/-- The pixels of a rectangle. -/
def recl (W : Int) (P : List Int) (x0 : Int) (w : Nat) (y0 : Int) : Nat → List Int
  | 0 => []
  | d + 1 => recl W P x0 w y0 d ++ rowl W P x0 (x0 + (w : Int)) (y0 + (d : Int))

theorem rc_less {W H : Int} {P : List Int} {x0 y0 : Int} {w d : Nat} (h : RC W H P x0 y0 w d) {j : Nat} (hj : 1 ≤ j) (hjd : j ≤ d) : RC W H P x0 y0 w j :=
  ⟨h.hx0, h.hx1, h.hy0, by have := h.hy1; omega, h.hW, h.hH, h.hWH, h.hL, h.hw, hj, h.hw', by have := h.hd'; omega⟩

theorem recl_len {W H : Int} {P : List Int} {x0 y0 : Int} {w d : Nat} (h : RC W H P x0 y0 w d) : ∀ j, j ≤ d → (recl W P x0 w y0 j).length = j * w
  | 0, _ => by simp [recl]
  | j + 1, hj => by
    simp only [recl]
    rw [List.length_append, recl_len h j (by omega), (rowl_rc h (j := j) (by omega)).1, Nat.add_mul, Nat.one_mul]

theorem recl_rd {W H : Int} {P : List Int} {x0 y0 : Int} {w d : Nat} (h : RC W H P x0 y0 w d) : ∀ n, n ≤ d → ∀ j i : Nat, j < n → i < w → rd (recl W P x0 w y0 n) ((j * w + i : Nat) : Int) = rd P ((y0 + (j : Int)) * W + x0 + (i : Int))
  | 0, _, j, i, hj, _ => by omega
  | n + 1, hn, j, i, hj, hi => by
    have hl := recl_len h n (by omega)
    have hr := rowl_rc h (j := n) (by omega)
    simp only [recl]
    by_cases q : j < n
    · have h1 : (j + 1) * w ≤ n * w := Nat.mul_le_mul_right _ q
      rw [Nat.add_mul, Nat.one_mul] at h1
      rw [rd_app_left (by rw [hl]; omega)]
      exact recl_rd h n (by omega) j i q hi
    · have hjn : j = n := by omega
      rw [hjn, ← hl, rd_app_right, hr.2 i hi]

theorem recl_mem {W : Int} {P : List Int} {x0 y0 v : Int} {w : Nat} : ∀ d, v ∈ recl W P x0 w y0 d → v ∈ P
  | 0, h => by simp [recl] at h
  | d + 1, h => by
    simp only [recl] at h
    rcases List.mem_append.1 h with h | h
    · exact recl_mem d h
    · exact rowl_mem h

theorem rc_len {W H : Int} {P : List Int} {x0 y0 : Int} {w d : Nat} (h : RC W H P x0 y0 w d) : d * w ≤ P.length := by
  have h1 : (w : Int) * (d : Int) ≤ W * H := Int.mul_le_mul (by have := h.hx0; have := h.hx1; omega) (by have := h.hy0; have := h.hy1; omega) (by omega) (by have := h.hx0; have := h.hx1; omega)
  have hwd : (w : Int) * (d : Int) = ((d * w : Nat) : Int) := by rw [Int.mul_comm]; exact (Int.natCast_mul d w).symm
  have hL := h.hL
  rw [hwd] at h1
  omega

theorem crop_loop {W H m : Int} {P : List Int} {x0 y0 x1 y1 : Int} {w d : Nat} (h : RC W H P x0 y0 w d) (hx : x1 = x0 + (w : Int)) (hy : y1 = y0 + (d : Int)) (a b c : Int) : ∀ (e k j : Nat), j + e = d →
    plane_Crop.l0 (k + e + 1) (y0 + (j : Int)) W H m P x0 y0 x1 y1 a b c (recl W P x0 w y0 j) = some (a, b, c, recl W P x0 w y0 d, true)
  | 0, k, j, hj => by
    have hjd : j = d := hj
    rw [hjd, plane_Crop.l0, if_neg (show ¬ y0 + (d : Int) < y1 by omega)]
  | e + 1, k, j, hj => by
    have hj' : j < d := by omega
    obtain ⟨A, e1, e2, e3, e4, e5, e6⟩ := rc_row h hj'
    have ih := crop_loop (m := m) h hx hy a b c e k (j + 1) (by omega)
    have hl := recl_len h j (by omega)
    have hr := rowl_rc h hj'
    have hb := rc_len (rc_less h (j := j + 1) (by omega) (by omega))
    have hPL := h.hL
    have hPm := h.hWH
    have hw := h.hx0
    have hw2 := h.hx1
    have hw3 := h.hW
    have hw4 := h.hy0
    have hw5 := h.hy1
    have hw6 := h.hH
    rw [Nat.add_mul, Nat.one_mul] at hb
    subst hx
    have w1 : wrap64 ((y0 + (j : Int)) * W) = (y0 + (j : Int)) * W := wrap_in (by omega) (by omega)
    have w2 : wrap64 ((y0 + (j : Int)) * W + x0) = (y0 + (j : Int)) * W + x0 := wrap_in (by omega) (by omega)
    have w3 : wrap64 ((y0 + (j : Int)) * W + (x0 + (w : Int))) = (y0 + (j : Int)) * W + (x0 + (w : Int)) := wrap_in (by omega) (by omega)
    have w4 : wrap64 (y0 + (j : Int) + 1) = y0 + ((j + 1 : Nat) : Int) := by rw [wrap_in (by omega) (by omega)]; omega
    have g1 : 0 ≤ (y0 + (j : Int)) * W + x0 := by omega
    have g2 : (y0 + (j : Int)) * W + x0 ≤ (y0 + (j : Int)) * W + (x0 + (w : Int)) := by omega
    have g3 : (y0 + (j : Int)) * W + (x0 + (w : Int)) ≤ (P.length : Int) := by omega
    have g4 : (recl W P x0 w y0 j).length + (rowl W P x0 (x0 + (w : Int)) (y0 + (j : Int))).length < 17592186044416 := by rw [hl, hr.1]; omega
    rw [show k + (e + 1) + 1 = (k + e + 1) + 1 from rfl, plane_Crop.l0, if_pos (show y0 + (j : Int) < y1 by omega), w1, w2, w3, w4, if_pos g1, if_pos g2, if_pos g3]
    unfold rowl at g4
    rw [if_pos g4]
    exact ih

theorem rc_of {W H m : Int} {P : List Int} (hV : PV W H m P) {x0 y0 x1 y1 : Int} (hI : IN W H x0 y0 x1 y1) : ∃ w d : Nat, x1 = x0 + (w : Int) ∧ y1 = y0 + (d : Int) ∧ RC W H P x0 y0 w d := by
  obtain ⟨i1, i2, i3, i4, i5, i6⟩ := hI
  obtain ⟨⟨s1, s2, s3, s4, s5, s6, s7⟩, s8, s9⟩ := hV
  exact ⟨(x1 - x0).toNat, (y1 - y0).toNat, by omega, by omega, ⟨i1, by omega, i4, by omega, s2, s4, s5, s8, by omega, by omega, by omega, by omega⟩⟩

theorem crop_p {W H m : Int} {P : List Int} (hV : PV W H m P) {x0 y0 : Int} {w d : Nat} (h : RC W H P x0 y0 w d) (K : Nat) (hK : 10000 ≤ K) : plane_Crop.f K W H m P x0 y0 (x0 + (w : Int)) (y0 + (d : Int)) = some ((w : Int), (d : Int), m, recl W P x0 w y0 d, true) := by
  have hIN : IN W H x0 y0 (x0 + (w : Int)) (y0 + (d : Int)) := ⟨h.hx0, by have := h.hw; omega, h.hx1, h.hy0, by have := h.hd; omega, h.hy1⟩
  have hz : ¬ (x0 = 0 ∧ y0 = 0 ∧ x0 + (w : Int) = 0 ∧ y0 + (d : Int) = 0) := by have := h.hw; omega
  have hd' := h.hd'
  have hPl : P.length ≤ 4096 := by have := h.hL; have := h.hWH; omega
  obtain ⟨k, hk⟩ : ∃ k, K = (k + d + 1) + 1 := ⟨K - d - 2, by omega⟩
  unfold plane_Crop.f
  rw [pvalid_spec K W H m P (by omega) (by omega), Option.bind_some, decide_eq_true hV, if_pos rfl, empty_eq, Option.bind_some, decide_eq_false hz, if_neg Bool.false_ne_true]
  unfold plane_covered.f
  rw [Option.bind_some, hk, inside_p _ hV.1.1 hV.1.2.1 hV.1.2.2.1 hV.1.2.2.2.1 hz, Option.bind_some, decide_eq_true hIN, plane_Crop.j0, if_neg (show ¬ (!true) = true by decide)]
  have w1 : wrap64 (x0 + (w : Int) - x0) = (w : Int) := by have := h.hw'; rw [wrap_in (by omega) (by omega)]; omega
  have w2 : wrap64 (y0 + (d : Int) - y0) = (d : Int) := by rw [wrap_in (by omega) (by omega)]; omega
  rw [w1, w2]
  have hc := crop_loop (m := m) h rfl rfl (w : Int) (d : Int) m d k 0 (Nat.zero_add d)
  rw [show y0 + ((0 : Nat) : Int) = y0 by omega] at hc
  exact hc

theorem crop_PV {W H m : Int} {P : List Int} (hV : PV W H m P) {x0 y0 : Int} {w d : Nat} (h : RC W H P x0 y0 w d) : PV (w : Int) (d : Int) m (recl W P x0 w y0 d) := by
  have hl := recl_len h d (Nat.le_refl _)
  have hwd : (w : Int) * (d : Int) = ((d * w : Nat) : Int) := by rw [Int.mul_comm]; exact (Int.natCast_mul d w).symm
  have hb := rc_len h
  have := h.hL
  have := h.hWH
  refine ⟨⟨by have := h.hw; omega, by have := h.hw'; omega, by have := h.hd; omega, by have := h.hd'; omega, by omega, hV.1.2.2.2.2.2⟩, by rw [hl, hwd], fun v hv => hV.2.2 v (recl_mem d hv)⟩

/-! The greatest number of a list. -/
theorem max_loop {l : List Int} {m : Int} (hl : l.length ≤ 5000) (hv : ∀ v ∈ l, v ≤ m) : ∀ (d k i : Nat) (b : Int), i + d = l.length → b ≤ m → ∃ v, slices_Max_int_int.l0 (k + d + 1) l b (i : Int) = some v ∧ v ≤ m
  | 0, k, i, b, hi, hb => by
    rw [slices_Max_int_int.l0, if_neg (show ¬ (i : Int) < (l.length : Int) by omega)]
    exact ⟨b, rfl, hb⟩
  | d + 1, k, i, b, hi, hb => by
    have hm := hv _ (rd_mem l i (by omega))
    rw [show k + (d + 1) + 1 = (k + d + 1) + 1 from rfl, slices_Max_int_int.l0, if_pos (show (i : Int) < (l.length : Int) by omega), if_pos (show 0 ≤ (i : Int) by omega), wrap_in (n := (i : Int) + 1) (by omega) (by omega)]
    exact max_loop hl hv d k (i + 1) _ (by omega) (by rw [mx_max]; omega)

theorem max_p {l : List Int} {m : Int} (h0 : 0 < l.length) (hl : l.length ≤ 5000) (hv : ∀ v ∈ l, v ≤ m) (K : Nat) (hK : 6000 ≤ K) : ∃ v, slices_Max_int_int.f K l = some v ∧ v ≤ m := by
  obtain ⟨k, hk⟩ : ∃ k, K = k + (l.length - 1) + 1 := ⟨K - (l.length - 1) - 1, by omega⟩
  obtain ⟨v, g1, g2⟩ := max_loop hl hv (l.length - 1) k 1 (rd l 0) (by omega) (hv _ (rd_mem l 0 h0))
  refine ⟨v, ?_, g2⟩
  unfold slices_Max_int_int.f
  rw [if_neg (show ¬ (l.length : Int) < 1 by omega), if_pos (show 0 < (l.length : Int) by omega), hk]
  exact g1

/-! Blit. -/
theorem spl_rd {xs ys : List Int} {L : Nat} (h : L + ys.length ≤ xs.length) (i : Nat) : rd (spl xs L ys) (i : Int) = if L ≤ i ∧ i < L + ys.length then rd ys ((i - L : Nat) : Int) else rd xs (i : Int) := by
  have ht : (xs.take L).length = L := by rw [List.length_take]; omega
  unfold spl
  simp only [rd, Int.toNat_natCast, List.getD_eq_getElem?_getD]
  by_cases c1 : i < L
  · rw [if_neg (by omega), List.getElem?_append_left (by omega), List.getElem?_take, if_pos c1]
  · rw [List.getElem?_append_right (by omega), ht]
    by_cases c2 : i < L + ys.length
    · rw [if_pos ⟨by omega, c2⟩, List.getElem?_append_left (by omega)]
    · rw [if_neg (fun q => c2 q.2), List.getElem?_append_right (by omega), List.getElem?_drop]
      congr 2
      omega

theorem cell_iff {u v x c W : Int} {w : Nat} (hu : 0 ≤ u) (huW : u < W) (hx : 0 ≤ x) (hxW : x + (w : Int) ≤ W) : (c * W + x ≤ v * W + u ∧ v * W + u < c * W + x + (w : Int)) ↔ (v = c ∧ x ≤ u ∧ u < x + (w : Int)) := by
  constructor
  · rintro ⟨h1, h2⟩
    rcases Int.lt_trichotomy v c with q | q | q
    · have := Int.mul_le_mul_of_nonneg_right (show v + 1 ≤ c by omega) (show 0 ≤ W by omega)
      rw [Int.add_mul, Int.one_mul] at this
      omega
    · subst q
      exact ⟨rfl, by omega, by omega⟩
    · have := Int.mul_le_mul_of_nonneg_right (show c + 1 ≤ v by omega) (show 0 ≤ W by omega)
      rw [Int.add_mul, Int.one_mul] at this
      omega
  · rintro ⟨rfl, h1, h2⟩
    omega

/-- What a blit does: L is P with the first n rows of Q at (x, y). -/
structure BL (W H : Int) (P : List Int) (x y : Int) (w : Nat) (Q : List Int) (L : List Int) (n : Nat) : Prop where
  len : L.length = P.length
  rd : ∀ u v : Int, 0 ≤ u → u < W → 0 ≤ v → v < H → rd L (v * W + u) = if y ≤ v ∧ v < y + (n : Int) ∧ x ≤ u ∧ u < x + (w : Int) then rd Q ((v - y) * (w : Int) + (u - x)) else rd P (v * W + u)

theorem q_row {w d j : Nat} {Q : List Int} (hQ : Q.length = d * w) (hj : j < d) (hQl : Q.length ≤ 4096) : wrap64 ((j : Int) * (w : Int)) = ((j * w : Nat) : Int) ∧ wrap64 ((j : Int) + 1) = ((j + 1 : Nat) : Int) ∧ wrap64 (((j + 1 : Nat) : Int) * (w : Int)) = ((j * w + w : Nat) : Int) ∧ j * w + w ≤ Q.length ∧ (j : Int) ≤ 4096 ∨ w = 0 := by
  rcases Nat.eq_zero_or_pos w with q | q
  · exact .inr q
  · have h1 : (j + 1) * w ≤ d * w := Nat.mul_le_mul_right _ hj
    rw [Nat.add_mul, Nat.one_mul] at h1
    have h2 : j * 1 ≤ j * w := Nat.mul_le_mul_left _ q
    refine .inl ⟨?_, ?_, ?_, by omega, by omega⟩
    · rw [← Int.natCast_mul, wrap_in (by omega) (by omega)]
    · rw [wrap_in (by omega) (by omega)]; rfl
    · rw [← Int.natCast_mul, Nat.add_mul, Nat.one_mul, wrap_in (by omega) (by omega)]

theorem bl_step {W H : Int} {P Q L : List Int} {x y : Int} {w d j A : Nat} (h : RC W H P x y w d) (hQ : Q.length = d * w) (hj : j < d) (hb : BL W H P x y w Q L j) (hA : (A : Int) = (y + (j : Int)) * W + x) (hAl : A + w ≤ P.length) (hqw : j * w + w ≤ Q.length) :
    BL W H P x y w Q (spl L A ((Q.take (j * w + w)).drop (j * w))) (j + 1) := by
  have hyl : ((Q.take (j * w + w)).drop (j * w)).length = w := by rw [List.length_drop, List.length_take]; omega
  have hfit : A + ((Q.take (j * w + w)).drop (j * w)).length ≤ L.length := by rw [hyl, hb.len]; exact hAl
  refine ⟨by rw [spl_len hfit]; exact hb.len, fun u v hu huW hv hvH => ?_⟩
  have hcell := cell_in (i := u) (j := v) (W := W) (H := H) hu huW hv hvH
  obtain ⟨i, hi⟩ : ∃ i : Nat, (i : Int) = v * W + u := ⟨(v * W + u).toNat, Int.toNat_of_nonneg (Int.add_nonneg hcell.1 hu)⟩
  have hiff := cell_iff (u := u) (v := v) (x := x) (c := y + (j : Int)) (W := W) (w := w) hu huW h.hx0 h.hx1
  have hold := hb.rd u v hu huW hv hvH
  rw [← hi] at hiff hold ⊢
  rw [← hA] at hiff
  rw [spl_rd hfit, hyl]
  by_cases c : A ≤ i ∧ i < A + w
  · obtain ⟨e1, e2, e3⟩ := hiff.1 ⟨Int.ofNat_le.2 c.1, by have := c.2; omega⟩
    rw [if_pos c, if_pos (show y ≤ v ∧ v < y + ((j + 1 : Nat) : Int) ∧ x ≤ u ∧ u < x + (w : Int) by omega), rd_td (by omega)]
    congr 1
    have h1 : ((i - A : Nat) : Int) = u - x := by
      rw [Int.natCast_sub c.1, hA, hi, e1]
      omega
    rw [Int.natCast_add, h1, Int.natCast_mul, e1]
    congr 2
    omega
  · have hno : ¬ (v = y + (j : Int) ∧ x ≤ u ∧ u < x + (w : Int)) := fun q => c (by
      have := hiff.2 q
      exact ⟨Int.ofNat_le.1 this.1, by have := this.2; omega⟩)
    rw [if_neg c, hold]
    by_cases q : y ≤ v ∧ v < y + (j : Int) ∧ x ≤ u ∧ u < x + (w : Int)
    · rw [if_pos q, if_pos (show y ≤ v ∧ v < y + ((j + 1 : Nat) : Int) ∧ x ≤ u ∧ u < x + (w : Int) by omega)]
    · rw [if_neg q, if_neg (show ¬ (y ≤ v ∧ v < y + ((j + 1 : Nat) : Int) ∧ x ≤ u ∧ u < x + (w : Int)) by omega)]

theorem blit_w {W x y : Int} {A j : Nat} (hx0 : 0 ≤ x) (hxx : x ≤ 128) (hy0 : 0 ≤ y) (hyy : y + (j : Int) ≤ 128) (hA : (A : Int) = (y + (j : Int)) * W + x) (a0 : 0 ≤ (y + (j : Int)) * W) (a1 : (y + (j : Int)) * W ≤ 4096) :
    wrap64 (y + (j : Int)) = y + (j : Int) ∧ wrap64 ((y + (j : Int)) * W) = (y + (j : Int)) * W ∧ wrap64 ((y + (j : Int)) * W + x) = ((A : Nat) : Int) :=
  ⟨wrap_in (by omega) (by omega), wrap_in (by omega) (by omega), by rw [wrap_in (by omega) (by omega), hA]⟩

theorem blit_g {A w l n : Nat} (h : A + w ≤ l) (hl : n = l) : ((A : Nat) : Int) ≤ (n : Int) ∧ (w : Int) ≤ ((n - A : Nat) : Int) := by omega
theorem blit_q {a w n : Nat} (h : a + w ≤ n) : ((a : Nat) : Int) ≤ ((a + w : Nat) : Int) ∧ ((a + w : Nat) : Int) ≤ (n : Int) := by omega

theorem blit_xy {W H x y : Int} {P : List Int} {w d j : Nat} (h : RC W H P x y w d) (hj : j < d) : x ≤ 128 ∧ y + (j : Int) ≤ 128 := by
  have h1 := h.hx1
  have h2 := h.hW
  have h3 := h.hy1
  have h4 := h.hH
  omega

theorem blit_loop {W H m q : Int} {P Q : List Int} {x y : Int} {w d : Nat} (h : RC W H P x y w d) (hQ : Q.length = d * w) (hQl : Q.length ≤ 4096) : ∀ (e k j : Nat) (L : List Int), j + e = d → BL W H P x y w Q L j →
    ∃ L', plane_Blit.l0 (k + e + 1) x y (d : Int) (j : Int) W H m L (w : Int) (d : Int) q Q = some (W, H, m, L', true) ∧ BL W H P x y w Q L' d
  | 0, k, j, L, hj, hb => by
    have hjd : j = d := hj
    rw [hjd] at hb ⊢
    rw [plane_Blit.l0, if_neg (Int.lt_irrefl _)]
    exact ⟨L, rfl, hb⟩
  | e + 1, k, j, L, hj, hb => by
    have hj1 : j + 1 + e = d := (Nat.succ_add_eq_add_succ j e).trans hj
    have hj' : j < d := Nat.lt_of_lt_of_le (Nat.lt_succ_self j) (Nat.le.intro hj1)
    obtain ⟨A, e1, e2, e3, e4, e5, e6⟩ := rc_row h hj'
    obtain ⟨b1, b2⟩ := blit_xy h hj'
    rcases q_row hQ hj' hQl with ⟨z1, z2, z3, z4, z5⟩ | hw0
    · have hst := bl_step h hQ hj' hb e4 e3 z4
      obtain ⟨L', r1, r2⟩ := blit_loop (m := m) (q := q) h hQ hQl e k (j + 1) _ hj1 hst
      refine ⟨L', ?_, r2⟩
      have hyl : ((Q.take (j * w + w)).drop (j * w)).length = w := by rw [List.length_drop, List.length_take, Nat.min_eq_left z4, Nat.add_sub_cancel_left]
      obtain ⟨w1, w2, w3⟩ := blit_w h.hx0 b1 h.hy0 b2 e4 e5 e6
      obtain ⟨g1, g5⟩ := blit_g e3 hb.len
      obtain ⟨g2, g3⟩ := blit_q z4
      have g4 : (0 : Int) < (((Q.take (j * w + w)).drop (j * w)).length : Int) := by rw [hyl]; exact Int.ofNat_lt.2 h.hw
      have g6 : (((Q.take (j * w + w)).drop (j * w)).length : Int) ≤ ((L.drop A).length : Int) := by rw [hyl, List.length_drop]; exact g5
      rw [show k + (e + 1) + 1 = (k + e + 1) + 1 from rfl, plane_Blit.l0, if_pos (Int.ofNat_lt.2 hj'), w1, w2, w3, z1, z2, z3, if_pos (Int.natCast_nonneg A), if_pos g1, if_pos (Int.natCast_nonneg (j * w)), if_pos g2, if_pos g3]
      simp only [Int.toNat_natCast]
      rw [if_pos g4, if_pos g6]
      exact r1
    · exact absurd h.hw (by rw [hw0]; decide)

theorem blit_p {W H m q : Int} {P Q : List Int} (hV : PV W H m P) {x y : Int} {w d : Nat} (h : RC W H P x y w d) (hQ : PV (w : Int) (d : Int) q Q) (hle : ∀ v ∈ Q, v ≤ m) (K : Nat) (hK : 20000 ≤ K) :
    ∃ L, plane_Blit.f K W H m P (w : Int) (d : Int) q Q x y = some (W, H, m, L, true) ∧ BL W H P x y w Q L d := by
  have hQl : Q.length = d * w := by
    have := hQ.2.1
    rw [← Int.natCast_mul, Nat.mul_comm] at this
    exact Int.ofNat.inj this
  have hPl : P.length ≤ 4096 := by have := h.hL; have := h.hWH; omega
  have hq4 : Q.length ≤ 4096 := by have := rc_len h; omega
  have hd' := h.hd'
  have hdw : 1 * 1 ≤ d * w := Nat.mul_le_mul h.hd h.hw
  obtain ⟨v, g1, g2⟩ := max_p (by omega) (by omega) hle (K - 1) (by omega)
  obtain ⟨k, hk⟩ : ∃ k, K - 1 = k + d + 1 := ⟨K - 1 - d - 1, by omega⟩
  obtain ⟨L, r1, r2⟩ := blit_loop (m := m) (q := q) h hQl hq4 d k 0 P (Nat.zero_add d) ⟨rfl, fun u v _ _ _ _ => by rw [if_neg (by omega)]⟩
  refine ⟨L, ?_, r2⟩
  have hx0 := h.hx0
  have hx1 := h.hx1
  have hy0 := h.hy0
  have hy1 := h.hy1
  have hW := h.hW
  have hH := h.hH
  have hw' := h.hw'
  unfold plane_Blit.f
  rw [pvalid_spec K W H m P (by omega) (by omega), Option.bind_some, decide_eq_true hV, if_pos rfl, pvalid_spec K (w : Int) (d : Int) q Q (by omega) (by omega), Option.bind_some, decide_eq_true hQ, if_pos rfl, if_neg (show ¬ x < 0 by omega), if_neg (show ¬ y < 0 by omega), wrap_in (n := W - (w : Int)) (by omega) (by omega), if_neg (show ¬ x > W - (w : Int) by omega), wrap_in (n := H - (d : Int)) (by omega) (by omega), decide_eq_false (show ¬ y > H - (d : Int) by omega), show K = (K - 1) + 1 by omega, plane_Blit.j0, if_neg Bool.false_ne_true, g1, Option.bind_some, if_neg (show ¬ v > m by omega)]
  unfold slices_Clone_int_int.f
  rw [Option.bind_some, if_pos (show ([] : List Int).length + P.length < 17592186044416 by rw [List.length_nil]; omega), Option.bind_some, List.nil_append, hk]
  exact r1

theorem sized_PV {a b : Int} {bt : Int × Int × Int × List Int × Int} (h1 : bt.1 = a) (h2 : bt.2.1 = b) (h3 : 1 ≤ bt.2.2.1) (h4 : bt.2.2.1 ≤ 65535) (h5 : (bt.2.2.2.1.length : Int) = a * b) (h6 : ∀ v ∈ bt.2.2.2.1, 0 ≤ v ∧ v ≤ bt.2.2.1) (ha : 1 ≤ a) (ha' : a ≤ 10) (hb : 1 ≤ b) (hb' : b ≤ 10) : PV bt.1 bt.2.1 bt.2.2.1 bt.2.2.2.1 ∧ bt.2.2.2.1.length ≤ 100 := by
  obtain ⟨m0, m1⟩ := mul_bd (x := a) (y := b) (B := 10) (C := 10) (by omega) (by omega) ha' hb'
  rw [h1, h2]
  exact ⟨⟨⟨ha, by omega, hb, by omega, by omega, h3, by omega⟩, h5, h6⟩, by omega⟩

theorem seq_loop (l : List Int) (hl : l.length ≤ 100000) : ∀ (d k i : Nat), i + d = l.length → slices_Equal_int_int.l0 (k + d + 1) l l (l.length : Int) (i : Int) = some true
  | 0, k, i, hi => by rw [slices_Equal_int_int.l0, if_neg (show ¬ (i : Int) < (l.length : Int) by omega)]
  | d + 1, k, i, hi => by
    rw [show k + (d + 1) + 1 = (k + d + 1) + 1 from rfl, slices_Equal_int_int.l0]
    simp only [if_pos (show (i : Int) < (l.length : Int) by omega), if_pos (show 0 ≤ (i : Int) by omega), if_true]
    rw [wrap_in (n := (i : Int) + 1) (by omega) (by omega)]
    exact seq_loop l hl d k (i + 1) (by omega)

theorem pequal_eq (a b m : Int) (l : List Int) (hl : l.length ≤ 5000) (K : Nat) (hK : 6000 ≤ K) : plane_Equal.f K a b m l a b m l = some true := by
  obtain ⟨k, hk⟩ : ∃ k, K = k + l.length + 1 := ⟨K - l.length - 1, by omega⟩
  unfold plane_Equal.f slices_Equal_int_int.f
  rw [if_pos rfl, if_pos rfl, if_pos rfl, if_pos rfl, hk]
  have h := seq_loop l (by omega) l.length k 0 (by omega)
  rw [show ((0 : Nat) : Int) = 0 from rfl] at h
  rw [h, Option.bind_some]


theorem sane_eq : tilefarmlaw4_sane.f 60 = some true := by decide +kernel

theorem within_b (l : List Int) (s w h : Int) (hs : 0 ≤ s) (hl : l.length ≤ 4611686018427387904) (hw : 0 < w) (hw2 : w ≤ 1000000) (hh : 0 < h) (hh2 : h ≤ 1000000) :
    ∃ bt, tilefarmgen_Tape_Within.f l s w h = some bt ∧ 0 ≤ bt.2.2.2.2 ∧ IN w h bt.1 bt.2.1 bt.2.2.1 bt.2.2.2.1 := by
  obtain ⟨a, b, c, d, s', h1, h2, h3, h4, h5, h6, h7, h8⟩ := within_spec l s w h hs hl hw hw2 hh hh2
  exact ⟨_, h1, h2, h3, h4, h5, h6, h7, h8⟩

theorem rd_rng {o : List Int} {B : Int} (hB : 0 ≤ B) (ho : ∀ v ∈ o, 0 ≤ v ∧ v ≤ B) (b : Int) : 0 ≤ rd o b ∧ rd o b ≤ B := by
  simp only [rd, List.getD_eq_getElem?_getD]
  rcases h : o[b.toNat]? with _ | v
  · exact ⟨Int.le_refl _, hB⟩
  · exact ho v (List.mem_of_getElem? h)

theorem cell_of {W H : Int} {n i : Nat} (hW : 1 ≤ W) (hn : (n : Int) = W * H) (hi : i < n) : 0 ≤ (i : Int) % W ∧ (i : Int) % W < W ∧ 0 ≤ (i : Int) / W ∧ (i : Int) / W < H ∧ (i : Int) = (i : Int) / W * W + (i : Int) % W := by
  have h1 := Int.emod_nonneg (i : Int) (show W ≠ 0 by omega)
  have h2 := Int.emod_lt_of_pos (i : Int) (show 0 < W by omega)
  have h3 : 0 ≤ (i : Int) / W := Int.ediv_nonneg (Int.natCast_nonneg i) (by omega)
  have h4 : (i : Int) / W < H := by rw [Int.ediv_lt_iff_lt_mul (by omega), Int.mul_comm, ← hn]; exact Int.ofNat_lt.2 hi
  have h5 := Int.mul_ediv_add_emod (i : Int) W
  rw [Int.mul_comm] at h5
  exact ⟨h1, h2, h3, h4, h5.symm⟩

section
variable {W H m : Int} {P Q L : List Int} {x y : Int} {w d : Nat}

theorem bl_at (hr : RC W H P x y w d) (hW : 1 ≤ W) (hb : BL W H P x y w Q L d) {i : Nat} (hi : i < P.length) : rd L (i : Int) = if y ≤ (i : Int) / W ∧ (i : Int) / W < y + (d : Int) ∧ x ≤ (i : Int) % W ∧ (i : Int) % W < x + (w : Int) then rd Q (((i : Int) / W - y) * (w : Int) + ((i : Int) % W - x)) else rd P (i : Int) := by
  obtain ⟨a1, a2, a3, a4, a5⟩ := cell_of hW hr.hL hi
  have h := hb.rd _ _ a1 a2 a3 a4
  rw [← a5] at h
  exact h

theorem bl_self (hr : RC W H P x y w d) (hW : 1 ≤ W) (hb : BL W H P x y w (recl W P x w y d) L d) : L = P := by
  refine rd_ext hb.len (fun i hi => ?_)
  rw [hb.len] at hi
  obtain ⟨a1, a2, a3, a4, a5⟩ := cell_of hW hr.hL hi
  rw [bl_at hr hW hb hi]
  by_cases c : y ≤ (i : Int) / W ∧ (i : Int) / W < y + (d : Int) ∧ x ≤ (i : Int) % W ∧ (i : Int) % W < x + (w : Int)
  · rw [if_pos c]
    obtain ⟨c1, c2, c3, c4⟩ := c
    obtain ⟨j, hj⟩ : ∃ j : Nat, (j : Int) = (i : Int) / W - y := ⟨((i : Int) / W - y).toNat, Int.toNat_of_nonneg (by omega)⟩
    obtain ⟨k, hk⟩ : ∃ k : Nat, (k : Int) = (i : Int) % W - x := ⟨((i : Int) % W - x).toNat, Int.toNat_of_nonneg (by omega)⟩
    have h := recl_rd hr d (Nat.le_refl _) j k (by omega) (by omega)
    rw [← hj, ← hk, ← Int.natCast_mul, ← Int.natCast_add, h, hj, hk]
    congr 1
    rw [show y + ((i : Int) / W - y) = (i : Int) / W by omega]
    omega
  · rw [if_neg c]

theorem bl_bd (hr : RC W H P x y w d) (hW : 1 ≤ W) (hm : 0 ≤ m) (hP : ∀ v ∈ P, 0 ≤ v ∧ v ≤ m) (hQ : ∀ v ∈ Q, 0 ≤ v ∧ v ≤ m) (hb : BL W H P x y w Q L d) : ∀ v ∈ L, 0 ≤ v ∧ v ≤ m := by
  intro v hv
  obtain ⟨i, hi, e⟩ := List.mem_iff_getElem.1 hv
  have hiP : i < P.length := by rw [← hb.len]; exact hi
  have e2 : rd L (i : Int) = v := by simp [rd, hi, e]
  rw [← e2, bl_at hr hW hb hiP]
  split
  · exact rd_rng hm hQ _
  · exact rd_rng hm hP _

theorem bl_RC (hr : RC W H P x y w d) (hb : BL W H P x y w Q L d) : RC W H L x y w d :=
  ⟨hr.hx0, hr.hx1, hr.hy0, hr.hy1, hr.hW, hr.hH, hr.hWH, by rw [hb.len]; exact hr.hL, hr.hw, hr.hd, hr.hw', hr.hd'⟩

theorem bl_back (hr : RC W H P x y w d) (hQ : Q.length = d * w) (hb : BL W H P x y w Q L d) : recl W L x w y d = Q := by
  have hrL := bl_RC hr hb
  have hl := recl_len hrL d (Nat.le_refl _)
  refine rd_ext (by rw [hl, hQ]) (fun k hk => ?_)
  rw [hl] at hk
  have hw := hr.hw
  have e1 := Nat.div_add_mod k w
  have e2 := Nat.mod_lt k (show 0 < w by omega)
  have e3 : k / w < d := by rw [Nat.div_lt_iff_lt_mul (by omega)]; exact hk
  have e4 : k / w * w + k % w = k := by rw [Nat.mul_comm]; exact e1
  have h := recl_rd hrL d (Nat.le_refl _) (k / w) (k % w) e3 e2
  rw [e4] at h
  have hx0 := hr.hx0
  have hx1 := hr.hx1
  have hy0 := hr.hy0
  have hy1 := hr.hy1
  generalize k / w = j at e3 e4 h
  generalize k % w = i at e2 e4 h
  clear e1
  have hb1 := hb.rd (x + (i : Int)) (y + (j : Int)) (by omega) (by omega) (by omega) (by omega)
  rw [if_pos (show y ≤ y + (j : Int) ∧ y + (j : Int) < y + (d : Int) ∧ x ≤ x + (i : Int) ∧ x + (i : Int) < x + (w : Int) by omega)] at hb1
  rw [h, show (y + (j : Int)) * W + x + (i : Int) = (y + (j : Int)) * W + (x + (i : Int)) by omega, hb1, show y + (j : Int) - y = (j : Int) by omega, show x + (i : Int) - x = (i : Int) by omega, ← e4]
  congr 1

theorem tq {W n : Int} (hW : 1 ≤ W) (hn : 0 ≤ n) (hn' : n ≤ 5000) : Int.tmod n W = n % W ∧ wrap64 (Int.tdiv n W) = n / W := by
  have h3 : 0 ≤ n / W := Int.ediv_nonneg hn (by omega)
  have h4 : n / W ≤ n := Int.ediv_le_self _ hn
  refine ⟨Int.tmod_eq_emod_of_nonneg hn, ?_⟩
  rw [Int.tdiv_eq_ediv_of_nonneg hn, wrap_in (by omega) (by omega)]

theorem next_n {i L : Nat} (h : i < L) (hL : L ≤ 5000) : wrap64 ((i : Int) + 1) = ((i + 1 : Nat) : Int) := by
  rw [wrap_in (by omega) (by omega)]; rfl

theorem law_end (hV : PV W H m P) (hr : RC W H P x y w d) (hQ : PV (w : Int) (d : Int) m Q) (hQl : Q.length = d * w) (at_ : Int) (t : List Int) (s : Int) (K : Nat) (hK : 21000 ≤ K) (hp : 0 < P.length) :
    tilefarmlaw4_PlaneBlits.l0 (K + 1) at_ (Q.length : Int) t s W H m P x y (x + (w : Int)) (y + (d : Int)) (w : Int) (d : Int) m Q = some true := by
  obtain ⟨L, g1, hb⟩ := blit_p hV hr hQ (fun v hv => (hQ.2.2 v hv).2) K (by omega)
  have hW := hV.1.1
  have hm : 0 ≤ m := by have := hV.1.2.2.2.2.2.1; omega
  have hLV : PV W H m L := ⟨hV.1, by rw [hb.len]; exact hV.2.1, bl_bd hr hW hm hV.2.2 hQ.2.2 hb⟩
  have hrL := bl_RC hr hb
  have g2 := crop_p hLV hrL K (by omega)
  rw [bl_back hr hQl hb] at g2
  have hPl : P.length ≤ 4096 := by have := hr.hL; have := hr.hWH; omega
  have hQ5 : Q.length ≤ 5000 := by have := rc_len hr; omega
  have n0 := Int.emod_nonneg at_ (show (P.length : Int) ≠ 0 by omega)
  have n1 := Int.emod_lt_of_pos at_ (show (0 : Int) < (P.length : Int) by omega)
  have hsane : tilefarmlaw4_sane.f K = some true := at_rounds tilefarmlaw4_sane.mono (by omega) sane_eq
  have hVr : V x y (x + (w : Int)) (y + (d : Int)) := .inr (by have := hr.hx0; have := hr.hx1; have := hr.hW; have := hr.hy0; have := hr.hy1; have := hr.hH; have := hr.hw; have := hr.hd; omega)
  obtain ⟨n, hn⟩ : ∃ n : Nat, (n : Int) = at_ % (P.length : Int) := ⟨(at_ % (P.length : Int)).toNat, Int.toNat_of_nonneg n0⟩
  have hnP : n < P.length := by rw [← hn] at n1; exact Int.ofNat_lt.1 n1
  obtain ⟨t1, t2⟩ := tq (W := W) (n := (n : Int)) hW (Int.natCast_nonneg n) (by omega)
  have hat := bl_at hr hW hb hnP
  rw [tilefarmlaw4_PlaneBlits.l0, if_neg (Int.lt_irrefl _), g1, Option.bind_some, g2, Option.bind_some, mod_eq at_ (P.length : Int) (by omega) (by omega), Option.bind_some, if_neg (show ¬ W = 0 by omega), ← hn, t1, t2, rcontains_eq hVr, Option.bind_some, if_pos rfl, if_pos rfl, pequal_eq _ _ _ Q hQ5 K (by omega), Option.bind_some, if_pos rfl, if_pos (show (L.length : Int) = (P.length : Int) by rw [hb.len])]
  by_cases c : x ≤ (n : Int) % W ∧ (n : Int) % W < x + (w : Int) ∧ y ≤ (n : Int) / W ∧ (n : Int) / W < y + (d : Int)
  · rw [decide_eq_true c, if_pos rfl, hsane, Option.bind_some]
  · rw [if_neg (fun q => c ⟨q.2.2.1, q.2.2.2, q.1, q.2.1⟩)] at hat
    have hnL : (n : Int) < (L.length : Int) := by rw [hb.len]; exact Int.ofNat_lt.2 hnP
    rw [decide_eq_false c, if_neg Bool.false_ne_true, if_pos (Int.natCast_nonneg n)]
    show (if (n : Int) < (L.length : Int) then (if (n : Int) < (P.length : Int) then (if rd L (n : Int) = rd P (n : Int) then (tilefarmlaw4_sane.f K).bind fun t361 => some t361 else some false) else none) else none) = some true
    rw [if_pos hnL, if_pos (Int.ofNat_lt.2 hnP), if_pos hat, hsane, Option.bind_some]

theorem law_l0 (hV : PV W H m P) (hr : RC W H P x y w d) (hm : m ≤ 65535) (at_ : Int) (t : List Int) (ht : t.length ≤ 4611686018427387904) (K : Nat) (hK : 21000 ≤ K) (hp : 0 < P.length) : ∀ (e i : Nat) (s : Int) (Q : List Int), i + e = Q.length → 0 ≤ s → PV (w : Int) (d : Int) m Q → Q.length = d * w →
    tilefarmlaw4_PlaneBlits.l0 (K + e + 1) at_ (i : Int) t s W H m P x y (x + (w : Int)) (y + (d : Int)) (w : Int) (d : Int) m Q = some true
  | 0, i, s, Q, hi, hs, hQ, hQl => by
    have hiQ : i = Q.length := hi
    rw [hiQ]
    exact law_end hV hr hQ hQl at_ t s K hK hp
  | e + 1, i, s, Q, hi, hs, hQ, hQl => by
    have h1 : i + 1 + e = Q.length := (Nat.succ_add_eq_add_succ i e).trans hi
    have h2 : i < Q.length := Nat.lt_of_lt_of_le (Nat.lt_succ_self i) (Nat.le.intro h1)
    have hQ5 : Q.length ≤ 5000 := by have := rc_len hr; have := hr.hL; have := hr.hWH; omega
    have hm1 := hV.1.2.2.2.2.2.1
    obtain ⟨r, n1, n2, n3, n4⟩ := next_o t s (m + 1) hs ht (by omega) (by omega)
    have em : wrap64 (m + 1) = m + 1 := wrap_in (by omega) (by omega)
    have hQ' : PV (w : Int) (d : Int) m (Q.set ((i : Nat) : Int).toNat r.1) := ⟨hQ.1, by rw [List.length_set]; exact hQ.2.1, set_all _ Q _ _ hQ.2.2 ⟨n2, by omega⟩⟩
    rw [show K + (e + 1) + 1 = (K + e + 1) + 1 from rfl, tilefarmlaw4_PlaneBlits.l0, if_pos (Int.ofNat_lt.2 h2), em, n1, Option.bind_some, if_pos (Int.natCast_nonneg i), next_n h2 hQ5]
    exact law_l0 hV hr hm at_ t ht K hK hp e (i + 1) r.2 _ (by rw [List.length_set]; exact h1) n4 hQ' (by rw [List.length_set]; exact hQl)
end

theorem PlaneBlits : tilefarmlaw4_PlaneBlits.Pure := by
  intro t at_ hl hl8 _ _
  have ht : t.length ≤ 4611686018427387904 := by omega
  obtain ⟨K, hK⟩ : ∃ K : Nat, 40000 ≤ K := ⟨40000, Nat.le_refl _⟩
  refine ⟨K, ?_⟩
  obtain ⟨r1, n1, n1a, n1b, n1c⟩ := next_o t 0 5 (Int.le_refl _) ht (by omega) (by omega)
  obtain ⟨r2, n2, n2a, n2b, n2c⟩ := next_o t r1.2 4 n1c ht (by omega) (by omega)
  obtain ⟨p, p1, p2, p3, p4, p5, p6, p7, p8⟩ := sized_spec K (by omega) t ht r2.2 (2 + r1.1) (2 + r2.1) n2c (by omega) (by omega) (by omega) (by omega)
  obtain ⟨hV, hPl⟩ := sized_PV p2 p3 p4 p5 p6 p7 (by omega) (by omega) (by omega) (by omega)
  obtain ⟨r, f1, f2, f3⟩ := within_b t p.2.2.2.2 p.1 p.2.1 p8 ht (by omega) (by omega) (by omega) (by omega)
  obtain ⟨w, d, e1, e2, hr⟩ := rc_of hV f3
  have hA := crop_PV hV hr
  have hAl := recl_len hr d (Nat.le_refl _)
  have g1 := crop_p hV hr K (by omega)
  obtain ⟨B, g2, g3⟩ := blit_p hV hr hA (fun v hv => (hA.2.2 v hv).2) K (by omega)
  have hB : B = p.2.2.2.1 := bl_self hr hV.1.1 g3
  have hp0 : 0 < p.2.2.2.1.length := by
    have h1 := rc_len hr
    have h2 : 1 * 1 ≤ d * w := Nat.mul_le_mul hr.hd hr.hw
    omega
  obtain ⟨k, hk, hk2⟩ : ∃ k, K = (k + (recl p.1 p.2.2.2.1 r.1 w r.2.1 d).length + 1) + 1 ∧ 21000 ≤ k := by
    have := rc_len hr
    exact ⟨K - (recl p.1 p.2.2.2.1 r.1 w r.2.1 d).length - 2, by omega, by omega⟩
  unfold tilefarmlaw4_PlaneBlits.f tilefarmgen_New.f
  rw [Option.bind_some, n1, Option.bind_some, n2, Option.bind_some, wrap_in (n := 2 + r1.1) (by omega) (by omega), wrap_in (n := 2 + r2.1) (by omega) (by omega), p1, Option.bind_some, f1, Option.bind_some, e1, e2, g1, Option.bind_some, g2, Option.bind_some, if_pos rfl, if_pos rfl, hB, pequal_eq p.1 p.2.1 p.2.2.1 p.2.2.2.1 (by omega) K (by omega), Option.bind_some, hk, tilefarmlaw4_PlaneBlits.j0, if_neg (show ¬ (!true) = true by decide)]
  exact law_l0 hV hr p5 at_ t ht k hk2 hp0 _ 0 r.2.2.2.2 _ (Nat.zero_add _) f2 hA hAl


end Go.Proofs.Ytgkccacenlcebaa.Pure
namespace Go.Proofs.Ytgkccacenlcebaa
open Go.ChangeShapes Go.WideShapes
/-- The print's own word, under the name that the printed row uses. -/
theorem PrintWords.sized_ints {H : Type} {enc : TypeId × Value → H} {P : Program} {W : World} {base : Nat} {spare : Nat → Bool} {held : Bool} {t e : TypeId} {k : IntKind} {a : Option Addr} {len cap : Nat} {d : DataW H} {ps : List MemPlace} {ts : List TypeId} {ds : List (DataW H)} {j : Nat}
    (hsz : (DataW.weightsEach P ts ds).all (· ≤ reachBytes) = true) (ht : ts[j]? = some t) (hd : ds[j]? = some d) (hu : P.underlying t = some (.slice e)) (he : P.underlying e = some (.int k)) (hc : P.cellsOf e = 1) {B : Nat} (hB : P.bytesOf e = B)
    (h : DataW.Trod enc P W base spare held t (.slice a len cap) d ps) : len * B ≤ 140737488351232 :=
  Go.Proofs.YtgkccacenlcebaaW.PrintWords.sized_ints hsz ht hd hu he hc hB h
end Go.Proofs.Ytgkccacenlcebaa

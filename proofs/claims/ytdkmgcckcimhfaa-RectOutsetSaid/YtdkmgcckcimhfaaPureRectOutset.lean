/- An outset rectangle contains the rectangle, has the expected size, and outsetting twice is outsetting by the sums: for every tape. -/
import Derived.Test.YtdkmgcckcimhfaaPRectOutsetx6
import Derived.Test.YtdkmgcckcimhfaaWSized
namespace Go.Proofs.Ytdkmgcckcimhfaa.Pure
open Go.RowKit Go.Proofs.Ytdkmgcckcimhfaa.PRectOutset Go.Proofs.YtdkmgcckcimhfaaW.PrintWords Go.Proofs.YtdkmgcckcimhfaaW.PrintLast Go.Proofs.YtdkmgcckcimhfaaW.PrintMore
set_option linter.unusedVariables false
set_option linter.unusedSimpArgs false

theorem wrap_in {n : Int} (h : -9223372036854775808 ≤ n) (h' : n ≤ 9223372036854775807) : wrap64 n = n := by unfold wrap64; omega

theorem tmod_emod (a n : Int) (h : 0 < n) : (0 ≤ Int.tmod a n ∧ Int.tmod a n = a % n) ∨ (Int.tmod a n < 0 ∧ Int.tmod a n + n = a % n) := by
  have h1 := Int.tmod_eq_emod (a := a) (b := n)
  have h2 := Int.emod_nonneg a (by omega : n ≠ 0)
  have h3 := Int.emod_lt_of_pos a h
  split at h1 <;> omega

theorem mod_eq (a n : Int) (h : 0 < n) (hn : n ≤ 4611686018427387904) : tilefarmgen_Mod.f a n = some (a % n) := by
  have h2 := Int.emod_nonneg a (by omega : n ≠ 0)
  have h3 := Int.emod_lt_of_pos a h
  unfold tilefarmgen_Mod.f
  rw [if_neg (by omega)]
  rcases tmod_emod a n h with ⟨h4, h5⟩ | ⟨h4, h5⟩
  · rw [if_neg (by omega), h5]
  · rw [if_pos h4, wrap_in (by omega) (by omega), h5]

theorem sd_true {p : Prop} [Decidable p] (h : p) : some true = some (decide p) := by rw [decide_eq_true h]
theorem sd_false {p : Prop} [Decidable p] (h : ¬ p) : some false = some (decide p) := by rw [decide_eq_false h]
theorem sd_iff {p q : Prop} [Decidable p] [Decidable q] (h : q ↔ p) : some (decide q) = some (decide p) := by rw [decide_eq_decide.2 h]

theorem mx_max (a b : Int) : mx a b = max a b := by unfold mx; omega
theorem mn_min (a b : Int) : mn a b = min a b := by unfold mn; omega

theorem mul_bd {x y B C : Int} (hx : 0 ≤ x) (hy : 0 ≤ y) (hxB : x ≤ B) (hyB : y ≤ C) : 0 ≤ x * y ∧ x * y ≤ B * C :=
  ⟨Int.mul_nonneg hx hy, Int.mul_le_mul hxB hyB hy (by omega)⟩

theorem dec_iff {p q : Prop} [Decidable p] [Decidable q] (h : p ↔ q) : decide p = decide q := decide_eq_decide.2 h
theorem and_not_dec (p q : Prop) [Decidable p] [Decidable q] : (decide p && !decide q) = decide (p ∧ ¬ q) := by
  by_cases hp : p <;> by_cases hq : q <;> simp [hp, hq]

theorem wrap64_range (n : Int) : -9223372036854775808 ≤ wrap64 n ∧ wrap64 n ≤ 9223372036854775807 := by unfold wrap64; omega

theorem wf_range {n : Int} (h : (Lit.int .i64 n).wf = true) : -9223372036854775808 ≤ n ∧ n ≤ 9223372036854775807 := by
  simp only [Lit.wf, IntKind.min, IntKind.max, IntKind.signed, IntKind.bits, Bool.and_eq_true, decide_eq_true_eq, if_true] at h
  omega


theorem next_spec (l : List Int) (s n : Int) (hs : 0 ≤ s) (hl : l.length ≤ 4611686018427387904) (h : 0 < n) (hn : n ≤ 4611686018427387904) :
    ∃ r s', tilefarmgen_Tape_Next.f l s n = some (r, s') ∧ 0 ≤ r ∧ r < n ∧ 0 ≤ s' := by
  unfold tilefarmgen_Tape_Next.f
  rw [if_neg (by omega)]
  by_cases h1 : s ≥ (l.length : Int)
  · rw [if_pos h1]; exact ⟨_, _, rfl, by omega, by omega, hs⟩
  · have e1 : wrap64 (s + 1) = s + 1 := wrap_in (by omega) (by omega)
    have e2 : wrap64 (s + 1 - 1) = s := by rw [wrap_in (by omega) (by omega)]; omega
    rw [if_neg h1]
    simp only [e1, e2]
    rw [if_pos hs, if_pos (by omega), mod_eq _ _ h hn]
    exact ⟨_, _, rfl, Int.emod_nonneg _ (by omega), Int.emod_lt_of_pos _ h, by omega⟩


abbrev V (a b c d : Int) : Prop := (a = 0 ∧ b = 0 ∧ c = 0 ∧ d = 0) ∨ (-1048576 ≤ a ∧ a ≤ 1048576 ∧ -1048576 ≤ b ∧ b ≤ 1048576 ∧ -1048576 ≤ c ∧ c ≤ 1048576 ∧ -1048576 ≤ d ∧ d ≤ 1048576 ∧ a < c ∧ b < d)

theorem empty_eq (a b c d : Int) : rect_Empty.f a b c d = some (decide (a = 0 ∧ b = 0 ∧ c = 0 ∧ d = 0)) := by
  unfold rect_Empty.f
  congr 1
  rw [Bool.eq_iff_iff]
  simp

theorem coord_eq (a : Int) : rect_coord.f a = some (decide (-1048576 ≤ a ∧ a ≤ 1048576)) := by
  unfold rect_coord.f
  split <;> congr 1 <;> rw [Bool.eq_iff_iff] <;> simp <;> omega

theorem valid_eq (a b c d : Int) : rect_Valid.f a b c d = some (decide (V a b c d)) := by
  unfold rect_Valid.f
  simp only [empty_eq, coord_eq, Option.bind_some, decide_eq_true_eq]
  repeat' split
  all_goals first | (refine sd_iff ?_; omega) | (refine sd_true ?_; omega) | (refine sd_false ?_; omega)

def ix (a0 a1 a2 a3 b0 b1 b2 b3 : Int) : Int × Int × Int × Int :=
  if V a0 a1 a2 a3 ∧ V b0 b1 b2 b3 ∧ mx a0 b0 < mn a2 b2 ∧ mx a1 b1 < mn a3 b3 then (mx a0 b0, mx a1 b1, mn a2 b2, mn a3 b3) else (0, 0, 0, 0)

theorem intersect_eq (k : Nat) (a0 a1 a2 a3 b0 b1 b2 b3 : Int) : rect_Intersect.f (k + 1) a0 a1 a2 a3 b0 b1 b2 b3 = some (ix a0 a1 a2 a3 b0 b1 b2 b3) := by
  unfold rect_Intersect.f ix
  simp only [valid_eq, Option.bind_some, rect_Intersect.j0, decide_eq_true_eq, Bool.not_eq_true', decide_eq_false_iff_not, if_true]
  by_cases h1 : V a0 a1 a2 a3
  · by_cases h2 : V b0 b1 b2 b3
    · rw [if_pos h1, if_neg (fun h => h h2)]
      by_cases h3 : mx a0 b0 < mn a2 b2
      · by_cases h4 : mx a1 b1 < mn a3 b3
        · rw [if_neg (by omega), if_neg (by omega), if_pos ⟨h1, h2, h3, h4⟩]
        · rw [if_neg (by omega), if_pos (by omega), if_neg (fun h => h4 h.2.2.2)]
      · rw [if_pos (by omega), if_neg (fun h => h3 h.2.2.1)]
    · rw [if_pos h1, if_pos h2, if_neg (fun h => h2 h.2.1)]
  · rw [if_neg h1, if_neg (fun h => h1 h.1)]

theorem ix_spec {a0 a1 a2 a3 b0 b1 b2 b3 c0 c1 c2 c3 : Int} (hc : ix a0 a1 a2 a3 b0 b1 b2 b3 = (c0, c1, c2, c3)) (ha : V a0 a1 a2 a3) (hb : V b0 b1 b2 b3) :
    (c0 = 0 ∧ c1 = 0 ∧ c2 = 0 ∧ c3 = 0 ∧ (min a2 b2 ≤ max a0 b0 ∨ min a3 b3 ≤ max a1 b1)) ∨ (c0 = max a0 b0 ∧ c1 = max a1 b1 ∧ c2 = min a2 b2 ∧ c3 = min a3 b3 ∧ c0 < c2 ∧ c1 < c3) := by
  simp only [ix, mx_max, mn_min] at hc
  split at hc
  · next h =>
    simp only [Prod.mk.injEq] at hc
    exact .inr (by omega)
  · next h =>
    simp only [Prod.mk.injEq] at hc
    refine .inl ?_
    have : ¬ (max a0 b0 < min a2 b2 ∧ max a1 b1 < min a3 b3) := fun h' => h ⟨ha, hb, h'⟩
    omega

theorem ix_inside {a0 a1 a2 a3 b0 b1 b2 b3 c0 c1 c2 c3 : Int} (h : (c0 = 0 ∧ c1 = 0 ∧ c2 = 0 ∧ c3 = 0 ∧ (min a2 b2 ≤ max a0 b0 ∨ min a3 b3 ≤ max a1 b1)) ∨ (c0 = max a0 b0 ∧ c1 = max a1 b1 ∧ c2 = min a2 b2 ∧ c3 = min a3 b3 ∧ c0 < c2 ∧ c1 < c3))
    (hy : ¬ (c0 = 0 ∧ c1 = 0 ∧ c2 = 0 ∧ c3 = 0)) : a0 ≤ c0 ∧ c0 < c2 ∧ c2 ≤ a2 ∧ a1 ≤ c1 ∧ c1 < c3 ∧ c3 ≤ a3 := by
  rcases h with h | h
  · exact absurd ⟨h.1, h.2.1, h.2.2.1, h.2.2.2.1⟩ hy
  · omega

theorem V_range {a b c d : Int} (h : V a b c d) : -1048576 ≤ a ∧ c ≤ 1048576 ∧ -1048576 ≤ b ∧ d ≤ 1048576 := by omega
theorem V_mono {a b c d : Int} (h : V a b c d) : a ≤ c ∧ b ≤ d := by omega


theorem w1 : wrap64 (0 + 1) = 1 := wrap_in (by omega) (by omega)
theorem w2 : wrap64 (1 + 1) = 2 := wrap_in (by omega) (by omega)
theorem w3 : wrap64 (2 + 1) = 3 := wrap_in (by omega) (by omega)
theorem w4 : wrap64 (3 + 1) = 4 := wrap_in (by omega) (by omega)

abbrev Sides (l t r d : Int) : Prop := (0 ≤ l ∧ l ≤ 1048576) ∧ (0 ≤ t ∧ t ≤ 1048576) ∧ (0 ≤ r ∧ r ≤ 1048576) ∧ (0 ≤ d ∧ d ≤ 1048576)

/-- The outset rectangle. -/
def os (a b c d l t r m : Int) : Int × Int × Int × Int :=
  if ¬ (a = 0 ∧ b = 0 ∧ c = 0 ∧ d = 0) ∧ V a b c d ∧ Sides l t r m ∧ V (a - l) (b - t) (c + r) (d + m) then (a - l, b - t, c + r, d + m) else (0, 0, 0, 0)

theorem outset_l0 (k : Nat) (a b c d l t r m : Int) (hV : V a b c d) :
    rect_Outset.l0 (k + 5) l t r m [l, t, r, m] 4 0 a b c d = some (if Sides l t r m ∧ V (a - l) (b - t) (c + r) (d + m) then (a - l, b - t, c + r, d + m) else (0, 0, 0, 0)) := by
  have r0 : rd [l, t, r, m] 0 = l := rfl
  have r1 : rd [l, t, r, m] 1 = t := rfl
  have r2 : rd [l, t, r, m] 2 = r := rfl
  have r3 : rd [l, t, r, m] 3 = m := rfl
  simp only [rect_Outset.l0, r0, r1, r2, r3, w1, w2, w3, w4, List.length_cons, List.length_nil, Nat.zero_add, Nat.reduceAdd, Int.cast_ofNat_Int, valid_eq, Option.bind_some, decide_eq_true_eq]
  rw [if_pos (by omega), if_pos (by omega), if_pos (by omega)]
  have hr : -1048576 ≤ a ∧ a ≤ 1048576 ∧ -1048576 ≤ b ∧ b ≤ 1048576 ∧ -1048576 ≤ c ∧ c ≤ 1048576 ∧ -1048576 ≤ d ∧ d ≤ 1048576 := by clear r0 r1 r2 r3; omega
  clear hV
  by_cases h0 : 0 ≤ l ∧ l ≤ 1048576
  · rw [if_neg (by omega), if_neg (by omega), if_pos (by omega), if_pos (by omega), if_pos (by omega)]
    by_cases h1 : 0 ≤ t ∧ t ≤ 1048576
    · rw [if_neg (by omega), if_neg (by omega), if_pos (by omega), if_pos (by omega), if_pos (by omega)]
      by_cases h2 : 0 ≤ r ∧ r ≤ 1048576
      · rw [if_neg (by omega), if_neg (by omega), if_pos (by omega), if_pos (by omega), if_pos (by omega)]
        by_cases h3 : 0 ≤ m ∧ m ≤ 1048576
        · rw [if_neg (by omega), if_neg (by omega), if_neg (by omega), wrap_in (n := a - l) (by omega) (by omega), wrap_in (n := b - t) (by omega) (by omega), wrap_in (n := c + r) (by omega) (by omega), wrap_in (n := d + m) (by omega) (by omega)]
          by_cases hv : V (a - l) (b - t) (c + r) (d + m)
          · rw [if_pos hv, if_pos ⟨⟨h0, h1, h2, h3⟩, hv⟩]
          · rw [if_neg hv, if_neg (fun h => hv h.2)]
        · by_cases q : m < 0
          · rw [if_pos q, if_neg (fun h => h3 h.1.2.2.2)]
          · rw [if_neg q, if_pos (by omega), if_neg (fun h => h3 h.1.2.2.2)]
      · by_cases q : r < 0
        · rw [if_pos q, if_neg (fun h => h2 h.1.2.2.1)]
        · rw [if_neg q, if_pos (by omega), if_neg (fun h => h2 h.1.2.2.1)]
    · by_cases q : t < 0
      · rw [if_pos q, if_neg (fun h => h1 h.1.2.1)]
      · rw [if_neg q, if_pos (by omega), if_neg (fun h => h1 h.1.2.1)]
  · by_cases q : l < 0
    · rw [if_pos q, if_neg (fun h => h0 h.1.1)]
    · rw [if_neg q, if_pos (by omega), if_neg (fun h => h0 h.1.1)]

theorem outset_eq (k : Nat) (a b c d l t r m : Int) : rect_Outset.f (k + 6) a b c d l t r m = some (os a b c d l t r m) := by
  unfold rect_Outset.f os
  simp only [empty_eq, valid_eq, Option.bind_some, decide_eq_true_eq]
  by_cases h0 : a = 0 ∧ b = 0 ∧ c = 0 ∧ d = 0
  · rw [if_pos h0, if_neg (fun h => h.1 h0)]
    simp only [rect_Outset.j0, if_true]
  · rw [if_neg h0]
    by_cases hV : V a b c d
    · rw [decide_eq_true hV, Bool.not_true, rect_Outset.j0, if_neg Bool.false_ne_true]
      simp only [Option.bind_some]
      have := outset_l0 k a b c d l t r m hV
      simp only [List.length_cons, List.length_nil, Nat.zero_add, Nat.reduceAdd, Int.cast_ofNat_Int]
      rw [this]
      by_cases q : Sides l t r m ∧ V (a - l) (b - t) (c + r) (d + m)
      · rw [if_pos q, if_pos ⟨h0, hV, q⟩]
      · rw [if_neg q, if_neg (fun h => q h.2.2)]
    · rw [decide_eq_false hV, Bool.not_false, rect_Outset.j0, if_pos rfl, if_neg (fun h => hV h.2.1)]


theorem within_spec (l : List Int) (s w h : Int) (hs : 0 ≤ s) (hl : l.length ≤ 4611686018427387904) (hw : 0 < w) (hw2 : w ≤ 1000000) (hh : 0 < h) (hh2 : h ≤ 1000000) :
    ∃ a b c d s', tilefarmgen_Tape_Within.f l s w h = some (a, b, c, d, s') ∧ 0 ≤ s' ∧ 0 ≤ a ∧ a < c ∧ c ≤ w ∧ 0 ≤ b ∧ b < d ∧ d ≤ h := by
  obtain ⟨r1, s1, h1, h1a, h1b, h1c⟩ := next_spec l s w hs hl (by omega) (by omega)
  obtain ⟨r2, s2, h2, h2a, h2b, h2c⟩ := next_spec l s1 h h1c hl (by omega) (by omega)
  obtain ⟨r3, s3, h3, h3a, h3b, h3c⟩ := next_spec l s2 (w - r1) h2c hl (by omega) (by omega)
  obtain ⟨r4, s4, h4, h4a, h4b, h4c⟩ := next_spec l s3 (h - r2) h3c hl (by omega) (by omega)
  refine ⟨r1, r2, r1 + 1 + r3, r2 + 1 + r4, s4, ?_, h4c, h1a, by omega, by omega, h2a, by omega, by omega⟩
  unfold tilefarmgen_Tape_Within.f
  simp only [h1, h2, Option.bind_some]
  rw [wrap_in (n := w - r1) (by omega) (by omega), h3]
  simp only [Option.bind_some]
  rw [wrap_in (n := h - r2) (by omega) (by omega), h4]
  simp only [Option.bind_some]
  rw [wrap_in (n := r1 + 1) (by omega) (by omega), wrap_in (n := r1 + 1 + r3) (by omega) (by omega), wrap_in (n := r2 + 1) (by omega) (by omega), wrap_in (n := r2 + 1 + r4) (by omega) (by omega)]


theorem sane_eq : tilefarmlaw2_sane.f 10 = some true := by decide +kernel

theorem os_in {a b c d l t r m : Int} (h0 : 0 < c) (ha : -1000 ≤ a ∧ a < c ∧ c ≤ 1000) (hb : -1000 ≤ b ∧ b < d ∧ d ≤ 1000) (hl : 0 ≤ l ∧ l ≤ 1000) (ht : 0 ≤ t ∧ t ≤ 1000) (hr : 0 ≤ r ∧ r ≤ 1000) (hm : 0 ≤ m ∧ m ≤ 1000) :
    os a b c d l t r m = (a - l, b - t, c + r, d + m) := by
  unfold os
  rw [if_pos]
  refine ⟨by omega, .inr (by omega), ⟨by omega, by omega, by omega, by omega⟩, .inr (by omega)⟩

theorem RectOutset : tilefarmlaw2_RectOutset.Pure := by
  intro l hl hl8 _
  have hl' : l.length ≤ 4611686018427387904 := by omega
  obtain ⟨K, hK⟩ : ∃ K : Nat, 10 < K := ⟨11, by omega⟩
  obtain ⟨a, b, c, d, s1, hA, hs1, ha, hac, hc, hb, hbd, hd⟩ := within_spec l 0 20 20 (by omega) hl' (by omega) (by omega) (by omega) (by omega)
  obtain ⟨r1, s2, h1, h1a, h1b, h1c⟩ := next_spec l s1 50 hs1 hl' (by omega) (by omega)
  obtain ⟨r2, s3, h2, h2a, h2b, h2c⟩ := next_spec l s2 50 h1c hl' (by omega) (by omega)
  obtain ⟨r3, s4, h3, h3a, h3b, h3c⟩ := next_spec l s3 50 h2c hl' (by omega) (by omega)
  obtain ⟨r4, s5, h4, h4a, h4b, h4c⟩ := next_spec l s4 50 h3c hl' (by omega) (by omega)
  refine ⟨K + 6, ?_⟩
  have hs : tilefarmlaw2_sane.f (K + 6) = some true := at_rounds tilefarmlaw2_sane.mono (by omega) sane_eq
  unfold tilefarmlaw2_RectOutset.f tilefarmgen_New.f
  simp only [Option.bind_some, hA, h1, h2, h3, h4, outset_eq, hs]
  clear hA h1 h2 h3 h4
  have e1 := os_in (a := a) (b := b) (c := c) (d := d) (l := r1) (t := r2) (r := r3) (m := r4) (by omega) (by omega) (by omega) (by omega) (by omega) (by omega) (by omega)
  have e2 := os_in (a := a - r1) (b := b - r2) (c := c + r3) (d := d + r4) (l := r2) (t := r1) (r := r4) (m := r3) (by omega) (by omega) (by omega) (by omega) (by omega) (by omega) (by omega)
  have e3 := os_in (a := a) (b := b) (c := c) (d := d) (l := r1 + r2) (t := r1 + r2) (r := r3 + r4) (m := r3 + r4) (by omega) (by omega) (by omega) (by omega) (by omega) (by omega) (by omega)
  have e4 := os_in (a := a) (b := b) (c := c) (d := d) (l := 0) (t := 0) (r := 0) (m := 0) (by omega) (by omega) (by omega) (by omega) (by omega) (by omega) (by omega)
  have v1 : V a b c d := .inr (by omega)
  have v2 : V (a - r1) (b - r2) (c + r3) (d + r4) := .inr (by omega)
  have hi : rect_Inside.f (K + 6) a b c d (a - r1) (b - r2) (c + r3) (d + r4) = some true := by
    unfold rect_Inside.f
    simp only [valid_eq, Option.bind_some, decide_eq_true_eq]
    rw [if_pos v1, if_pos v2, intersect_eq]
    unfold ix
    rw [if_pos ⟨v1, v2, by rw [mx_max, mn_min]; omega, by rw [mx_max, mn_min]; omega⟩]
    simp only [Option.bind_some, mx_max, mn_min]
    rw [Int.max_eq_left (by omega), Int.max_eq_left (by omega), Int.min_eq_left (by omega), Int.min_eq_left (by omega)]
    simp
  have hp : rect_Area.f (a - r1) (b - r2) (c + r3) (d + r4) = some (wrap64 (wrap64 (wrap64 (wrap64 (c - a) + r1) + r3) * wrap64 (wrap64 (wrap64 (d - b) + r2) + r4))) := by
    unfold rect_Area.f
    simp only [valid_eq, Option.bind_some, decide_eq_true_eq]
    rw [if_pos v2, wrap_in (n := c - a) (by omega) (by omega), wrap_in (n := d - b) (by omega) (by omega), wrap_in (n := c - a + r1) (by omega) (by omega), wrap_in (n := c - a + r1 + r3) (by omega) (by omega),
      wrap_in (n := d - b + r2) (by omega) (by omega), wrap_in (n := d - b + r2 + r4) (by omega) (by omega), wrap_in (n := c + r3 - (a - r1)) (by omega) (by omega), wrap_in (n := d + r4 - (b - r2)) (by omega) (by omega)]
    rw [show c + r3 - (a - r1) = c - a + r1 + r3 by omega, show d + r4 - (b - r2) = d - b + r2 + r4 by omega]
  rw [wrap_in (n := r1 + r2) (by omega) (by omega), wrap_in (n := r3 + r4) (by omega) (by omega)]
  simp only [e1, e2, e3, e4, hi, hp, Option.bind_some, if_true]
  have g1 : a - r1 - r2 = a - (r1 + r2) := by omega
  have g2 : b - r2 - r1 = b - (r1 + r2) := by omega
  have g3 : c + r3 + r4 = c + (r3 + r4) := by omega
  have g4 : d + r4 + r3 = d + (r3 + r4) := by omega
  rw [g1, g2, g3, g4]
  simp


end Go.Proofs.Ytdkmgcckcimhfaa.Pure
namespace Go.Proofs.Ytdkmgcckcimhfaa
open Go.ChangeShapes Go.WideShapes
/-- The print's own word, under the name that the printed row uses. -/
theorem PrintWords.sized_ints {H : Type} {enc : TypeId × Value → H} {P : Program} {W : World} {base : Nat} {spare : Nat → Bool} {held : Bool} {t e : TypeId} {k : IntKind} {a : Option Addr} {len cap : Nat} {d : DataW H} {ps : List MemPlace} {ts : List TypeId} {ds : List (DataW H)} {j : Nat}
    (hsz : (DataW.weightsEach P ts ds).all (· ≤ reachBytes) = true) (ht : ts[j]? = some t) (hd : ds[j]? = some d) (hu : P.underlying t = some (.slice e)) (he : P.underlying e = some (.int k)) (hc : P.cellsOf e = 1) {B : Nat} (hB : P.bytesOf e = B)
    (h : DataW.Trod enc P W base spare held t (.slice a len cap) d ps) : len * B ≤ 140737488351232 :=
  Go.Proofs.YtdkmgcckcimhfaaW.PrintWords.sized_ints hsz ht hd hu he hc hB h
end Go.Proofs.Ytdkmgcckcimhfaa

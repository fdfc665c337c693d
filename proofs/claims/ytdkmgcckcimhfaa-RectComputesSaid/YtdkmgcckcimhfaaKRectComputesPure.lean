/- All functions of rectangles answer as the reference, for every tape and for arbitrary rectangles and numbers. -/
import Derived.Test.YtdkmgcckcimhfaaKRectComputesx11
import Derived.Test.YtdkmgcckcimhfaaKRectComputesa
namespace Go.Proofs.Ytdkmgcckcimhfaa.Pure
open Go.RowKit Go.Proofs.Ytdkmgcckcimhfaa.PRectComputes Go.Proofs.YtdkmgcckcimhfaaW.PrintWords Go.Proofs.YtdkmgcckcimhfaaW.PrintLast Go.Proofs.YtdkmgcckcimhfaaW.PrintMore
set_option linter.unusedVariables false
set_option linter.unusedSimpArgs false

theorem wrap_in {n : Int} (h : -9223372036854775808 ≤ n) (h' : n ≤ 9223372036854775807) : wrap64 n = n := by unfold wrap64; omega

theorem tmod_emod (a n : Int) (h : 0 < n) : (0 ≤ Int.tmod a n ∧ Int.tmod a n = a % n) ∨ (Int.tmod a n < 0 ∧ Int.tmod a n + n = a % n) := by
  have h1 := Int.tmod_eq_emod (a := a) (b := n)
  have h2 := Int.emod_nonneg a (by omega : n ≠ 0)
  have h3 := Int.emod_lt_of_pos a h
  split at h1 <;> omega

theorem mod_eq (a n : Int) (h : 0 < n) (hn : n ≤ 4611686018427387904) : tilefarmgen_Mod.f a n = some (a % n) := by
  have h2 := Int.emod_nonneg a (by omega : n ≠ 0)
  have h3 := Int.emod_lt_of_pos a h
  unfold tilefarmgen_Mod.f
  rw [if_neg (by omega)]
  rcases tmod_emod a n h with ⟨h4, h5⟩ | ⟨h4, h5⟩
  · rw [if_neg (by omega), h5]
  · rw [if_pos h4, wrap_in (by omega) (by omega), h5]

theorem sd_true {p : Prop} [Decidable p] (h : p) : some true = some (decide p) := by rw [decide_eq_true h]
theorem sd_false {p : Prop} [Decidable p] (h : ¬ p) : some false = some (decide p) := by rw [decide_eq_false h]
theorem sd_iff {p q : Prop} [Decidable p] [Decidable q] (h : q ↔ p) : some (decide q) = some (decide p) := by rw [decide_eq_decide.2 h]

theorem mx_max (a b : Int) : mx a b = max a b := by unfold mx; omega
theorem mn_min (a b : Int) : mn a b = min a b := by unfold mn; omega

theorem mul_bd {x y B C : Int} (hx : 0 ≤ x) (hy : 0 ≤ y) (hxB : x ≤ B) (hyB : y ≤ C) : 0 ≤ x * y ∧ x * y ≤ B * C :=
  ⟨Int.mul_nonneg hx hy, Int.mul_le_mul hxB hyB hy (by omega)⟩

theorem dec_iff {p q : Prop} [Decidable p] [Decidable q] (h : p ↔ q) : decide p = decide q := decide_eq_decide.2 h
theorem and_not_dec (p q : Prop) [Decidable p] [Decidable q] : (decide p && !decide q) = decide (p ∧ ¬ q) := by
  by_cases hp : p <;> by_cases hq : q <;> simp [hp, hq]

theorem wrap64_range (n : Int) : -9223372036854775808 ≤ wrap64 n ∧ wrap64 n ≤ 9223372036854775807 := by unfold wrap64; omega

theorem wf_range {n : Int} (h : (Lit.int .i64 n).wf = true) : -9223372036854775808 ≤ n ∧ n ≤ 9223372036854775807 := by
  simp only [Lit.wf, IntKind.min, IntKind.max, IntKind.signed, IntKind.bits, Bool.and_eq_true, decide_eq_true_eq, if_true] at h
  omega


theorem next_spec (l : List Int) (s n : Int) (hs : 0 ≤ s) (hl : l.length ≤ 4611686018427387904) (h : 0 < n) (hn : n ≤ 4611686018427387904) :
    ∃ r s', tilefarmgen_Tape_Next.f l s n = some (r, s') ∧ 0 ≤ r ∧ r < n ∧ 0 ≤ s' := by
  unfold tilefarmgen_Tape_Next.f
  rw [if_neg (by omega)]
  by_cases h1 : s ≥ (l.length : Int)
  · rw [if_pos h1]; exact ⟨_, _, rfl, by omega, by omega, hs⟩
  · have e1 : wrap64 (s + 1) = s + 1 := wrap_in (by omega) (by omega)
    have e2 : wrap64 (s + 1 - 1) = s := by rw [wrap_in (by omega) (by omega)]; omega
    rw [if_neg h1]
    simp only [e1, e2]
    rw [if_pos hs, if_pos (by omega), mod_eq _ _ h hn]
    exact ⟨_, _, rfl, Int.emod_nonneg _ (by omega), Int.emod_lt_of_pos _ h, by omega⟩


abbrev V (a b c d : Int) : Prop := (a = 0 ∧ b = 0 ∧ c = 0 ∧ d = 0) ∨ (-1048576 ≤ a ∧ a ≤ 1048576 ∧ -1048576 ≤ b ∧ b ≤ 1048576 ∧ -1048576 ≤ c ∧ c ≤ 1048576 ∧ -1048576 ≤ d ∧ d ≤ 1048576 ∧ a < c ∧ b < d)

theorem empty_eq (a b c d : Int) : rect_Empty.f a b c d = some (decide (a = 0 ∧ b = 0 ∧ c = 0 ∧ d = 0)) := by
  unfold rect_Empty.f
  congr 1
  rw [Bool.eq_iff_iff]
  simp

theorem coord_eq (a : Int) : rect_coord.f a = some (decide (-1048576 ≤ a ∧ a ≤ 1048576)) := by
  unfold rect_coord.f
  split <;> congr 1 <;> rw [Bool.eq_iff_iff] <;> simp <;> omega

theorem valid_eq (a b c d : Int) : rect_Valid.f a b c d = some (decide (V a b c d)) := by
  unfold rect_Valid.f
  simp only [empty_eq, coord_eq, Option.bind_some, decide_eq_true_eq]
  repeat' split
  all_goals first | (refine sd_iff ?_; omega) | (refine sd_true ?_; omega) | (refine sd_false ?_; omega)

theorem ref_coord_eq (a : Int) : tilefarmref2_coord.f a = some (decide (-1048576 ≤ a ∧ a ≤ 1048576)) := by
  unfold tilefarmref2_coord.f
  split <;> congr 1 <;> rw [Bool.eq_iff_iff] <;> simp <;> omega

theorem ref_valid_eq (a b c d : Int) : tilefarmref2_Valid.f a b c d = some (decide (V a b c d)) := by
  unfold tilefarmref2_Valid.f
  simp only [ref_coord_eq, Option.bind_some, decide_eq_true_eq, V, Bool.and_eq_true, beq_iff_eq]
  repeat' split
  all_goals first | (refine sd_iff ?_; omega) | (refine sd_true ?_; omega) | (refine sd_false ?_; omega)

def ix (a0 a1 a2 a3 b0 b1 b2 b3 : Int) : Int × Int × Int × Int :=
  if V a0 a1 a2 a3 ∧ V b0 b1 b2 b3 ∧ mx a0 b0 < mn a2 b2 ∧ mx a1 b1 < mn a3 b3 then (mx a0 b0, mx a1 b1, mn a2 b2, mn a3 b3) else (0, 0, 0, 0)

theorem intersect_eq (k : Nat) (a0 a1 a2 a3 b0 b1 b2 b3 : Int) : rect_Intersect.f (k + 1) a0 a1 a2 a3 b0 b1 b2 b3 = some (ix a0 a1 a2 a3 b0 b1 b2 b3) := by
  unfold rect_Intersect.f ix
  simp only [valid_eq, Option.bind_some, rect_Intersect.j0, decide_eq_true_eq, Bool.not_eq_true', decide_eq_false_iff_not, if_true]
  by_cases h1 : V a0 a1 a2 a3
  · by_cases h2 : V b0 b1 b2 b3
    · rw [if_pos h1, if_neg (fun h => h h2)]
      by_cases h3 : mx a0 b0 < mn a2 b2
      · by_cases h4 : mx a1 b1 < mn a3 b3
        · rw [if_neg (by omega), if_neg (by omega), if_pos ⟨h1, h2, h3, h4⟩]
        · rw [if_neg (by omega), if_pos (by omega), if_neg (fun h => h4 h.2.2.2)]
      · rw [if_pos (by omega), if_neg (fun h => h3 h.2.2.1)]
    · rw [if_pos h1, if_pos h2, if_neg (fun h => h2 h.2.1)]
  · rw [if_neg h1, if_neg (fun h => h1 h.1)]

theorem ix_spec {a0 a1 a2 a3 b0 b1 b2 b3 c0 c1 c2 c3 : Int} (hc : ix a0 a1 a2 a3 b0 b1 b2 b3 = (c0, c1, c2, c3)) (ha : V a0 a1 a2 a3) (hb : V b0 b1 b2 b3) :
    (c0 = 0 ∧ c1 = 0 ∧ c2 = 0 ∧ c3 = 0 ∧ (min a2 b2 ≤ max a0 b0 ∨ min a3 b3 ≤ max a1 b1)) ∨ (c0 = max a0 b0 ∧ c1 = max a1 b1 ∧ c2 = min a2 b2 ∧ c3 = min a3 b3 ∧ c0 < c2 ∧ c1 < c3) := by
  simp only [ix, mx_max, mn_min] at hc
  split at hc
  · next h =>
    simp only [Prod.mk.injEq] at hc
    exact .inr (by omega)
  · next h =>
    simp only [Prod.mk.injEq] at hc
    refine .inl ?_
    have : ¬ (max a0 b0 < min a2 b2 ∧ max a1 b1 < min a3 b3) := fun h' => h ⟨ha, hb, h'⟩
    omega

theorem ix_inside {a0 a1 a2 a3 b0 b1 b2 b3 c0 c1 c2 c3 : Int} (h : (c0 = 0 ∧ c1 = 0 ∧ c2 = 0 ∧ c3 = 0 ∧ (min a2 b2 ≤ max a0 b0 ∨ min a3 b3 ≤ max a1 b1)) ∨ (c0 = max a0 b0 ∧ c1 = max a1 b1 ∧ c2 = min a2 b2 ∧ c3 = min a3 b3 ∧ c0 < c2 ∧ c1 < c3))
    (hy : ¬ (c0 = 0 ∧ c1 = 0 ∧ c2 = 0 ∧ c3 = 0)) : a0 ≤ c0 ∧ c0 < c2 ∧ c2 ≤ a2 ∧ a1 ≤ c1 ∧ c1 < c3 ∧ c3 ≤ a3 := by
  rcases h with h | h
  · exact absurd ⟨h.1, h.2.1, h.2.2.1, h.2.2.2.1⟩ hy
  · omega

theorem V_range {a b c d : Int} (h : V a b c d) : -1048576 ≤ a ∧ c ≤ 1048576 ∧ -1048576 ≤ b ∧ d ≤ 1048576 := by omega
theorem V_mono {a b c d : Int} (h : V a b c d) : a ≤ c ∧ b ≤ d := by omega


def ar (r : S26) : Int := (r.f2 - r.f0) * (r.f3 - r.f1)

theorem area_eq {a0 a1 a2 a3 : Int} (h : V a0 a1 a2 a3) : rect_Area.f a0 a1 a2 a3 = some ((a2 - a0) * (a3 - a1)) ∧ 0 ≤ (a2 - a0) * (a3 - a1) ∧ (a2 - a0) * (a3 - a1) ≤ 4398046511104 := by
  have hb := mul_bd (x := a2 - a0) (y := a3 - a1) (B := 2097152) (C := 2097152) (by omega) (by omega) (by omega) (by omega)
  refine ⟨?_, hb.1, by omega⟩
  unfold rect_Area.f
  simp only [valid_eq, Option.bind_some, decide_eq_true_eq]
  rw [if_pos h, wrap_in (n := a2 - a0) (by omega) (by omega), wrap_in (n := a3 - a1) (by omega) (by omega), wrap_in (by omega) (by omega)]

def keep (r : S26) : Bool := decide (r.f0 < r.f2 ∧ r.f1 < r.f3)

theorem rd_drop (xs : List S26) (i : Nat) (h : i < xs.length) : xs.drop i = rd_T26 xs (i : Int) :: xs.drop (i + 1) := by
  rw [List.drop_eq_getElem_cons h]
  congr 1
  simp [rd_T26, h]

theorem sub_loop (xs : List S26) (hx : xs.length ≤ 1000) (d : Nat) : ∀ (k i : Nat) (acc : List S26), i + d = xs.length → d < k → acc.length + d ≤ 1000 →
    rect_Subtract.l0 k acc xs (xs.length : Int) (i : Int) = some (acc ++ (xs.drop i).filter keep) := by
  induction d with
  | zero =>
    intro k i acc hi hk ha
    obtain ⟨k, rfl⟩ : ∃ m, k = m + 1 := ⟨k - 1, by omega⟩
    simp only [rect_Subtract.l0]
    rw [if_neg (by omega), List.drop_of_length_le (by omega)]
    simp
  | succ d ih =>
    intro k i acc hi hk ha
    obtain ⟨k, rfl⟩ : ∃ m, k = m + 1 := ⟨k - 1, by omega⟩
    have e1 : wrap64 ((i : Int) + 1) = ((i + 1 : Nat) : Int) := by rw [wrap_in (by omega) (by omega)]; omega
    simp only [rect_Subtract.l0]
    rw [if_pos (by omega), if_pos (by omega), if_pos (by omega), rd_drop xs i (by omega), e1]
    by_cases h1 : (rd_T26 xs i).f0 < (rd_T26 xs i).f2
    · by_cases h2 : (rd_T26 xs i).f1 < (rd_T26 xs i).f3
      · rw [if_pos h1, if_pos h2, if_pos (by omega), ih k (i + 1) _ (by omega) (by omega) (by simp; omega)]
        simp [keep, h1, h2]
      · rw [if_pos h1, if_neg h2, ih k (i + 1) _ (by omega) (by omega) (by omega)]
        simp [keep, h2]
    · rw [if_neg h1, ih k (i + 1) _ (by omega) (by omega) (by omega)]
      simp [keep, h1]

/-- What is cut off `a` around `c`. -/
def cutL (a0 a1 a2 a3 c0 c1 c2 c3 : Int) : List S26 := [⟨a0, a1, a2, c1⟩, ⟨a0, c1, c0, c3⟩, ⟨c2, c1, a2, c3⟩, ⟨a0, c3, a2, a3⟩]

theorem subtract_eq {a0 a1 a2 a3 b0 b1 b2 b3 c0 c1 c2 c3 : Int} (k : Nat) (ha : V a0 a1 a2 a3) (hb : V b0 b1 b2 b3) (hc : ix a0 a1 a2 a3 b0 b1 b2 b3 = (c0, c1, c2, c3)) :
    rect_Subtract.f (k + 10) a0 a1 a2 a3 b0 b1 b2 b3 = some (if a0 = 0 ∧ a1 = 0 ∧ a2 = 0 ∧ a3 = 0 then [] else if c0 = 0 ∧ c1 = 0 ∧ c2 = 0 ∧ c3 = 0 then [⟨a0, a1, a2, a3⟩] else (cutL a0 a1 a2 a3 c0 c1 c2 c3).filter keep) := by
  unfold rect_Subtract.f
  have hl := sub_loop (cutL a0 a1 a2 a3 c0 c1 c2 c3) (by simp [cutL]) 4 (k + 9) 0 [] (by simp [cutL]) (by omega) (by simp)
  simp only [cutL, List.drop_zero, List.nil_append] at hl
  simp only [valid_eq, empty_eq, Option.bind_some, rect_Subtract.j0, intersect_eq, hc, decide_eq_true_eq, ha, hb, if_true, cutL]
  split
  · rfl
  · split
    · rfl
    · exact hl


theorem rempty_eq (a b c d : Int) : tilefarmref2_Empty.f a b c d = some (decide (a = 0 ∧ b = 0 ∧ c = 0 ∧ d = 0)) := by
  unfold tilefarmref2_Empty.f
  congr 1
  rw [Bool.eq_iff_iff]
  simp


theorem w1 : wrap64 (0 + 1) = 1 := wrap_in (by omega) (by omega)
theorem w2 : wrap64 (1 + 1) = 2 := wrap_in (by omega) (by omega)
theorem w3 : wrap64 (2 + 1) = 3 := wrap_in (by omega) (by omega)
theorem w4 : wrap64 (3 + 1) = 4 := wrap_in (by omega) (by omega)

abbrev Sides (l t r d : Int) : Prop := (0 ≤ l ∧ l ≤ 1048576) ∧ (0 ≤ t ∧ t ≤ 1048576) ∧ (0 ≤ r ∧ r ≤ 1048576) ∧ (0 ≤ d ∧ d ≤ 1048576)

/-- The outset rectangle. -/
def os (a b c d l t r m : Int) : Int × Int × Int × Int :=
  if ¬ (a = 0 ∧ b = 0 ∧ c = 0 ∧ d = 0) ∧ V a b c d ∧ Sides l t r m ∧ V (a - l) (b - t) (c + r) (d + m) then (a - l, b - t, c + r, d + m) else (0, 0, 0, 0)

theorem outset_l0 (k : Nat) (a b c d l t r m : Int) (hV : V a b c d) :
    rect_Outset.l0 (k + 5) l t r m [l, t, r, m] 4 0 a b c d = some (if Sides l t r m ∧ V (a - l) (b - t) (c + r) (d + m) then (a - l, b - t, c + r, d + m) else (0, 0, 0, 0)) := by
  have r0 : rd [l, t, r, m] 0 = l := rfl
  have r1 : rd [l, t, r, m] 1 = t := rfl
  have r2 : rd [l, t, r, m] 2 = r := rfl
  have r3 : rd [l, t, r, m] 3 = m := rfl
  simp only [rect_Outset.l0, r0, r1, r2, r3, w1, w2, w3, w4, List.length_cons, List.length_nil, Nat.zero_add, Nat.reduceAdd, Int.cast_ofNat_Int, valid_eq, Option.bind_some, decide_eq_true_eq]
  rw [if_pos (by omega), if_pos (by omega), if_pos (by omega)]
  have hr : -1048576 ≤ a ∧ a ≤ 1048576 ∧ -1048576 ≤ b ∧ b ≤ 1048576 ∧ -1048576 ≤ c ∧ c ≤ 1048576 ∧ -1048576 ≤ d ∧ d ≤ 1048576 := by clear r0 r1 r2 r3; omega
  clear hV
  by_cases h0 : 0 ≤ l ∧ l ≤ 1048576
  · rw [if_neg (by omega), if_neg (by omega), if_pos (by omega), if_pos (by omega), if_pos (by omega)]
    by_cases h1 : 0 ≤ t ∧ t ≤ 1048576
    · rw [if_neg (by omega), if_neg (by omega), if_pos (by omega), if_pos (by omega), if_pos (by omega)]
      by_cases h2 : 0 ≤ r ∧ r ≤ 1048576
      · rw [if_neg (by omega), if_neg (by omega), if_pos (by omega), if_pos (by omega), if_pos (by omega)]
        by_cases h3 : 0 ≤ m ∧ m ≤ 1048576
        · rw [if_neg (by omega), if_neg (by omega), if_neg (by omega), wrap_in (n := a - l) (by omega) (by omega), wrap_in (n := b - t) (by omega) (by omega), wrap_in (n := c + r) (by omega) (by omega), wrap_in (n := d + m) (by omega) (by omega)]
          by_cases hv : V (a - l) (b - t) (c + r) (d + m)
          · rw [if_pos hv, if_pos ⟨⟨h0, h1, h2, h3⟩, hv⟩]
          · rw [if_neg hv, if_neg (fun h => hv h.2)]
        · by_cases q : m < 0
          · rw [if_pos q, if_neg (fun h => h3 h.1.2.2.2)]
          · rw [if_neg q, if_pos (by omega), if_neg (fun h => h3 h.1.2.2.2)]
      · by_cases q : r < 0
        · rw [if_pos q, if_neg (fun h => h2 h.1.2.2.1)]
        · rw [if_neg q, if_pos (by omega), if_neg (fun h => h2 h.1.2.2.1)]
    · by_cases q : t < 0
      · rw [if_pos q, if_neg (fun h => h1 h.1.2.1)]
      · rw [if_neg q, if_pos (by omega), if_neg (fun h => h1 h.1.2.1)]
  · by_cases q : l < 0
    · rw [if_pos q, if_neg (fun h => h0 h.1.1)]
    · rw [if_neg q, if_pos (by omega), if_neg (fun h => h0 h.1.1)]

theorem outset_eq (k : Nat) (a b c d l t r m : Int) : rect_Outset.f (k + 6) a b c d l t r m = some (os a b c d l t r m) := by
  unfold rect_Outset.f os
  simp only [empty_eq, valid_eq, Option.bind_some, decide_eq_true_eq]
  by_cases h0 : a = 0 ∧ b = 0 ∧ c = 0 ∧ d = 0
  · rw [if_pos h0, if_neg (fun h => h.1 h0)]
    simp only [rect_Outset.j0, if_true]
  · rw [if_neg h0]
    by_cases hV : V a b c d
    · rw [decide_eq_true hV, Bool.not_true, rect_Outset.j0, if_neg Bool.false_ne_true]
      simp only [Option.bind_some]
      have := outset_l0 k a b c d l t r m hV
      simp only [List.length_cons, List.length_nil, Nat.zero_add, Nat.reduceAdd, Int.cast_ofNat_Int]
      rw [this]
      by_cases q : Sides l t r m ∧ V (a - l) (b - t) (c + r) (d + m)
      · rw [if_pos q, if_pos ⟨h0, hV, q⟩]
      · rw [if_neg q, if_neg (fun h => q h.2.2)]
    · rw [decide_eq_false hV, Bool.not_false, rect_Outset.j0, if_pos rfl, if_neg (fun h => hV h.2.1)]


theorem rect_spec (l : List Int) (s : Int) (hs : 0 ≤ s) (hl : l.length ≤ 4611686018427387904) : ∃ a b c d s', tilefarmgen_Tape_Rect.f l s = some (a, b, c, d, s') ∧ 0 ≤ s' := by
  obtain ⟨r1, s1, h1, h1a, h1b, h1c⟩ := next_spec l s 8 hs hl (by omega) (by omega)
  obtain ⟨r2, s2, h2, h2a, h2b, h2c⟩ := next_spec l s1 8 h1c hl (by omega) (by omega)
  obtain ⟨r3, s3, h3, h3a, h3b, h3c⟩ := next_spec l s2 6 h2c hl (by omega) (by omega)
  obtain ⟨r4, s4, h4, h4a, h4b, h4c⟩ := next_spec l s3 6 h3c hl (by omega) (by omega)
  obtain ⟨r5, s5, h5, h5a, h5b, h5c⟩ := next_spec l s4 14 h4c hl (by omega) (by omega)
  obtain ⟨r6, s6, h6, h6a, h6b, h6c⟩ := next_spec l s5 2 h5c hl (by omega) (by omega)
  obtain ⟨r7, s7, h7, h7a, h7b, h7c⟩ := next_spec l s6 2 h6c hl (by omega) (by omega)
  unfold tilefarmgen_Tape_Rect.f tilefarmgen_Tape_Pick.f
  simp only [h1, h2, h3, h4, h5, h6, h7, Option.bind_some, List.length_cons, List.length_nil, Nat.zero_add, Nat.reduceAdd, Int.cast_ofNat_Int, h6a, h6b, h7a, h7b, if_true]
  split
  · exact ⟨_, _, _, _, _, rfl, h5c⟩
  · split
    · exact ⟨_, _, _, _, _, rfl, h5c⟩
    · split
      · exact ⟨_, _, _, _, _, rfl, h7c⟩
      · exact ⟨_, _, _, _, _, rfl, h5c⟩


theorem sane_eq : tilefarmlaw2_sane.f 10 = some true := by decide +kernel

def sL (a0 a1 a2 a3 b0 b1 b2 b3 : Int) : List S26 :=
  if V a0 a1 a2 a3 ∧ V b0 b1 b2 b3 ∧ ¬ (a0 = 0 ∧ a1 = 0 ∧ a2 = 0 ∧ a3 = 0) then
    if (ix a0 a1 a2 a3 b0 b1 b2 b3).1 = 0 ∧ (ix a0 a1 a2 a3 b0 b1 b2 b3).2.1 = 0 ∧ (ix a0 a1 a2 a3 b0 b1 b2 b3).2.2.1 = 0 ∧ (ix a0 a1 a2 a3 b0 b1 b2 b3).2.2.2 = 0 then [⟨a0, a1, a2, a3⟩]
    else (cutL a0 a1 a2 a3 (ix a0 a1 a2 a3 b0 b1 b2 b3).1 (ix a0 a1 a2 a3 b0 b1 b2 b3).2.1 (ix a0 a1 a2 a3 b0 b1 b2 b3).2.2.1 (ix a0 a1 a2 a3 b0 b1 b2 b3).2.2.2).filter keep
  else []

theorem sL_len (a0 a1 a2 a3 b0 b1 b2 b3 : Int) : (sL a0 a1 a2 a3 b0 b1 b2 b3).length ≤ 4 := by
  unfold sL
  split
  · split
    · simp
    · exact Nat.le_trans (List.length_filter_le _ _) (by simp [cutL])
  · simp

theorem sub_any (k : Nat) (a0 a1 a2 a3 b0 b1 b2 b3 : Int) : rect_Subtract.f (k + 10) a0 a1 a2 a3 b0 b1 b2 b3 = some (sL a0 a1 a2 a3 b0 b1 b2 b3) := by
  by_cases ha : V a0 a1 a2 a3
  · by_cases hb : V b0 b1 b2 b3
    · rw [subtract_eq k ha hb (c0 := (ix a0 a1 a2 a3 b0 b1 b2 b3).1) (c1 := (ix a0 a1 a2 a3 b0 b1 b2 b3).2.1) (c2 := (ix a0 a1 a2 a3 b0 b1 b2 b3).2.2.1) (c3 := (ix a0 a1 a2 a3 b0 b1 b2 b3).2.2.2) rfl]
      unfold sL
      by_cases h0 : a0 = 0 ∧ a1 = 0 ∧ a2 = 0 ∧ a3 = 0
      · rw [if_pos h0, if_neg (fun h => h.2.2 h0)]
      · rw [if_neg h0, if_pos (show V a0 a1 a2 a3 ∧ V b0 b1 b2 b3 ∧ ¬ (a0 = 0 ∧ a1 = 0 ∧ a2 = 0 ∧ a3 = 0) from ⟨ha, hb, h0⟩)]
    · unfold rect_Subtract.f sL
      simp only [valid_eq, Option.bind_some, decide_eq_true_eq]
      rw [if_pos ha, if_neg hb, if_neg (fun h => hb h.2.1), rect_Subtract.j0, if_pos rfl]
  · unfold rect_Subtract.f sL
    simp only [valid_eq, Option.bind_some, decide_eq_true_eq]
    rw [if_neg ha, if_neg (fun h => ha h.1), rect_Subtract.j0, if_pos rfl]

theorem rsub_loop (xs : List S26) (hx : xs.length ≤ 1000) (d : Nat) : ∀ (k i : Nat) (acc : List S26), i + d = xs.length → d < k → acc.length + d ≤ 1000 →
    tilefarmref2_Subtract.l0 k acc xs (i : Int) = some (acc ++ (xs.drop i).filter keep) := by
  induction d with
  | zero =>
    intro k i acc hi hk ha
    obtain ⟨k, rfl⟩ : ∃ m, k = m + 1 := ⟨k - 1, by omega⟩
    simp only [tilefarmref2_Subtract.l0]
    rw [if_neg (by omega), List.drop_of_length_le (by omega)]
    simp
  | succ d ih =>
    intro k i acc hi hk ha
    obtain ⟨k, rfl⟩ : ∃ m, k = m + 1 := ⟨k - 1, by omega⟩
    have e1 : wrap64 ((i : Int) + 1) = ((i + 1 : Nat) : Int) := by rw [wrap_in (by omega) (by omega)]; omega
    simp only [tilefarmref2_Subtract.l0]
    rw [if_pos (by omega), if_pos (by omega), rd_drop xs i (by omega), e1]
    by_cases h1 : (rd_T26 xs i).f0 < (rd_T26 xs i).f2
    · by_cases h2 : (rd_T26 xs i).f1 < (rd_T26 xs i).f3
      · rw [if_pos h1, if_pos h2, if_pos (by omega), ih k (i + 1) _ (by omega) (by omega) (by simp; omega)]
        simp [keep, h1, h2]
      · rw [if_pos h1, if_neg h2, ih k (i + 1) _ (by omega) (by omega) (by omega)]
        simp [keep, h2]
    · rw [if_neg h1, ih k (i + 1) _ (by omega) (by omega) (by omega)]
      simp [keep, h1]

theorem rix_eq (a0 a1 a2 a3 b0 b1 b2 b3 : Int) : tilefarmref2_Intersect.f a0 a1 a2 a3 b0 b1 b2 b3 = some (ix a0 a1 a2 a3 b0 b1 b2 b3) := by
  unfold tilefarmref2_Intersect.f ix
  simp only [ref_valid_eq, Option.bind_some, decide_eq_true_eq]
  by_cases h1 : V a0 a1 a2 a3
  · by_cases h2 : V b0 b1 b2 b3
    · rw [if_pos h1, if_pos h2]
      by_cases h3 : mx a0 b0 < mn a2 b2
      · by_cases h4 : mx a1 b1 < mn a3 b3
        · rw [if_neg (by clear h1 h2; omega), if_neg (by clear h1 h2; omega), if_pos ⟨h1, h2, h3, h4⟩]
        · rw [if_neg (by clear h1 h2; omega), if_pos (by clear h1 h2; omega), if_neg (fun h => h4 h.2.2.2)]
      · rw [if_pos (by clear h1 h2; omega), if_neg (fun h => h3 h.2.2.1)]
    · rw [if_pos h1, if_neg h2, if_neg (fun h => h2 h.2.1)]
  · rw [if_neg h1, if_neg (fun h => h1 h.1)]

theorem rsub_any (k : Nat) (a0 a1 a2 a3 b0 b1 b2 b3 : Int) : tilefarmref2_Subtract.f (k + 10) a0 a1 a2 a3 b0 b1 b2 b3 = some (sL a0 a1 a2 a3 b0 b1 b2 b3) := by
  unfold tilefarmref2_Subtract.f sL
  simp only [ref_valid_eq, rempty_eq, Option.bind_some, decide_eq_true_eq]
  by_cases ha : V a0 a1 a2 a3
  · by_cases hb : V b0 b1 b2 b3
    · rw [if_pos ha, if_pos hb]
      by_cases h0 : a0 = 0 ∧ a1 = 0 ∧ a2 = 0 ∧ a3 = 0
      · rw [decide_eq_true h0, if_neg (fun h => h.2.2 h0), tilefarmref2_Subtract.j0, if_pos rfl]
      · rw [decide_eq_false h0, if_pos ⟨ha, hb, h0⟩, tilefarmref2_Subtract.j0, if_neg Bool.false_ne_true, rix_eq]
        simp only [Option.bind_some, rempty_eq, decide_eq_true_eq]
        split
        · rfl
        · have hl := rsub_loop (cutL a0 a1 a2 a3 (ix a0 a1 a2 a3 b0 b1 b2 b3).1 (ix a0 a1 a2 a3 b0 b1 b2 b3).2.1 (ix a0 a1 a2 a3 b0 b1 b2 b3).2.2.1 (ix a0 a1 a2 a3 b0 b1 b2 b3).2.2.2) (by simp [cutL]) 4 (k + 9) 0 [] (by simp [cutL]) (by omega) (by simp)
          simpa [cutL] using hl
    · rw [if_pos ha, if_neg hb, if_neg (fun h => hb h.2.1), tilefarmref2_Subtract.j0, if_pos rfl]
  · rw [if_neg ha, if_neg (fun h => ha h.1), tilefarmref2_Subtract.j0, if_pos rfl]

theorem area_same (a b c d : Int) : ∃ r, rect_Area.f a b c d = some r ∧ tilefarmref2_Area.f a b c d = some r := by
  unfold rect_Area.f tilefarmref2_Area.f
  simp only [valid_eq, ref_valid_eq, Option.bind_some]
  split
  · exact ⟨_, rfl, rfl⟩
  · exact ⟨_, rfl, rfl⟩

theorem contains_same (a b c d x y : Int) : ∃ r, rect_Contains.f a b c d x y = some r ∧ tilefarmref2_Contains.f a b c d x y = some r := by
  unfold rect_Contains.f tilefarmref2_Contains.f
  simp only [valid_eq, ref_valid_eq, Option.bind_some]
  repeat' split
  all_goals exact ⟨_, rfl, rfl⟩

theorem hull_same (k : Nat) (a0 a1 a2 a3 b0 b1 b2 b3 : Int) : ∃ r, rect_Hull.f (k + 1) a0 a1 a2 a3 b0 b1 b2 b3 = some r ∧ tilefarmref2_Hull.f (k + 1) a0 a1 a2 a3 b0 b1 b2 b3 = some r := by
  unfold rect_Hull.f tilefarmref2_Hull.f
  simp only [valid_eq, ref_valid_eq, empty_eq, rempty_eq, Option.bind_some, rect_Hull.j0, tilefarmref2_Hull.j0]
  repeat' split
  all_goals exact ⟨_, rfl, rfl⟩

theorem inside_same (k : Nat) (a0 a1 a2 a3 b0 b1 b2 b3 : Int) : ∃ r, rect_Inside.f (k + 1) a0 a1 a2 a3 b0 b1 b2 b3 = some r ∧ tilefarmref2_Inside.f a0 a1 a2 a3 b0 b1 b2 b3 = some r := by
  unfold rect_Inside.f tilefarmref2_Inside.f
  simp only [valid_eq, ref_valid_eq, rempty_eq, Option.bind_some, decide_eq_true_eq, intersect_eq]
  by_cases ha : V a0 a1 a2 a3
  · by_cases hb : V b0 b1 b2 b3
    · rw [if_pos ha, if_pos ha, if_pos hb, if_pos hb]
      obtain ⟨⟨c0, c1, c2, c3⟩, hc⟩ : ∃ c, ix a0 a1 a2 a3 b0 b1 b2 b3 = c := ⟨_, rfl⟩
      have hs := ix_spec hc ha hb
      have hm := V_mono hb
      have ha' : (a0 = 0 ∧ a1 = 0 ∧ a2 = 0 ∧ a3 = 0) ∨ (a0 < a2 ∧ a1 < a3) := by clear hs hb hm hc; omega
      rw [hc]
      refine ⟨_, rfl, ?_⟩
      simp only
      have e : (c0 == a0 && (c1 == a1 && (c2 == a2 && c3 == a3))) = decide (c0 = a0 ∧ c1 = a1 ∧ c2 = a2 ∧ c3 = a3) := by
        rw [Bool.eq_iff_iff]; simp
      rw [e]
      clear e hc ha hb
      by_cases h0 : a0 = 0 ∧ a1 = 0 ∧ a2 = 0 ∧ a3 = 0
      · rw [if_pos h0]
        refine sd_true ?_
        omega
      · rw [if_neg h0]
        repeat' split
        all_goals first | (refine sd_iff ?_; omega) | (refine sd_false ?_; omega)
    · rw [if_pos ha, if_pos ha, if_neg hb, if_neg hb]; exact ⟨_, rfl, rfl⟩
  · rw [if_neg ha, if_neg ha]; exact ⟨_, rfl, rfl⟩

theorem rfull_eq (a b c d : Int) : tilefarmref2_Full.f a b c d = some (decide (V a b c d ∧ ¬ (a = 0 ∧ b = 0 ∧ c = 0 ∧ d = 0))) := by
  unfold tilefarmref2_Full.f
  simp only [ref_valid_eq, rempty_eq, Option.bind_some, decide_eq_true_eq]
  by_cases hV : V a b c d
  · rw [if_pos hV]
    by_cases h0 : a = 0 ∧ b = 0 ∧ c = 0 ∧ d = 0
    · rw [decide_eq_true h0, decide_eq_false (fun h => h.2 h0)]; rfl
    · rw [decide_eq_false h0, decide_eq_true ⟨hV, h0⟩]; rfl
  · rw [if_neg hV, decide_eq_false (fun h => hV h.1)]

theorem routset_eq (k : Nat) (a b c d l t r m : Int) : tilefarmref2_Outset.f (k + 6) a b c d l t r m = some (os a b c d l t r m) := by
  have r0 : rd [l, t, r, m] 0 = l := rfl
  have r1 : rd [l, t, r, m] 1 = t := rfl
  have r2 : rd [l, t, r, m] 2 = r := rfl
  have r3 : rd [l, t, r, m] 3 = m := rfl
  unfold tilefarmref2_Outset.f os
  simp only [Option.bind_some, tilefarmref2_Outset.l0, r0, r1, r2, r3, w1, w2, w3, w4, List.length_cons, List.length_nil, Nat.zero_add, Nat.reduceAdd, Int.cast_ofNat_Int, ref_valid_eq, rfull_eq, decide_eq_true_eq]
  clear r0 r1 r2 r3
  rw [if_pos (by omega), if_pos (by omega), if_pos (by omega)]
  by_cases h0 : 0 ≤ l ∧ l ≤ 1048576
  · rw [if_neg (by omega), if_neg (by omega), if_pos (by omega), if_pos (by omega), if_pos (by omega)]
    by_cases h1 : 0 ≤ t ∧ t ≤ 1048576
    · rw [if_neg (by omega), if_neg (by omega), if_pos (by omega), if_pos (by omega), if_pos (by omega)]
      by_cases h2 : 0 ≤ r ∧ r ≤ 1048576
      · rw [if_neg (by omega), if_neg (by omega), if_pos (by omega), if_pos (by omega), if_pos (by omega)]
        by_cases h3 : 0 ≤ m ∧ m ≤ 1048576
        · rw [if_neg (by omega), if_neg (by omega), if_neg (by omega)]
          by_cases hF : V a b c d ∧ ¬ (a = 0 ∧ b = 0 ∧ c = 0 ∧ d = 0)
          · have hV := hF.1
            have hr : -1048576 ≤ a ∧ a ≤ 1048576 ∧ -1048576 ≤ b ∧ b ≤ 1048576 ∧ -1048576 ≤ c ∧ c ≤ 1048576 ∧ -1048576 ≤ d ∧ d ≤ 1048576 := by clear hF h0 h1 h2 h3; omega
            rw [if_pos hF]
            clear hV
            rw [wrap_in (n := a - l) (by omega) (by omega), wrap_in (n := b - t) (by omega) (by omega), wrap_in (n := c + r) (by omega) (by omega), wrap_in (n := d + m) (by omega) (by omega)]
            by_cases hv : V (a - l) (b - t) (c + r) (d + m)
            · rw [if_pos hv, if_pos ⟨hF.2, hF.1, ⟨h0, h1, h2, h3⟩, hv⟩]
            · rw [if_neg hv, if_neg (fun h => hv h.2.2.2)]
          · rw [if_neg hF, if_neg (fun h => hF ⟨h.2.1, h.1⟩)]
        · by_cases q : m < 0
          · rw [if_pos q, if_neg (fun h => h3 h.2.2.1.2.2.2)]
          · rw [if_neg q, if_pos (by omega), if_neg (fun h => h3 h.2.2.1.2.2.2)]
      · by_cases q : r < 0
        · rw [if_pos q, if_neg (fun h => h2 h.2.2.1.2.2.1)]
        · rw [if_neg q, if_pos (by omega), if_neg (fun h => h2 h.2.2.1.2.2.1)]
    · by_cases q : t < 0
      · rw [if_pos q, if_neg (fun h => h1 h.2.2.1.2.1)]
      · rw [if_neg q, if_pos (by omega), if_neg (fun h => h1 h.2.2.1.2.1)]
  · by_cases q : l < 0
    · rw [if_pos q, if_neg (fun h => h0 h.2.2.1.1)]
    · rw [if_neg q, if_pos (by omega), if_neg (fun h => h0 h.2.2.1.1)]

theorem tuple_same (p : Int × Int × Int × Int) : (p.1 == p.1 && (p.2.1 == p.2.1 && (p.2.2.1 == p.2.2.1 && p.2.2.2 == p.2.2.2))) = true := by simp

theorem agrees_l0 (a0 a1 a2 a3 b0 b1 b2 b3 x y l t r m : Int) (xs : List S26) (hx : xs.length ≤ 1000) (K : Nat) (hK : 20 < K) (d : Nat) : ∀ i : Nat, i + d = xs.length →
    tilefarmlaw2_agrees.l0 (K + d + 1) x y l t r m xs xs (i : Int) a0 a1 a2 a3 b0 b1 b2 b3 = some true := by
  induction d with
  | zero =>
    intro i hi
    rw [tilefarmlaw2_agrees.l0, if_neg (by omega)]
    obtain ⟨K, rfl⟩ : ∃ n, K = n + 6 := ⟨K - 6, by omega⟩
    obtain ⟨q1, e1, e2⟩ := area_same a0 a1 a2 a3
    obtain ⟨q2, e3, e4⟩ := contains_same a0 a1 a2 a3 x y
    obtain ⟨q3, e5, e6⟩ := inside_same (K + 5) a0 a1 a2 a3 b0 b1 b2 b3
    obtain ⟨q4, e7, e8⟩ := hull_same (K + 5) a0 a1 a2 a3 b0 b1 b2 b3
    simp only [Nat.add_zero, valid_eq, ref_valid_eq, empty_eq, rempty_eq, Option.bind_some, beq_self_eq_true, if_true, e1, e2, e3, e4, e5, e6, e7, e8, intersect_eq, rix_eq, outset_eq, routset_eq, Bool.and_self]
  | succ d ih =>
    intro i hi
    rw [show K + (d + 1) + 1 = (K + d + 1) + 1 by omega, tilefarmlaw2_agrees.l0, if_pos (by omega), if_pos (by omega), if_pos (by omega)]
    simp only [beq_self_eq_true, Bool.not_true, Bool.or_self, if_neg Bool.false_ne_true]
    rw [wrap_in (n := (i : Int) + 1) (by omega) (by omega)]
    exact ih (i + 1) (by omega)

theorem agrees_true {k : Nat} (hk : 40 < k) (a0 a1 a2 a3 b0 b1 b2 b3 x y l t r m : Int) : tilefarmlaw2_agrees.f k a0 a1 a2 a3 b0 b1 b2 b3 x y l t r m = some true := by
  have hlen := sL_len a0 a1 a2 a3 b0 b1 b2 b3
  obtain ⟨K, rfl⟩ : ∃ n, k = n + (sL a0 a1 a2 a3 b0 b1 b2 b3).length + 1 := ⟨k - (sL a0 a1 a2 a3 b0 b1 b2 b3).length - 1, by omega⟩
  unfold tilefarmlaw2_agrees.f
  have e1 := sub_any (K + (sL a0 a1 a2 a3 b0 b1 b2 b3).length + 1 - 10) a0 a1 a2 a3 b0 b1 b2 b3
  have e2 := rsub_any (K + (sL a0 a1 a2 a3 b0 b1 b2 b3).length + 1 - 10) a0 a1 a2 a3 b0 b1 b2 b3
  rw [show K + (sL a0 a1 a2 a3 b0 b1 b2 b3).length + 1 - 10 + 10 = K + (sL a0 a1 a2 a3 b0 b1 b2 b3).length + 1 by omega] at e1 e2
  rw [e1, e2]
  simp only [Option.bind_some, if_true]
  exact agrees_l0 a0 a1 a2 a3 b0 b1 b2 b3 x y l t r m _ (by omega) K (by omega) _ 0 (by omega)

theorem round (l : List Int) (hl : l.length ≤ 4611686018427387904) (x3 x4 x5 a0 a1 a2 a3 b0 b1 b2 b3 s i : Int) (hs : 0 ≤ s) (h0 : 0 ≤ i) (hi : i < 6) (k : Nat) (hk : 40 < k) :
    ∃ s', 0 ≤ s' ∧ tilefarmlaw2_RectComputes.l0 (k + 1) x3 x4 x5 i a0 a1 a2 a3 b0 b1 b2 b3 l s = tilefarmlaw2_RectComputes.l0 k x3 x4 x5 (i + 1) a0 a1 a2 a3 b0 b1 b2 b3 l s' := by
  obtain ⟨c0, c1, c2, c3, s1, hA, hs1⟩ := rect_spec l s hs hl
  obtain ⟨d0, d1, d2, d3, s2, hB, hs2⟩ := rect_spec l s1 hs1 hl
  obtain ⟨r1, s3, g1, g1a, g1b, g1c⟩ := next_spec l s2 10 hs2 hl (by omega) (by omega)
  obtain ⟨r2, s4, g2, g2a, g2b, g2c⟩ := next_spec l s3 10 g1c hl (by omega) (by omega)
  obtain ⟨r3, s5, g3, g3a, g3b, g3c⟩ := next_spec l s4 4 g2c hl (by omega) (by omega)
  obtain ⟨r4, s6, g4, g4a, g4b, g4c⟩ := next_spec l s5 3 g3c hl (by omega) (by omega)
  obtain ⟨r5, s7, g5, g5a, g5b, g5c⟩ := next_spec l s6 3 g4c hl (by omega) (by omega)
  obtain ⟨r6, s8, g6, g6a, g6b, g6c⟩ := next_spec l s7 3 g5c hl (by omega) (by omega)
  refine ⟨s8, g6c, ?_⟩
  rw [tilefarmlaw2_RectComputes.l0, if_pos hi]
  unfold tilefarmgen_Tape_Pick.f
  simp only [hA, hB, g1, g2, g3, g4, g5, g6, Option.bind_some, List.length_cons, List.length_nil, Nat.zero_add, Nat.reduceAdd, Int.cast_ofNat_Int, g4a, g4b, g5a, g5b, if_true, agrees_true hk]
  rw [wrap_in (n := i + 1) (by omega) (by omega)]

theorem RectComputes : tilefarmlaw2_RectComputes.Pure := by
  intro l a0 a1 a2 a3 b0 b1 b2 b3 x y n hl hl8 _ _ _ _ _ _ _ _ _ _ _ _
  have hl' : l.length ≤ 4611686018427387904 := by omega
  obtain ⟨K, hK⟩ : ∃ K : Nat, 40 < K := ⟨41, by omega⟩
  refine ⟨K + 1 + 1 + 1 + 1 + 1 + 1 + 1, ?_⟩
  unfold tilefarmlaw2_RectComputes.f tilefarmgen_New.f
  simp only [Option.bind_some]
  obtain ⟨s1, h1, e1⟩ := round l hl' x y n a0 a1 a2 a3 b0 b1 b2 b3 0 0 (by omega) (by omega) (by omega) (K + 1 + 1 + 1 + 1 + 1 + 1) (by omega)
  obtain ⟨s2, h2, e2⟩ := round l hl' x y n a0 a1 a2 a3 b0 b1 b2 b3 s1 1 h1 (by omega) (by omega) (K + 1 + 1 + 1 + 1 + 1) (by omega)
  obtain ⟨s3, h3, e3⟩ := round l hl' x y n a0 a1 a2 a3 b0 b1 b2 b3 s2 2 h2 (by omega) (by omega) (K + 1 + 1 + 1 + 1) (by omega)
  obtain ⟨s4, h4, e4⟩ := round l hl' x y n a0 a1 a2 a3 b0 b1 b2 b3 s3 3 h3 (by omega) (by omega) (K + 1 + 1 + 1) (by omega)
  obtain ⟨s5, h5, e5⟩ := round l hl' x y n a0 a1 a2 a3 b0 b1 b2 b3 s4 4 h4 (by omega) (by omega) (K + 1 + 1) (by omega)
  obtain ⟨s6, h6, e6⟩ := round l hl' x y n a0 a1 a2 a3 b0 b1 b2 b3 s5 5 h5 (by omega) (by omega) (K + 1) (by omega)
  have hs : tilefarmlaw2_sane.f K = some true := at_rounds tilefarmlaw2_sane.mono (by omega) sane_eq
  refine e1.trans (e2.trans (e3.trans (e4.trans (e5.trans (e6.trans ?_)))))
  rw [tilefarmlaw2_RectComputes.l0, if_neg (by omega), agrees_true hK, agrees_true hK, hs]
  rfl


end Go.Proofs.Ytdkmgcckcimhfaa.Pure
namespace Go.Proofs.Ytdkmgcckcimhfaa
open Go.ChangeShapes Go.WideShapes
/-- The print's own word, under the name that the printed row uses. -/
theorem PrintWords.sized_ints {H : Type} {enc : TypeId × Value → H} {P : Program} {W : World} {base : Nat} {spare : Nat → Bool} {held : Bool} {t e : TypeId} {k : IntKind} {a : Option Addr} {len cap : Nat} {d : DataW H} {ps : List MemPlace} {ts : List TypeId} {ds : List (DataW H)} {j : Nat}
    (hsz : (DataW.weightsEach P ts ds).all (· ≤ reachBytes) = true) (ht : ts[j]? = some t) (hd : ds[j]? = some d) (hu : P.underlying t = some (.slice e)) (he : P.underlying e = some (.int k)) (hc : P.cellsOf e = 1) {B : Nat} (hB : P.bytesOf e = B)
    (h : DataW.Trod enc P W base spare held t (.slice a len cap) d ps) : len * B ≤ 140737488351232 :=
  Go.Proofs.YtdkmgcckcimhfaaW.PrintWords.sized_ints hsz ht hd hu he hc hB h
end Go.Proofs.Ytdkmgcckcimhfaa

/- Which points intersections, hulls and differences have, point by point: for every tape and point, without a further condition. -/
import Derived.Test.YtdkmgcckcimhfaaPRectPointsx7
import Derived.Test.YtdkmgcckcimhfaaWSized
namespace Go.Proofs.Ytdkmgcckcimhfaa.Pure
open Go.RowKit Go.Proofs.Ytdkmgcckcimhfaa.PRectPoints Go.Proofs.YtdkmgcckcimhfaaW.PrintWords Go.Proofs.YtdkmgcckcimhfaaW.PrintLast Go.Proofs.YtdkmgcckcimhfaaW.PrintMore
set_option linter.unusedVariables false
set_option linter.unusedSimpArgs false

theorem wrap_in {n : Int} (h : -9223372036854775808 ≤ n) (h' : n ≤ 9223372036854775807) : wrap64 n = n := by unfold wrap64; omega

theorem tmod_emod (a n : Int) (h : 0 < n) : (0 ≤ Int.tmod a n ∧ Int.tmod a n = a % n) ∨ (Int.tmod a n < 0 ∧ Int.tmod a n + n = a % n) := by
  have h1 := Int.tmod_eq_emod (a := a) (b := n)
  have h2 := Int.emod_nonneg a (by omega : n ≠ 0)
  have h3 := Int.emod_lt_of_pos a h
  split at h1 <;> omega

theorem mod_eq (a n : Int) (h : 0 < n) (hn : n ≤ 4611686018427387904) : tilefarmgen_Mod.f a n = some (a % n) := by
  have h2 := Int.emod_nonneg a (by omega : n ≠ 0)
  have h3 := Int.emod_lt_of_pos a h
  unfold tilefarmgen_Mod.f
  rw [if_neg (by omega)]
  rcases tmod_emod a n h with ⟨h4, h5⟩ | ⟨h4, h5⟩
  · rw [if_neg (by omega), h5]
  · rw [if_pos h4, wrap_in (by omega) (by omega), h5]

theorem sd_true {p : Prop} [Decidable p] (h : p) : some true = some (decide p) := by rw [decide_eq_true h]
theorem sd_false {p : Prop} [Decidable p] (h : ¬ p) : some false = some (decide p) := by rw [decide_eq_false h]
theorem sd_iff {p q : Prop} [Decidable p] [Decidable q] (h : q ↔ p) : some (decide q) = some (decide p) := by rw [decide_eq_decide.2 h]

theorem mx_max (a b : Int) : mx a b = max a b := by unfold mx; omega
theorem mn_min (a b : Int) : mn a b = min a b := by unfold mn; omega

theorem mul_bd {x y B C : Int} (hx : 0 ≤ x) (hy : 0 ≤ y) (hxB : x ≤ B) (hyB : y ≤ C) : 0 ≤ x * y ∧ x * y ≤ B * C :=
  ⟨Int.mul_nonneg hx hy, Int.mul_le_mul hxB hyB hy (by omega)⟩

theorem dec_iff {p q : Prop} [Decidable p] [Decidable q] (h : p ↔ q) : decide p = decide q := decide_eq_decide.2 h
theorem and_not_dec (p q : Prop) [Decidable p] [Decidable q] : (decide p && !decide q) = decide (p ∧ ¬ q) := by
  by_cases hp : p <;> by_cases hq : q <;> simp [hp, hq]


theorem next_spec (l : List Int) (s n : Int) (hs : 0 ≤ s) (hl : l.length ≤ 4611686018427387904) (h : 0 < n) (hn : n ≤ 4611686018427387904) :
    ∃ r s', tilefarmgen_Tape_Next.f l s n = some (r, s') ∧ 0 ≤ r ∧ r < n ∧ 0 ≤ s' := by
  unfold tilefarmgen_Tape_Next.f
  rw [if_neg (by omega)]
  by_cases h1 : s ≥ (l.length : Int)
  · rw [if_pos h1]; exact ⟨_, _, rfl, by omega, by omega, hs⟩
  · have e1 : wrap64 (s + 1) = s + 1 := wrap_in (by omega) (by omega)
    have e2 : wrap64 (s + 1 - 1) = s := by rw [wrap_in (by omega) (by omega)]; omega
    rw [if_neg h1]
    simp only [e1, e2]
    rw [if_pos hs, if_pos (by omega), mod_eq _ _ h hn]
    exact ⟨_, _, rfl, Int.emod_nonneg _ (by omega), Int.emod_lt_of_pos _ h, by omega⟩


abbrev V (a b c d : Int) : Prop := (a = 0 ∧ b = 0 ∧ c = 0 ∧ d = 0) ∨ (-1048576 ≤ a ∧ a ≤ 1048576 ∧ -1048576 ≤ b ∧ b ≤ 1048576 ∧ -1048576 ≤ c ∧ c ≤ 1048576 ∧ -1048576 ≤ d ∧ d ≤ 1048576 ∧ a < c ∧ b < d)

theorem empty_eq (a b c d : Int) : rect_Empty.f a b c d = some (decide (a = 0 ∧ b = 0 ∧ c = 0 ∧ d = 0)) := by
  unfold rect_Empty.f
  congr 1
  rw [Bool.eq_iff_iff]
  simp

theorem coord_eq (a : Int) : rect_coord.f a = some (decide (-1048576 ≤ a ∧ a ≤ 1048576)) := by
  unfold rect_coord.f
  split <;> congr 1 <;> rw [Bool.eq_iff_iff] <;> simp <;> omega

theorem valid_eq (a b c d : Int) : rect_Valid.f a b c d = some (decide (V a b c d)) := by
  unfold rect_Valid.f
  simp only [empty_eq, coord_eq, Option.bind_some, decide_eq_true_eq]
  repeat' split
  all_goals first | (refine sd_iff ?_; omega) | (refine sd_true ?_; omega) | (refine sd_false ?_; omega)

theorem ref_coord_eq (a : Int) : tilefarmref2_coord.f a = some (decide (-1048576 ≤ a ∧ a ≤ 1048576)) := by
  unfold tilefarmref2_coord.f
  split <;> congr 1 <;> rw [Bool.eq_iff_iff] <;> simp <;> omega

theorem ref_valid_eq (a b c d : Int) : tilefarmref2_Valid.f a b c d = some (decide (V a b c d)) := by
  unfold tilefarmref2_Valid.f
  simp only [ref_coord_eq, Option.bind_some, decide_eq_true_eq, V, Bool.and_eq_true, beq_iff_eq]
  repeat' split
  all_goals first | (refine sd_iff ?_; omega) | (refine sd_true ?_; omega) | (refine sd_false ?_; omega)

def ix (a0 a1 a2 a3 b0 b1 b2 b3 : Int) : Int × Int × Int × Int :=
  if V a0 a1 a2 a3 ∧ V b0 b1 b2 b3 ∧ mx a0 b0 < mn a2 b2 ∧ mx a1 b1 < mn a3 b3 then (mx a0 b0, mx a1 b1, mn a2 b2, mn a3 b3) else (0, 0, 0, 0)

theorem intersect_eq (k : Nat) (a0 a1 a2 a3 b0 b1 b2 b3 : Int) : rect_Intersect.f (k + 1) a0 a1 a2 a3 b0 b1 b2 b3 = some (ix a0 a1 a2 a3 b0 b1 b2 b3) := by
  unfold rect_Intersect.f ix
  simp only [valid_eq, Option.bind_some, rect_Intersect.j0, decide_eq_true_eq, Bool.not_eq_true', decide_eq_false_iff_not, if_true]
  by_cases h1 : V a0 a1 a2 a3
  · by_cases h2 : V b0 b1 b2 b3
    · rw [if_pos h1, if_neg (fun h => h h2)]
      by_cases h3 : mx a0 b0 < mn a2 b2
      · by_cases h4 : mx a1 b1 < mn a3 b3
        · rw [if_neg (by omega), if_neg (by omega), if_pos ⟨h1, h2, h3, h4⟩]
        · rw [if_neg (by omega), if_pos (by omega), if_neg (fun h => h4 h.2.2.2)]
      · rw [if_pos (by omega), if_neg (fun h => h3 h.2.2.1)]
    · rw [if_pos h1, if_pos h2, if_neg (fun h => h2 h.2.1)]
  · rw [if_neg h1, if_neg (fun h => h1 h.1)]

theorem ix_spec {a0 a1 a2 a3 b0 b1 b2 b3 c0 c1 c2 c3 : Int} (hc : ix a0 a1 a2 a3 b0 b1 b2 b3 = (c0, c1, c2, c3)) (ha : V a0 a1 a2 a3) (hb : V b0 b1 b2 b3) :
    (c0 = 0 ∧ c1 = 0 ∧ c2 = 0 ∧ c3 = 0 ∧ (min a2 b2 ≤ max a0 b0 ∨ min a3 b3 ≤ max a1 b1)) ∨ (c0 = max a0 b0 ∧ c1 = max a1 b1 ∧ c2 = min a2 b2 ∧ c3 = min a3 b3 ∧ c0 < c2 ∧ c1 < c3) := by
  simp only [ix, mx_max, mn_min] at hc
  split at hc
  · next h =>
    simp only [Prod.mk.injEq] at hc
    exact .inr (by omega)
  · next h =>
    simp only [Prod.mk.injEq] at hc
    refine .inl ?_
    have : ¬ (max a0 b0 < min a2 b2 ∧ max a1 b1 < min a3 b3) := fun h' => h ⟨ha, hb, h'⟩
    omega

theorem ix_inside {a0 a1 a2 a3 b0 b1 b2 b3 c0 c1 c2 c3 : Int} (h : (c0 = 0 ∧ c1 = 0 ∧ c2 = 0 ∧ c3 = 0 ∧ (min a2 b2 ≤ max a0 b0 ∨ min a3 b3 ≤ max a1 b1)) ∨ (c0 = max a0 b0 ∧ c1 = max a1 b1 ∧ c2 = min a2 b2 ∧ c3 = min a3 b3 ∧ c0 < c2 ∧ c1 < c3))
    (hy : ¬ (c0 = 0 ∧ c1 = 0 ∧ c2 = 0 ∧ c3 = 0)) : a0 ≤ c0 ∧ c0 < c2 ∧ c2 ≤ a2 ∧ a1 ≤ c1 ∧ c1 < c3 ∧ c3 ≤ a3 := by
  rcases h with h | h
  · exact absurd ⟨h.1, h.2.1, h.2.2.1, h.2.2.2.1⟩ hy
  · omega

theorem V_range {a b c d : Int} (h : V a b c d) : -1048576 ≤ a ∧ c ≤ 1048576 ∧ -1048576 ≤ b ∧ d ≤ 1048576 := by omega
theorem V_mono {a b c d : Int} (h : V a b c d) : a ≤ c ∧ b ≤ d := by omega


def ar (r : S26) : Int := (r.f2 - r.f0) * (r.f3 - r.f1)

theorem area_eq {a0 a1 a2 a3 : Int} (h : V a0 a1 a2 a3) : rect_Area.f a0 a1 a2 a3 = some ((a2 - a0) * (a3 - a1)) ∧ 0 ≤ (a2 - a0) * (a3 - a1) ∧ (a2 - a0) * (a3 - a1) ≤ 4398046511104 := by
  have hb := mul_bd (x := a2 - a0) (y := a3 - a1) (B := 2097152) (C := 2097152) (by omega) (by omega) (by omega) (by omega)
  refine ⟨?_, hb.1, by omega⟩
  unfold rect_Area.f
  simp only [valid_eq, Option.bind_some, decide_eq_true_eq]
  rw [if_pos h, wrap_in (n := a2 - a0) (by omega) (by omega), wrap_in (n := a3 - a1) (by omega) (by omega), wrap_in (by omega) (by omega)]

def keep (r : S26) : Bool := decide (r.f0 < r.f2 ∧ r.f1 < r.f3)

theorem rd_drop (xs : List S26) (i : Nat) (h : i < xs.length) : xs.drop i = rd_T26 xs (i : Int) :: xs.drop (i + 1) := by
  rw [List.drop_eq_getElem_cons h]
  congr 1
  simp [rd_T26, h]

theorem sub_loop (xs : List S26) (hx : xs.length ≤ 1000) (d : Nat) : ∀ (k i : Nat) (acc : List S26), i + d = xs.length → d < k → acc.length + d ≤ 1000 →
    rect_Subtract.l0 k acc xs (xs.length : Int) (i : Int) = some (acc ++ (xs.drop i).filter keep) := by
  induction d with
  | zero =>
    intro k i acc hi hk ha
    obtain ⟨k, rfl⟩ : ∃ m, k = m + 1 := ⟨k - 1, by omega⟩
    simp only [rect_Subtract.l0]
    rw [if_neg (by omega), List.drop_of_length_le (by omega)]
    simp
  | succ d ih =>
    intro k i acc hi hk ha
    obtain ⟨k, rfl⟩ : ∃ m, k = m + 1 := ⟨k - 1, by omega⟩
    have e1 : wrap64 ((i : Int) + 1) = ((i + 1 : Nat) : Int) := by rw [wrap_in (by omega) (by omega)]; omega
    simp only [rect_Subtract.l0]
    rw [if_pos (by omega), if_pos (by omega), if_pos (by omega), rd_drop xs i (by omega), e1]
    by_cases h1 : (rd_T26 xs i).f0 < (rd_T26 xs i).f2
    · by_cases h2 : (rd_T26 xs i).f1 < (rd_T26 xs i).f3
      · rw [if_pos h1, if_pos h2, if_pos (by omega), ih k (i + 1) _ (by omega) (by omega) (by simp; omega)]
        simp [keep, h1, h2]
      · rw [if_pos h1, if_neg h2, ih k (i + 1) _ (by omega) (by omega) (by omega)]
        simp [keep, h2]
    · rw [if_neg h1, ih k (i + 1) _ (by omega) (by omega) (by omega)]
      simp [keep, h1]

/-- What is cut off `a` around `c`. -/
def cutL (a0 a1 a2 a3 c0 c1 c2 c3 : Int) : List S26 := [⟨a0, a1, a2, c1⟩, ⟨a0, c1, c0, c3⟩, ⟨c2, c1, a2, c3⟩, ⟨a0, c3, a2, a3⟩]

theorem subtract_eq {a0 a1 a2 a3 b0 b1 b2 b3 c0 c1 c2 c3 : Int} (k : Nat) (ha : V a0 a1 a2 a3) (hb : V b0 b1 b2 b3) (hc : ix a0 a1 a2 a3 b0 b1 b2 b3 = (c0, c1, c2, c3)) :
    rect_Subtract.f (k + 10) a0 a1 a2 a3 b0 b1 b2 b3 = some (if a0 = 0 ∧ a1 = 0 ∧ a2 = 0 ∧ a3 = 0 then [] else if c0 = 0 ∧ c1 = 0 ∧ c2 = 0 ∧ c3 = 0 then [⟨a0, a1, a2, a3⟩] else (cutL a0 a1 a2 a3 c0 c1 c2 c3).filter keep) := by
  unfold rect_Subtract.f
  have hl := sub_loop (cutL a0 a1 a2 a3 c0 c1 c2 c3) (by simp [cutL]) 4 (k + 9) 0 [] (by simp [cutL]) (by omega) (by simp)
  simp only [cutL, List.drop_zero, List.nil_append] at hl
  simp only [valid_eq, empty_eq, Option.bind_some, rect_Subtract.j0, intersect_eq, hc, decide_eq_true_eq, ha, hb, if_true, cutL]
  split
  · rfl
  · split
    · rfl
    · exact hl


theorem rect_spec (l : List Int) (s : Int) (hs : 0 ≤ s) (hl : l.length ≤ 4611686018427387904) : ∃ a b c d s', tilefarmgen_Tape_Rect.f l s = some (a, b, c, d, s') ∧ 0 ≤ s' := by
  obtain ⟨r1, s1, h1, h1a, h1b, h1c⟩ := next_spec l s 8 hs hl (by omega) (by omega)
  obtain ⟨r2, s2, h2, h2a, h2b, h2c⟩ := next_spec l s1 8 h1c hl (by omega) (by omega)
  obtain ⟨r3, s3, h3, h3a, h3b, h3c⟩ := next_spec l s2 6 h2c hl (by omega) (by omega)
  obtain ⟨r4, s4, h4, h4a, h4b, h4c⟩ := next_spec l s3 6 h3c hl (by omega) (by omega)
  obtain ⟨r5, s5, h5, h5a, h5b, h5c⟩ := next_spec l s4 14 h4c hl (by omega) (by omega)
  obtain ⟨r6, s6, h6, h6a, h6b, h6c⟩ := next_spec l s5 2 h5c hl (by omega) (by omega)
  obtain ⟨r7, s7, h7, h7a, h7b, h7c⟩ := next_spec l s6 2 h6c hl (by omega) (by omega)
  unfold tilefarmgen_Tape_Rect.f tilefarmgen_Tape_Pick.f
  simp only [h1, h2, h3, h4, h5, h6, h7, Option.bind_some, List.length_cons, List.length_nil, Nat.zero_add, Nat.reduceAdd, Int.cast_ofNat_Int, h6a, h6b, h7a, h7b, if_true]
  split
  · exact ⟨_, _, _, _, _, rfl, h5c⟩
  · split
    · exact ⟨_, _, _, _, _, rfl, h5c⟩
    · split
      · exact ⟨_, _, _, _, _, rfl, h7c⟩
      · exact ⟨_, _, _, _, _, rfl, h5c⟩


theorem sane_eq : tilefarmlaw2_sane.f 10 = some true := by decide +kernel

abbrev In (a b c d x y : Int) : Prop := V a b c d ∧ a ≤ x ∧ x < c ∧ b ≤ y ∧ y < d

theorem contains_eq (a b c d x y : Int) : rect_Contains.f a b c d x y = some (decide (In a b c d x y)) := by
  unfold rect_Contains.f
  simp only [valid_eq, Option.bind_some, decide_eq_true_eq]
  by_cases hV : V a b c d
  · rw [if_pos hV]
    simp only [In, hV, true_and]
    clear hV
    repeat' split
    all_goals first | (refine sd_iff ?_; omega) | (refine sd_false ?_; omega)
  · rw [if_neg hV]
    exact sd_false fun h => hV h.1

theorem hull_eq {a0 a1 a2 a3 b0 b1 b2 b3 : Int} (k : Nat) (ha : V a0 a1 a2 a3) (hb : V b0 b1 b2 b3) : ∃ c0 c1 c2 c3, rect_Hull.f (k + 1) a0 a1 a2 a3 b0 b1 b2 b3 = some (c0, c1, c2, c3) ∧
    (∀ x y, In a0 a1 a2 a3 x y → In c0 c1 c2 c3 x y) ∧ (∀ x y, In b0 b1 b2 b3 x y → In c0 c1 c2 c3 x y) := by
  unfold rect_Hull.f
  simp only [valid_eq, empty_eq, Option.bind_some, rect_Hull.j0, decide_eq_true_eq, ha, hb, if_true, decide_true, Bool.not_true, if_neg Bool.false_ne_true, mx_max, mn_min]
  split
  · next h =>
    obtain ⟨rfl, rfl, rfl, rfl⟩ := h
    exact ⟨_, _, _, _, rfl, fun x y h => by omega, fun x y h => h⟩
  · next h =>
    split
    · next h2 =>
      obtain ⟨rfl, rfl, rfl, rfl⟩ := h2
      exact ⟨_, _, _, _, rfl, fun x y h => h, fun x y h => by omega⟩
    · next h2 =>
      have ha' : a0 < a2 ∧ a1 < a3 ∧ -1048576 ≤ a0 ∧ a0 ≤ 1048576 ∧ -1048576 ≤ a1 ∧ a1 ≤ 1048576 ∧ -1048576 ≤ a2 ∧ a2 ≤ 1048576 ∧ -1048576 ≤ a3 ∧ a3 ≤ 1048576 := by omega
      have hb' : b0 < b2 ∧ b1 < b3 ∧ -1048576 ≤ b0 ∧ b0 ≤ 1048576 ∧ -1048576 ≤ b1 ∧ b1 ≤ 1048576 ∧ -1048576 ≤ b2 ∧ b2 ≤ 1048576 ∧ -1048576 ≤ b3 ∧ b3 ≤ 1048576 := by omega
      have hV : V (min a0 b0) (min a1 b1) (max a2 b2) (max a3 b3) := .inr (by clear ha hb h h2; omega)
      refine ⟨_, _, _, _, rfl, fun x y h => ⟨hV, ?_⟩, fun x y h => ⟨hV, ?_⟩⟩
      · have := h.2; clear ha hb hV h2; omega
      · have := h.2; clear ha hb hV h2; omega

def inB (x y : Int) (r : S26) : Bool := decide (In r.f0 r.f1 r.f2 r.f3 x y)
theorem inB_iff (x y : Int) (r : S26) : inB x y r = true ↔ In r.f0 r.f1 r.f2 r.f3 x y := by unfold inB; exact decide_eq_true_iff
def cnt (l : List S26) (x y : Int) : Nat := l.countP (inB x y)

theorem cnt_loop (xs : List S26) (hx : xs.length ≤ 1000) (x y : Int) (p q : Bool) (a0 a1 a2 a3 b0 b1 b2 b3 : Int) (r : Bool) (d : Nat) :
    ∀ (k i : Nat) (n : Int), i + d = xs.length → d + 30 < k → 0 ≤ n → n ≤ 1000 - d →
    (tilefarmlaw2_RectPoints.j2 (k - d - 1) x y p q (n + cnt (xs.drop i) x y) 0 (p && !q) a0 a1 a2 a3 b0 b1 b2 b3 = some r) →
    tilefarmlaw2_RectPoints.l0 k x y p q xs n (i : Int) a0 a1 a2 a3 b0 b1 b2 b3 = some r := by
  induction d with
  | zero =>
    intro k i n hi hk h0 hn hr
    obtain ⟨k, rfl⟩ : ∃ m, k = m + 1 := ⟨k - 1, by omega⟩
    simp only [tilefarmlaw2_RectPoints.l0]
    rw [if_neg (by omega)]
    rw [List.drop_of_length_le (by omega)] at hr
    simp only [cnt, List.countP_nil, Int.cast_ofNat_Int, Int.add_zero, Nat.sub_zero, Nat.add_sub_cancel] at hr
    cases p <;> simpa using hr
  | succ d ih =>
    intro k i n hi hk h0 hn hr
    obtain ⟨k, rfl⟩ : ∃ m, k = m + 1 := ⟨k - 1, by omega⟩
    have e1 : wrap64 ((i : Int) + 1) = ((i + 1 : Nat) : Int) := by rw [wrap_in (by omega) (by omega)]; omega
    have e3 : k + 1 - (d + 1) - 1 = k - d - 1 := by omega
    rw [e3, rd_drop xs i (by omega)] at hr
    simp only [tilefarmlaw2_RectPoints.l0]
    rw [if_pos (by omega), if_pos (by omega), contains_eq]
    simp only [Option.bind_some]
    rw [e1, wrap_in (n := n + 1) (by omega) (by omega)]
    simp only [cnt, List.countP_cons] at hr
    split
    · next h =>
      rw [if_pos (show inB x y (rd_T26 xs i) = true from h)] at hr
      refine ih k (i + 1) _ (by omega) (by omega) (by omega) (by omega) ?_
      rw [show n + 1 + (cnt (xs.drop (i + 1)) x y : Int) = n + ((cnt (xs.drop (i + 1)) x y + 1 : Nat) : Int) by omega]
      exact hr
    · next h =>
      rw [if_neg (show ¬ inB x y (rd_T26 xs i) = true from h)] at hr
      exact ih k (i + 1) _ (by omega) (by omega) (by omega) (by omega) hr

theorem cnt_filter (l : List S26) (x y : Int) (h : ∀ r ∈ l, In r.f0 r.f1 r.f2 r.f3 x y → keep r = true) : cnt (l.filter keep) x y = cnt l x y := by
  induction l with
  | nil => rfl
  | cons r l ih =>
    have ih := ih (fun r hr => h r (List.mem_cons_of_mem _ hr))
    unfold cnt at ih ⊢
    by_cases hk : keep r = true
    · simp [hk, ih, List.countP_cons]
    · have h0 : inB x y r = false := decide_eq_false fun h' => hk (h r List.mem_cons_self h')
      simp [hk, ih, h0, List.countP_cons]

theorem V_of {a b c d : Int} (h : -1048576 ≤ a ∧ a < c ∧ c ≤ 1048576 ∧ -1048576 ≤ b ∧ b < d ∧ d ≤ 1048576) : V a b c d := .inr (by omega)

theorem in_iff {a b c d x y : Int} (h : -1048576 ≤ a ∧ a ≤ c ∧ c ≤ 1048576 ∧ -1048576 ≤ b ∧ b ≤ d ∧ d ≤ 1048576) : In a b c d x y ↔ a ≤ x ∧ x < c ∧ b ≤ y ∧ y < d :=
  ⟨fun h' => h'.2, fun h' => ⟨V_of (by omega), h'⟩⟩

theorem in_empty (x y : Int) : ¬ In 0 0 0 0 x y := fun h => by have := h.2; omega

theorem parts_cnt {a0 a1 a2 a3 c0 c1 c2 c3 x y : Int} (ha : -1048576 ≤ a0 ∧ a2 ≤ 1048576 ∧ -1048576 ≤ a1 ∧ a3 ≤ 1048576) (h0 : a0 ≤ c0) (h1 : c0 < c2) (h2 : c2 ≤ a2) (h3 : a1 ≤ c1) (h4 : c1 < c3) (h5 : c3 ≤ a3) :
    cnt ((cutL a0 a1 a2 a3 c0 c1 c2 c3).filter keep) x y = if (a0 ≤ x ∧ x < a2 ∧ a1 ≤ y ∧ y < a3) ∧ ¬ (c0 ≤ x ∧ x < c2 ∧ c1 ≤ y ∧ y < c3) then 1 else 0 := by
  rw [cnt_filter]
  · have e1 := in_iff (a := a0) (b := a1) (c := a2) (d := c1) (x := x) (y := y) (by omega)
    have e2 := in_iff (a := a0) (b := c1) (c := c0) (d := c3) (x := x) (y := y) (by omega)
    have e3 := in_iff (a := c2) (b := c1) (c := a2) (d := c3) (x := x) (y := y) (by omega)
    have e4 := in_iff (a := a0) (b := c3) (c := a2) (d := a3) (x := x) (y := y) (by omega)
    simp only [cutL, cnt, List.countP_cons, List.countP_nil, inB_iff, e1, e2, e3, e4]
    clear e1 e2 e3 e4 ha
    repeat' split
    all_goals omega
  · intro r hr h
    simp only [keep, decide_eq_true_eq]
    have := h.2
    omega

theorem j3_true {a0 a1 a2 a3 b0 b1 b2 b3 : Int} {x y n w : Int} (k : Nat) (hs : tilefarmlaw2_sane.f (k + 1) = some true) (ha : V a0 a1 a2 a3) (hb : V b0 b1 b2 b3)
    (hi : In (ix a0 a1 a2 a3 b0 b1 b2 b3).1 (ix a0 a1 a2 a3 b0 b1 b2 b3).2.1 (ix a0 a1 a2 a3 b0 b1 b2 b3).2.2.1 (ix a0 a1 a2 a3 b0 b1 b2 b3).2.2.2 x y ↔ In a0 a1 a2 a3 x y ∧ In b0 b1 b2 b3 x y) (hn : n = w) :
    tilefarmlaw2_RectPoints.j3 (k + 2) x y (decide (In a0 a1 a2 a3 x y)) (decide (In b0 b1 b2 b3 x y)) n w a0 a1 a2 a3 b0 b1 b2 b3 = some true := by
  obtain ⟨c0, c1, c2, c3, hc, hca, hcb⟩ := hull_eq k ha hb
  simp only [tilefarmlaw2_RectPoints.j3, intersect_eq, hc, contains_eq, Option.bind_some, decide_eq_true_eq, hs, if_pos hn]
  by_cases g1 : In a0 a1 a2 a3 x y
  · have e := dec_iff (q := In b0 b1 b2 b3 x y) ⟨fun h => (hi.1 h).2, fun h => hi.2 ⟨g1, h⟩⟩
    rw [if_pos g1, e, if_pos (beq_self_eq_true _), if_pos (hca _ _ g1)]
  · have hi' : ¬ In (ix a0 a1 a2 a3 b0 b1 b2 b3).1 (ix a0 a1 a2 a3 b0 b1 b2 b3).2.1 (ix a0 a1 a2 a3 b0 b1 b2 b3).2.2.1 (ix a0 a1 a2 a3 b0 b1 b2 b3).2.2.2 x y := fun h => g1 (hi.1 h).1
    rw [if_neg g1, decide_eq_false hi', if_pos (beq_self_eq_true _)]
    by_cases g2 : In b0 b1 b2 b3 x y
    · rw [if_pos g2, if_pos (hcb _ _ g2)]
    · rw [if_neg g2]

set_option maxHeartbeats 2000000 in
theorem RectPoints : tilefarmlaw2_RectPoints.Pure := by
  intro l px py hl hl8 _ _ _
  obtain ⟨a0, a1, a2, a3, s1, hA, hs1⟩ := rect_spec l 0 (by omega) (by omega)
  obtain ⟨b0, b1, b2, b3, s2, hB, hs2⟩ := rect_spec l s1 hs1 (by omega)
  refine ⟨61, ?_⟩
  have hs : ∀ k, tilefarmlaw2_sane.f (k + 10) = some true := fun k => at_rounds tilefarmlaw2_sane.mono (by omega) sane_eq
  unfold tilefarmlaw2_RectPoints.f tilefarmgen_New.f
  simp only [Option.bind_some, hA, hB, ref_valid_eq, decide_eq_true_eq]
  by_cases ha : V a0 a1 a2 a3
  · by_cases hb : V b0 b1 b2 b3
    · rw [if_pos ha, decide_eq_true hb, Bool.not_true]
      obtain ⟨⟨c0, c1, c2, c3⟩, hc⟩ : ∃ c, ix a0 a1 a2 a3 b0 b1 b2 b3 = c := ⟨_, rfl⟩
      have mx1 := Int.emod_nonneg px (by omega : (14 : Int) ≠ 0)
      have mx2 := Int.emod_lt_of_pos px (by omega : (0 : Int) < 14)
      have my1 := Int.emod_nonneg py (by omega : (14 : Int) ≠ 0)
      have my2 := Int.emod_lt_of_pos py (by omega : (0 : Int) < 14)
      simp only [tilefarmlaw2_RectPoints.j0, if_neg Bool.false_ne_true, mod_eq _ 14 (by omega) (by omega), Option.bind_some, contains_eq, subtract_eq 50 ha hb hc]
      rw [wrap_in (n := px % 14 - 4) (by omega) (by omega), wrap_in (n := py % 14 - 4) (by omega) (by omega)]
      generalize px % 14 - 4 = x at *
      generalize py % 14 - 4 = y at *
      clear mx1 mx2 my1 my2
      have hcs := ix_spec hc ha hb
      have hi : In c0 c1 c2 c3 x y ↔ In a0 a1 a2 a3 x y ∧ In b0 b1 b2 b3 x y := by
        rcases hcs with h | h
        · obtain ⟨rfl, rfl, rfl, rfl, h⟩ := h
          exact ⟨fun h' => absurd h' (in_empty _ _), fun h' => by have h1 := h'.1.2; have h2 := h'.2.2; clear ha hb hA hB hc; omega⟩
        · have hV : V c0 c1 c2 c3 := .inr (by omega)
          refine ⟨fun h' => ?_, fun h' => ⟨hV, ?_⟩⟩
          · have := h'.2
            exact ⟨⟨ha, by clear ha hb hV hA hB hc; omega⟩, ⟨hb, by clear ha hb hV hA hB hc; omega⟩⟩
          · have h1 := h'.1.2
            have h2 := h'.2.2
            clear ha hb hV hA hB hc h'; omega
      have key : ∀ xs : List S26, xs.length ≤ 10 → (cnt xs x y = if In a0 a1 a2 a3 x y ∧ ¬ In b0 b1 b2 b3 x y then 1 else 0) →
          tilefarmlaw2_RectPoints.l0 60 x y (decide (In a0 a1 a2 a3 x y)) (decide (In b0 b1 b2 b3 x y)) xs 0 0 a0 a1 a2 a3 b0 b1 b2 b3 = some true := by
        intro xs hx hcnt
        refine cnt_loop xs (by omega) x y _ _ a0 a1 a2 a3 b0 b1 b2 b3 true xs.length 60 0 0 (by omega) (by omega) (by omega) (by omega) ?_
        obtain ⟨m, hm⟩ : ∃ m, 60 - xs.length - 1 = (m + 15) + 3 := ⟨60 - xs.length - 19, by omega⟩
        rw [hm, List.drop_zero, hcnt]
        simp only [tilefarmlaw2_RectPoints.j2]
        have hi' := hi
        rw [show c0 = (ix a0 a1 a2 a3 b0 b1 b2 b3).1 by rw [hc], show c1 = (ix a0 a1 a2 a3 b0 b1 b2 b3).2.1 by rw [hc], show c2 = (ix a0 a1 a2 a3 b0 b1 b2 b3).2.2.1 by rw [hc], show c3 = (ix a0 a1 a2 a3 b0 b1 b2 b3).2.2.2 by rw [hc]] at hi'
        have hb' := and_not_dec (In a0 a1 a2 a3 x y) (In b0 b1 b2 b3 x y)
        rw [hb']
        by_cases h : In a0 a1 a2 a3 x y ∧ ¬ In b0 b1 b2 b3 x y
        · rw [decide_eq_true h, if_pos rfl, if_pos h]
          exact j3_true (m + 15) (hs _) ha hb hi' rfl
        · rw [decide_eq_false h, if_neg Bool.false_ne_true, if_neg h]
          exact j3_true (m + 15) (hs _) ha hb hi' rfl
      by_cases hz : a0 = 0 ∧ a1 = 0 ∧ a2 = 0 ∧ a3 = 0
      · rw [if_pos hz]
        refine key [] (by simp) ?_
        obtain ⟨rfl, rfl, rfl, rfl⟩ := hz
        rw [if_neg (fun h => in_empty _ _ h.1)]
        rfl
      · rw [if_neg hz]
        by_cases hy : c0 = 0 ∧ c1 = 0 ∧ c2 = 0 ∧ c3 = 0
        · rw [if_pos hy]
          obtain ⟨rfl, rfl, rfl, rfl⟩ := hy
          refine key _ (by simp) ?_
          have h1 : ¬ (In a0 a1 a2 a3 x y ∧ In b0 b1 b2 b3 x y) := fun h => in_empty _ _ (hi.2 h)
          by_cases g : In a0 a1 a2 a3 x y
          · rw [if_pos ⟨g, fun h => h1 ⟨g, h⟩⟩]
            simp only [cnt, List.countP_cons, List.countP_nil, inB_iff, if_pos g, Nat.zero_add]
          · rw [if_neg (fun h => g h.1)]
            simp only [cnt, List.countP_cons, List.countP_nil, inB_iff, if_neg g, Nat.zero_add]
        · rw [if_neg hy]
          obtain ⟨h0, h1, h2, h3, h4, h5⟩ := ix_inside hcs hy
          have ha' : -1048576 ≤ a0 ∧ a2 ≤ 1048576 ∧ -1048576 ≤ a1 ∧ a3 ≤ 1048576 := V_range ha
          clear hcs hy hz ha hb hA hB hs1 hs2 hl hl8
          refine key _ (Nat.le_trans (List.length_filter_le _ _) (by simp [cutL])) ?_
          rw [parts_cnt ha' h0 h1 h2 h3 h4 h5]
          have e1 := in_iff (a := a0) (b := a1) (c := a2) (d := a3) (x := x) (y := y) (by omega)
          have e2 := in_iff (a := c0) (b := c1) (c := c2) (d := c3) (x := x) (y := y) (by omega)
          by_cases g : In a0 a1 a2 a3 x y
          · by_cases g2 : In b0 b1 b2 b3 x y
            · rw [if_neg (fun h => h.2 (e2.1 (hi.2 ⟨g, g2⟩))), if_neg (fun h => h.2 g2)]
            · rw [if_pos ⟨e1.1 g, fun h => g2 (hi.1 (e2.2 h)).2⟩, if_pos ⟨g, g2⟩]
          · rw [if_neg (fun h => g (e1.2 h.1)), if_neg (fun h => g h.1)]
    · rw [if_pos ha, decide_eq_false hb, Bool.not_false]
      simp only [tilefarmlaw2_RectPoints.j0, if_true, hs 50, Option.bind_some]
  · rw [if_neg ha]
    simp only [tilefarmlaw2_RectPoints.j0, if_true, hs 50, Option.bind_some]


end Go.Proofs.Ytdkmgcckcimhfaa.Pure
namespace Go.Proofs.Ytdkmgcckcimhfaa
open Go.ChangeShapes Go.WideShapes
/-- The print's own word, under the name that the printed row uses. -/
theorem PrintWords.sized_ints {H : Type} {enc : TypeId × Value → H} {P : Program} {W : World} {base : Nat} {spare : Nat → Bool} {held : Bool} {t e : TypeId} {k : IntKind} {a : Option Addr} {len cap : Nat} {d : DataW H} {ps : List MemPlace} {ts : List TypeId} {ds : List (DataW H)} {j : Nat}
    (hsz : (DataW.weightsEach P ts ds).all (· ≤ reachBytes) = true) (ht : ts[j]? = some t) (hd : ds[j]? = some d) (hu : P.underlying t = some (.slice e)) (he : P.underlying e = some (.int k)) (hc : P.cellsOf e = 1) {B : Nat} (hB : P.bytesOf e = B)
    (h : DataW.Trod enc P W base spare held t (.slice a len cap) d ps) : len * B ≤ 140737488351232 :=
  Go.Proofs.YtdkmgcckcimhfaaW.PrintWords.sized_ints hsz ht hd hu he hc hB h
end Go.Proofs.Ytdkmgcckcimhfaa

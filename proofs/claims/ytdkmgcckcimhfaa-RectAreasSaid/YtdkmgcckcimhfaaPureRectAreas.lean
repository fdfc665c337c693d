/- The parts of a difference and the intersection have the area of the rectangle, and a rectangle is inside another one exactly if their difference is empty: for every tape, without a further condition. -/
import Derived.Test.YtdkmgcckcimhfaaPRectAreasx7
import Derived.Test.YtdkmgcckcimhfaaWSized
namespace Go.Proofs.Ytdkmgcckcimhfaa.Pure
open Go.RowKit Go.Proofs.Ytdkmgcckcimhfaa.PRectAreas Go.Proofs.YtdkmgcckcimhfaaW.PrintWords Go.Proofs.YtdkmgcckcimhfaaW.PrintLast Go.Proofs.YtdkmgcckcimhfaaW.PrintMore
set_option linter.unusedVariables false
set_option linter.unusedSimpArgs false

theorem wrap_in {n : Int} (h : -9223372036854775808 ≤ n) (h' : n ≤ 9223372036854775807) : wrap64 n = n := by unfold wrap64; omega

theorem tmod_emod (a n : Int) (h : 0 < n) : (0 ≤ Int.tmod a n ∧ Int.tmod a n = a % n) ∨ (Int.tmod a n < 0 ∧ Int.tmod a n + n = a % n) := by
  have h1 := Int.tmod_eq_emod (a := a) (b := n)
  have h2 := Int.emod_nonneg a (by omega : n ≠ 0)
  have h3 := Int.emod_lt_of_pos a h
  split at h1 <;> omega

theorem mod_eq (a n : Int) (h : 0 < n) (hn : n ≤ 4611686018427387904) : tilefarmgen_Mod.f a n = some (a % n) := by
  have h2 := Int.emod_nonneg a (by omega : n ≠ 0)
  have h3 := Int.emod_lt_of_pos a h
  unfold tilefarmgen_Mod.f
  rw [if_neg (by omega)]
  rcases tmod_emod a n h with ⟨h4, h5⟩ | ⟨h4, h5⟩
  · rw [if_neg (by omega), h5]
  · rw [if_pos h4, wrap_in (by omega) (by omega), h5]

theorem sd_true {p : Prop} [Decidable p] (h : p) : some true = some (decide p) := by rw [decide_eq_true h]
theorem sd_false {p : Prop} [Decidable p] (h : ¬ p) : some false = some (decide p) := by rw [decide_eq_false h]
theorem sd_iff {p q : Prop} [Decidable p] [Decidable q] (h : q ↔ p) : some (decide q) = some (decide p) := by rw [decide_eq_decide.2 h]

theorem mx_max (a b : Int) : mx a b = max a b := by unfold mx; omega
theorem mn_min (a b : Int) : mn a b = min a b := by unfold mn; omega

theorem mul_bd {x y B C : Int} (hx : 0 ≤ x) (hy : 0 ≤ y) (hxB : x ≤ B) (hyB : y ≤ C) : 0 ≤ x * y ∧ x * y ≤ B * C :=
  ⟨Int.mul_nonneg hx hy, Int.mul_le_mul hxB hyB hy (by omega)⟩

theorem dec_iff {p q : Prop} [Decidable p] [Decidable q] (h : p ↔ q) : decide p = decide q := decide_eq_decide.2 h
theorem and_not_dec (p q : Prop) [Decidable p] [Decidable q] : (decide p && !decide q) = decide (p ∧ ¬ q) := by
  by_cases hp : p <;> by_cases hq : q <;> simp [hp, hq]


theorem next_spec (l : List Int) (s n : Int) (hs : 0 ≤ s) (hl : l.length ≤ 4611686018427387904) (h : 0 < n) (hn : n ≤ 4611686018427387904) :
    ∃ r s', tilefarmgen_Tape_Next.f l s n = some (r, s') ∧ 0 ≤ r ∧ r < n ∧ 0 ≤ s' := by
  unfold tilefarmgen_Tape_Next.f
  rw [if_neg (by omega)]
  by_cases h1 : s ≥ (l.length : Int)
  · rw [if_pos h1]; exact ⟨_, _, rfl, by omega, by omega, hs⟩
  · have e1 : wrap64 (s + 1) = s + 1 := wrap_in (by omega) (by omega)
    have e2 : wrap64 (s + 1 - 1) = s := by rw [wrap_in (by omega) (by omega)]; omega
    rw [if_neg h1]
    simp only [e1, e2]
    rw [if_pos hs, if_pos (by omega), mod_eq _ _ h hn]
    exact ⟨_, _, rfl, Int.emod_nonneg _ (by omega), Int.emod_lt_of_pos _ h, by omega⟩


abbrev V (a b c d : Int) : Prop := (a = 0 ∧ b = 0 ∧ c = 0 ∧ d = 0) ∨ (-1048576 ≤ a ∧ a ≤ 1048576 ∧ -1048576 ≤ b ∧ b ≤ 1048576 ∧ -1048576 ≤ c ∧ c ≤ 1048576 ∧ -1048576 ≤ d ∧ d ≤ 1048576 ∧ a < c ∧ b < d)

theorem empty_eq (a b c d : Int) : rect_Empty.f a b c d = some (decide (a = 0 ∧ b = 0 ∧ c = 0 ∧ d = 0)) := by
  unfold rect_Empty.f
  congr 1
  rw [Bool.eq_iff_iff]
  simp

theorem coord_eq (a : Int) : rect_coord.f a = some (decide (-1048576 ≤ a ∧ a ≤ 1048576)) := by
  unfold rect_coord.f
  split <;> congr 1 <;> rw [Bool.eq_iff_iff] <;> simp <;> omega

theorem valid_eq (a b c d : Int) : rect_Valid.f a b c d = some (decide (V a b c d)) := by
  unfold rect_Valid.f
  simp only [empty_eq, coord_eq, Option.bind_some, decide_eq_true_eq]
  repeat' split
  all_goals first | (refine sd_iff ?_; omega) | (refine sd_true ?_; omega) | (refine sd_false ?_; omega)

theorem ref_coord_eq (a : Int) : tilefarmref2_coord.f a = some (decide (-1048576 ≤ a ∧ a ≤ 1048576)) := by
  unfold tilefarmref2_coord.f
  split <;> congr 1 <;> rw [Bool.eq_iff_iff] <;> simp <;> omega

theorem ref_valid_eq (a b c d : Int) : tilefarmref2_Valid.f a b c d = some (decide (V a b c d)) := by
  unfold tilefarmref2_Valid.f
  simp only [ref_coord_eq, Option.bind_some, decide_eq_true_eq, V, Bool.and_eq_true, beq_iff_eq]
  repeat' split
  all_goals first | (refine sd_iff ?_; omega) | (refine sd_true ?_; omega) | (refine sd_false ?_; omega)

def ix (a0 a1 a2 a3 b0 b1 b2 b3 : Int) : Int × Int × Int × Int :=
  if V a0 a1 a2 a3 ∧ V b0 b1 b2 b3 ∧ mx a0 b0 < mn a2 b2 ∧ mx a1 b1 < mn a3 b3 then (mx a0 b0, mx a1 b1, mn a2 b2, mn a3 b3) else (0, 0, 0, 0)

theorem intersect_eq (k : Nat) (a0 a1 a2 a3 b0 b1 b2 b3 : Int) : rect_Intersect.f (k + 1) a0 a1 a2 a3 b0 b1 b2 b3 = some (ix a0 a1 a2 a3 b0 b1 b2 b3) := by
  unfold rect_Intersect.f ix
  simp only [valid_eq, Option.bind_some, rect_Intersect.j0, decide_eq_true_eq, Bool.not_eq_true', decide_eq_false_iff_not, if_true]
  by_cases h1 : V a0 a1 a2 a3
  · by_cases h2 : V b0 b1 b2 b3
    · rw [if_pos h1, if_neg (fun h => h h2)]
      by_cases h3 : mx a0 b0 < mn a2 b2
      · by_cases h4 : mx a1 b1 < mn a3 b3
        · rw [if_neg (by omega), if_neg (by omega), if_pos ⟨h1, h2, h3, h4⟩]
        · rw [if_neg (by omega), if_pos (by omega), if_neg (fun h => h4 h.2.2.2)]
      · rw [if_pos (by omega), if_neg (fun h => h3 h.2.2.1)]
    · rw [if_pos h1, if_pos h2, if_neg (fun h => h2 h.2.1)]
  · rw [if_neg h1, if_neg (fun h => h1 h.1)]

theorem ix_spec {a0 a1 a2 a3 b0 b1 b2 b3 c0 c1 c2 c3 : Int} (hc : ix a0 a1 a2 a3 b0 b1 b2 b3 = (c0, c1, c2, c3)) (ha : V a0 a1 a2 a3) (hb : V b0 b1 b2 b3) :
    (c0 = 0 ∧ c1 = 0 ∧ c2 = 0 ∧ c3 = 0 ∧ (min a2 b2 ≤ max a0 b0 ∨ min a3 b3 ≤ max a1 b1)) ∨ (c0 = max a0 b0 ∧ c1 = max a1 b1 ∧ c2 = min a2 b2 ∧ c3 = min a3 b3 ∧ c0 < c2 ∧ c1 < c3) := by
  simp only [ix, mx_max, mn_min] at hc
  split at hc
  · next h =>
    simp only [Prod.mk.injEq] at hc
    exact .inr (by omega)
  · next h =>
    simp only [Prod.mk.injEq] at hc
    refine .inl ?_
    have : ¬ (max a0 b0 < min a2 b2 ∧ max a1 b1 < min a3 b3) := fun h' => h ⟨ha, hb, h'⟩
    omega

theorem ix_inside {a0 a1 a2 a3 b0 b1 b2 b3 c0 c1 c2 c3 : Int} (h : (c0 = 0 ∧ c1 = 0 ∧ c2 = 0 ∧ c3 = 0 ∧ (min a2 b2 ≤ max a0 b0 ∨ min a3 b3 ≤ max a1 b1)) ∨ (c0 = max a0 b0 ∧ c1 = max a1 b1 ∧ c2 = min a2 b2 ∧ c3 = min a3 b3 ∧ c0 < c2 ∧ c1 < c3))
    (hy : ¬ (c0 = 0 ∧ c1 = 0 ∧ c2 = 0 ∧ c3 = 0)) : a0 ≤ c0 ∧ c0 < c2 ∧ c2 ≤ a2 ∧ a1 ≤ c1 ∧ c1 < c3 ∧ c3 ≤ a3 := by
  rcases h with h | h
  · exact absurd ⟨h.1, h.2.1, h.2.2.1, h.2.2.2.1⟩ hy
  · omega

theorem V_range {a b c d : Int} (h : V a b c d) : -1048576 ≤ a ∧ c ≤ 1048576 ∧ -1048576 ≤ b ∧ d ≤ 1048576 := by omega
theorem V_mono {a b c d : Int} (h : V a b c d) : a ≤ c ∧ b ≤ d := by omega


def ar (r : S26) : Int := (r.f2 - r.f0) * (r.f3 - r.f1)

theorem area_eq {a0 a1 a2 a3 : Int} (h : V a0 a1 a2 a3) : rect_Area.f a0 a1 a2 a3 = some ((a2 - a0) * (a3 - a1)) ∧ 0 ≤ (a2 - a0) * (a3 - a1) ∧ (a2 - a0) * (a3 - a1) ≤ 4398046511104 := by
  have hb := mul_bd (x := a2 - a0) (y := a3 - a1) (B := 2097152) (C := 2097152) (by omega) (by omega) (by omega) (by omega)
  refine ⟨?_, hb.1, by omega⟩
  unfold rect_Area.f
  simp only [valid_eq, Option.bind_some, decide_eq_true_eq]
  rw [if_pos h, wrap_in (n := a2 - a0) (by omega) (by omega), wrap_in (n := a3 - a1) (by omega) (by omega), wrap_in (by omega) (by omega)]

def keep (r : S26) : Bool := decide (r.f0 < r.f2 ∧ r.f1 < r.f3)

theorem rd_drop (xs : List S26) (i : Nat) (h : i < xs.length) : xs.drop i = rd_T26 xs (i : Int) :: xs.drop (i + 1) := by
  rw [List.drop_eq_getElem_cons h]
  congr 1
  simp [rd_T26, h]

theorem sub_loop (xs : List S26) (hx : xs.length ≤ 1000) (d : Nat) : ∀ (k i : Nat) (acc : List S26), i + d = xs.length → d < k → acc.length + d ≤ 1000 →
    rect_Subtract.l0 k acc xs (xs.length : Int) (i : Int) = some (acc ++ (xs.drop i).filter keep) := by
  induction d with
  | zero =>
    intro k i acc hi hk ha
    obtain ⟨k, rfl⟩ : ∃ m, k = m + 1 := ⟨k - 1, by omega⟩
    simp only [rect_Subtract.l0]
    rw [if_neg (by omega), List.drop_of_length_le (by omega)]
    simp
  | succ d ih =>
    intro k i acc hi hk ha
    obtain ⟨k, rfl⟩ : ∃ m, k = m + 1 := ⟨k - 1, by omega⟩
    have e1 : wrap64 ((i : Int) + 1) = ((i + 1 : Nat) : Int) := by rw [wrap_in (by omega) (by omega)]; omega
    simp only [rect_Subtract.l0]
    rw [if_pos (by omega), if_pos (by omega), if_pos (by omega), rd_drop xs i (by omega), e1]
    by_cases h1 : (rd_T26 xs i).f0 < (rd_T26 xs i).f2
    · by_cases h2 : (rd_T26 xs i).f1 < (rd_T26 xs i).f3
      · rw [if_pos h1, if_pos h2, if_pos (by omega), ih k (i + 1) _ (by omega) (by omega) (by simp; omega)]
        simp [keep, h1, h2]
      · rw [if_pos h1, if_neg h2, ih k (i + 1) _ (by omega) (by omega) (by omega)]
        simp [keep, h2]
    · rw [if_neg h1, ih k (i + 1) _ (by omega) (by omega) (by omega)]
      simp [keep, h1]

/-- What is cut off `a` around `c`. -/
def cutL (a0 a1 a2 a3 c0 c1 c2 c3 : Int) : List S26 := [⟨a0, a1, a2, c1⟩, ⟨a0, c1, c0, c3⟩, ⟨c2, c1, a2, c3⟩, ⟨a0, c3, a2, a3⟩]

theorem subtract_eq {a0 a1 a2 a3 b0 b1 b2 b3 c0 c1 c2 c3 : Int} (k : Nat) (ha : V a0 a1 a2 a3) (hb : V b0 b1 b2 b3) (hc : ix a0 a1 a2 a3 b0 b1 b2 b3 = (c0, c1, c2, c3)) :
    rect_Subtract.f (k + 10) a0 a1 a2 a3 b0 b1 b2 b3 = some (if a0 = 0 ∧ a1 = 0 ∧ a2 = 0 ∧ a3 = 0 then [] else if c0 = 0 ∧ c1 = 0 ∧ c2 = 0 ∧ c3 = 0 then [⟨a0, a1, a2, a3⟩] else (cutL a0 a1 a2 a3 c0 c1 c2 c3).filter keep) := by
  unfold rect_Subtract.f
  have hl := sub_loop (cutL a0 a1 a2 a3 c0 c1 c2 c3) (by simp [cutL]) 4 (k + 9) 0 [] (by simp [cutL]) (by omega) (by simp)
  simp only [cutL, List.drop_zero, List.nil_append] at hl
  simp only [valid_eq, empty_eq, Option.bind_some, rect_Subtract.j0, intersect_eq, hc, decide_eq_true_eq, ha, hb, if_true, cutL]
  split
  · rfl
  · split
    · rfl
    · exact hl


theorem rect_spec (l : List Int) (s : Int) (hs : 0 ≤ s) (hl : l.length ≤ 4611686018427387904) : ∃ a b c d s', tilefarmgen_Tape_Rect.f l s = some (a, b, c, d, s') ∧ 0 ≤ s' := by
  obtain ⟨r1, s1, h1, h1a, h1b, h1c⟩ := next_spec l s 8 hs hl (by omega) (by omega)
  obtain ⟨r2, s2, h2, h2a, h2b, h2c⟩ := next_spec l s1 8 h1c hl (by omega) (by omega)
  obtain ⟨r3, s3, h3, h3a, h3b, h3c⟩ := next_spec l s2 6 h2c hl (by omega) (by omega)
  obtain ⟨r4, s4, h4, h4a, h4b, h4c⟩ := next_spec l s3 6 h3c hl (by omega) (by omega)
  obtain ⟨r5, s5, h5, h5a, h5b, h5c⟩ := next_spec l s4 14 h4c hl (by omega) (by omega)
  obtain ⟨r6, s6, h6, h6a, h6b, h6c⟩ := next_spec l s5 2 h5c hl (by omega) (by omega)
  obtain ⟨r7, s7, h7, h7a, h7b, h7c⟩ := next_spec l s6 2 h6c hl (by omega) (by omega)
  unfold tilefarmgen_Tape_Rect.f tilefarmgen_Tape_Pick.f
  simp only [h1, h2, h3, h4, h5, h6, h7, Option.bind_some, List.length_cons, List.length_nil, Nat.zero_add, Nat.reduceAdd, Int.cast_ofNat_Int, h6a, h6b, h7a, h7b, if_true]
  split
  · exact ⟨_, _, _, _, _, rfl, h5c⟩
  · split
    · exact ⟨_, _, _, _, _, rfl, h5c⟩
    · split
      · exact ⟨_, _, _, _, _, rfl, h7c⟩
      · exact ⟨_, _, _, _, _, rfl, h5c⟩


theorem sane_eq : tilefarmlaw2_sane.f 10 = some true := by decide +kernel

def sumAr (l : List S26) : Int := (l.map ar).sum

theorem sumAr_filter (l : List S26) (h : ∀ r ∈ l, r.f0 = r.f2 ∨ r.f1 = r.f3 ∨ keep r = true) : sumAr (l.filter keep) = sumAr l := by
  induction l with
  | nil => rfl
  | cons r l ih =>
    have ih := ih (fun r hr => h r (List.mem_cons_of_mem _ hr))
    unfold sumAr at ih ⊢
    by_cases hk : keep r = true
    · simp [hk, ih]
    · have h0 : ar r = 0 := by
        unfold ar
        rcases h r (List.mem_cons_self) with h | h | h
        · rw [h]; simp
        · rw [h]; simp
        · exact absurd h hk
      simp [hk, ih, h0]

theorem area_loop (xs : List S26) (hx : xs.length ≤ 1000) (hv : ∀ r ∈ xs, V r.f0 r.f1 r.f2 r.f3) (a0 a1 a2 a3 b0 b1 b2 b3 : Int) (ha : V a0 a1 a2 a3) (hb : V b0 b1 b2 b3) (d : Nat) :
    ∀ (k i : Nat) (n : Int), i + d = xs.length → d + 20 < k → 0 ≤ n → n ≤ 4398046511104 * (1000 - d) →
    tilefarmlaw2_RectAreas.l0 k xs n (i : Int) a0 a1 a2 a3 b0 b1 b2 b3 = some (decide (n + sumAr (xs.drop i) = (a2 - a0) * (a3 - a1)) && (decide (ix a0 a1 a2 a3 b0 b1 b2 b3 = (a0, a1, a2, a3)) == decide (xs.length = 0))) := by
  induction d with
  | zero =>
    intro k i n hi hk h0 hn
    obtain ⟨k, rfl⟩ : ∃ m, k = (m + 10) + 1 := ⟨k - 11, by omega⟩
    have hs : tilefarmlaw2_sane.f (k + 10) = some true := at_rounds tilefarmlaw2_sane.mono (by omega) sane_eq
    simp only [tilefarmlaw2_RectAreas.l0]
    rw [if_neg (by omega), List.drop_of_length_le (by omega), (area_eq ha).1]
    simp only [Option.bind_some, hs, rect_Inside.f, valid_eq, decide_eq_true_eq, ha, hb, if_true, intersect_eq]
    have e : ∀ (p : Int × Int × Int × Int), (p.1 == a0 && (p.2.1 == a1 && (p.2.2.1 == a2 && p.2.2.2 == a3))) = decide (p = (a0, a1, a2, a3)) := by
      intro ⟨p0, p1, p2, p3⟩
      rw [Bool.eq_iff_iff]
      simp
    have e2 : ((xs.length : Int) == 0) = decide (xs.length = 0) := by
      rw [Bool.eq_iff_iff]
      simp
    simp only [e, e2, sumAr, List.map_nil, List.sum_nil, Int.add_zero]
    by_cases h1 : n = (a2 - a0) * (a3 - a1)
    · rw [if_pos h1, decide_eq_true h1, Bool.true_and]
      split
      · next h => rw [h]
      · next h => rw [Bool.not_eq_true] at h; rw [h]
    · rw [if_neg h1, decide_eq_false h1, Bool.false_and]
  | succ d ih =>
    intro k i n hi hk h0 hn
    obtain ⟨k, rfl⟩ : ∃ m, k = m + 1 := ⟨k - 1, by omega⟩
    have e1 : wrap64 ((i : Int) + 1) = ((i + 1 : Nat) : Int) := by rw [wrap_in (by omega) (by omega)]; omega
    have hm : rd_T26 xs (i : Int) ∈ xs := by
      have : i < xs.length := by omega
      simp [rd_T26, this]
    have hv1 := hv _ hm
    obtain ⟨g1, g2, g3⟩ := area_eq hv1
    simp only [tilefarmlaw2_RectAreas.l0]
    rw [if_pos (by omega), if_pos (by omega), g1]
    simp only [Option.bind_some]
    rw [e1, wrap_in (by omega) (by omega), ih k (i + 1) _ (by omega) (by omega) (by omega) (by omega), rd_drop xs i (by omega)]
    simp only [sumAr, List.map_cons, List.sum_cons, ar, Int.add_assoc]

theorem parts_sum {a0 a1 a2 a3 c0 c1 c2 c3 : Int} (h0 : a0 ≤ c0) (h1 : c0 < c2) (h2 : c2 ≤ a2) (h3 : a1 ≤ c1) (h4 : c1 < c3) (h5 : c3 ≤ a3) :
    (c2 - c0) * (c3 - c1) + sumAr ((cutL a0 a1 a2 a3 c0 c1 c2 c3).filter keep) = (a2 - a0) * (a3 - a1) := by
  rw [sumAr_filter]
  · simp only [cutL, sumAr, ar, List.map_cons, List.map_nil, List.sum_cons, List.sum_nil]
    grind
  · intro r hr
    simp only [cutL, List.mem_cons, List.not_mem_nil, or_false] at hr
    simp only [keep, decide_eq_true_eq]
    rcases hr with rfl | rfl | rfl | rfl <;> simp only <;> omega

theorem parts_none {a0 a1 a2 a3 c0 c1 c2 c3 : Int} (h0 : a0 ≤ c0) (h1 : c0 < c2) (h2 : c2 ≤ a2) (h3 : a1 ≤ c1) (h4 : c1 < c3) (h5 : c3 ≤ a3) :
    ((cutL a0 a1 a2 a3 c0 c1 c2 c3).filter keep).length = 0 ↔ c0 = a0 ∧ c1 = a1 ∧ c2 = a2 ∧ c3 = a3 := by
  rw [List.length_eq_zero_iff, List.filter_eq_nil_iff]
  simp only [cutL, List.mem_cons, List.not_mem_nil, or_false, forall_eq_or_imp, forall_eq, keep, decide_eq_true_eq]
  omega

theorem parts_valid {a0 a1 a2 a3 c0 c1 c2 c3 : Int} (ha : V a0 a1 a2 a3) (h0 : a0 ≤ c0) (h1 : c0 < c2) (h2 : c2 ≤ a2) (h3 : a1 ≤ c1) (h4 : c1 < c3) (h5 : c3 ≤ a3) :
    ∀ r ∈ (cutL a0 a1 a2 a3 c0 c1 c2 c3).filter keep, V r.f0 r.f1 r.f2 r.f3 := by
  intro r hr
  rw [List.mem_filter] at hr
  obtain ⟨hr, hk⟩ := hr
  simp only [cutL, List.mem_cons, List.not_mem_nil, or_false] at hr
  simp only [keep, decide_eq_true_eq] at hk
  refine .inr ?_
  rcases hr with rfl | rfl | rfl | rfl <;> simp only at hk ⊢ <;> omega

theorem j0_true {k : Nat} (hs : tilefarmlaw2_sane.f k = some true) (a0 a1 a2 a3 b0 b1 b2 b3 : Int) : tilefarmlaw2_RectAreas.j0 (k + 1) true a0 a1 a2 a3 b0 b1 b2 b3 = some true := by
  simp only [tilefarmlaw2_RectAreas.j0, if_true, hs, Option.bind_some]

theorem RectAreas : tilefarmlaw2_RectAreas.Pure := by
  intro l hl hl8 _
  obtain ⟨a0, a1, a2, a3, s1, hA, hs1⟩ := rect_spec l 0 (by omega) (by omega)
  obtain ⟨b0, b1, b2, b3, s2, hB, hs2⟩ := rect_spec l s1 hs1 (by omega)
  refine ⟨61, ?_⟩
  have hs : tilefarmlaw2_sane.f 60 = some true := at_rounds tilefarmlaw2_sane.mono (by omega) sane_eq
  unfold tilefarmlaw2_RectAreas.f tilefarmgen_New.f
  simp only [Option.bind_some, hA, hB, ref_valid_eq, decide_eq_true_eq]
  by_cases ha : V a0 a1 a2 a3
  · by_cases hb : V b0 b1 b2 b3
    · rw [if_pos ha, decide_eq_true hb]
      obtain ⟨⟨c0, c1, c2, c3⟩, hc⟩ : ∃ c, ix a0 a1 a2 a3 b0 b1 b2 b3 = c := ⟨_, rfl⟩
      simp only [tilefarmlaw2_RectAreas.j0, Bool.not_true, if_neg Bool.false_ne_true, subtract_eq 50 ha hb hc, intersect_eq, hc, Option.bind_some]
      have hcs := ix_spec hc ha hb
      have hV : V c0 c1 c2 c3 := by omega
      obtain ⟨g1, g2, g3⟩ := area_eq hV
      rw [g1]
      simp only [Option.bind_some]
      have hL : ∀ xs : List S26, xs.length ≤ 10 → (∀ r ∈ xs, V r.f0 r.f1 r.f2 r.f3) → _ := fun xs hx hv =>
        area_loop xs (by omega) hv a0 a1 a2 a3 b0 b1 b2 b3 ha hb xs.length 60 0 ((c2 - c0) * (c3 - c1)) (by omega) (by omega) (by omega) (by omega)
      simp only [Int.cast_ofNat_Int, List.drop_zero, hc] at hL
      by_cases hz : a0 = 0 ∧ a1 = 0 ∧ a2 = 0 ∧ a3 = 0
      · rw [if_pos hz, hL _ (by simp) (by simp)]
        obtain ⟨rfl, rfl, rfl, rfl⟩ := hz
        obtain ⟨rfl, rfl, rfl, rfl⟩ : c0 = 0 ∧ c1 = 0 ∧ c2 = 0 ∧ c3 = 0 := by omega
        simp [sumAr]
      · rw [if_neg hz]
        by_cases hy : c0 = 0 ∧ c1 = 0 ∧ c2 = 0 ∧ c3 = 0
        · rw [if_pos hy, hL _ (by simp) (by simp only [List.mem_singleton, forall_eq]; exact ha)]
          obtain ⟨rfl, rfl, rfl, rfl⟩ := hy
          have hz' : ¬ ((0, 0, 0, 0) = (a0, a1, a2, a3)) := by simp only [Prod.mk.injEq]; omega
          simp [sumAr, ar, -Prod.mk.injEq, hz']
        · obtain ⟨h0, h1, h2, h3, h4, h5⟩ := ix_inside hcs hy
          have e3 : decide (((cutL a0 a1 a2 a3 c0 c1 c2 c3).filter keep).length = 0) = decide ((c0, c1, c2, c3) = (a0, a1, a2, a3)) := by
            rw [decide_eq_decide, parts_none h0 h1 h2 h3 h4 h5]
            simp only [Prod.mk.injEq]
          rw [if_neg hy, hL _ (Nat.le_trans (List.length_filter_le _ _) (by simp [cutL])) (parts_valid ha h0 h1 h2 h3 h4 h5), decide_eq_true (parts_sum h0 h1 h2 h3 h4 h5), e3]
          rw [Bool.true_and, beq_self_eq_true]
    · rw [if_pos ha, decide_eq_false hb]
      exact j0_true hs ..
  · rw [if_neg ha]
    exact j0_true hs ..


end Go.Proofs.Ytdkmgcckcimhfaa.Pure
namespace Go.Proofs.Ytdkmgcckcimhfaa
open Go.ChangeShapes Go.WideShapes
/-- The print's own word, under the name that the printed row uses. -/
theorem PrintWords.sized_ints {H : Type} {enc : TypeId × Value → H} {P : Program} {W : World} {base : Nat} {spare : Nat → Bool} {held : Bool} {t e : TypeId} {k : IntKind} {a : Option Addr} {len cap : Nat} {d : DataW H} {ps : List MemPlace} {ts : List TypeId} {ds : List (DataW H)} {j : Nat}
    (hsz : (DataW.weightsEach P ts ds).all (· ≤ reachBytes) = true) (ht : ts[j]? = some t) (hd : ds[j]? = some d) (hu : P.underlying t = some (.slice e)) (he : P.underlying e = some (.int k)) (hc : P.cellsOf e = 1) {B : Nat} (hB : P.bytesOf e = B)
    (h : DataW.Trod enc P W base spare held t (.slice a len cap) d ps) : len * B ≤ 140737488351232 :=
  Go.Proofs.YtdkmgcckcimhfaaW.PrintWords.sized_ints hsz ht hd hu he hc hB h
end Go.Proofs.Ytdkmgcckcimhfaa

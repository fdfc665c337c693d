/- Counts, tiles, the tiles of points and those that touch rectangles are as in the reference: for every tape and for arbitrary numbers and rectangles. -/
import Derived.Test.YtikpmojofdndnaaPGridTilesx8
import Derived.Test.YtikpmojofdndnaaWSized
namespace Go.Proofs.Ytikpmojofdndnaa.Pure
open Go.RowKit Go.Proofs.Ytikpmojofdndnaa.PGridTiles Go.Proofs.YtikpmojofdndnaaW.PrintWords Go.Proofs.YtikpmojofdndnaaW.PrintLast Go.Proofs.YtikpmojofdndnaaW.PrintMore
set_option linter.unusedVariables false
set_option linter.unusedSimpArgs false

theorem wrap_in {n : Int} (h : -9223372036854775808 ≤ n) (h' : n ≤ 9223372036854775807) : wrap64 n = n := by unfold wrap64; omega

theorem tmod_emod (a n : Int) (h : 0 < n) : (0 ≤ Int.tmod a n ∧ Int.tmod a n = a % n) ∨ (Int.tmod a n < 0 ∧ Int.tmod a n + n = a % n) := by
  have h1 := Int.tmod_eq_emod (a := a) (b := n)
  have h2 := Int.emod_nonneg a (by omega : n ≠ 0)
  have h3 := Int.emod_lt_of_pos a h
  split at h1 <;> omega

theorem mod_eq (a n : Int) (h : 0 < n) (hn : n ≤ 4611686018427387904) : tilefarmgen_Mod.f a n = some (a % n) := by
  have h2 := Int.emod_nonneg a (by omega : n ≠ 0)
  have h3 := Int.emod_lt_of_pos a h
  unfold tilefarmgen_Mod.f
  rw [if_neg (by omega)]
  rcases tmod_emod a n h with ⟨h4, h5⟩ | ⟨h4, h5⟩
  · rw [if_neg (by omega), h5]
  · rw [if_pos h4, wrap_in (by omega) (by omega), h5]

theorem sd_true {p : Prop} [Decidable p] (h : p) : some true = some (decide p) := by rw [decide_eq_true h]
theorem sd_false {p : Prop} [Decidable p] (h : ¬ p) : some false = some (decide p) := by rw [decide_eq_false h]
theorem sd_iff {p q : Prop} [Decidable p] [Decidable q] (h : q ↔ p) : some (decide q) = some (decide p) := by rw [decide_eq_decide.2 h]

theorem mx_max (a b : Int) : mx a b = max a b := by unfold mx; omega
theorem mn_min (a b : Int) : mn a b = min a b := by unfold mn; omega

theorem mul_bd {x y B C : Int} (hx : 0 ≤ x) (hy : 0 ≤ y) (hxB : x ≤ B) (hyB : y ≤ C) : 0 ≤ x * y ∧ x * y ≤ B * C :=
  ⟨Int.mul_nonneg hx hy, Int.mul_le_mul hxB hyB hy (by omega)⟩

theorem dec_iff {p q : Prop} [Decidable p] [Decidable q] (h : p ↔ q) : decide p = decide q := decide_eq_decide.2 h
theorem and_not_dec (p q : Prop) [Decidable p] [Decidable q] : (decide p && !decide q) = decide (p ∧ ¬ q) := by
  by_cases hp : p <;> by_cases hq : q <;> simp [hp, hq]

theorem wrap64_range (n : Int) : -9223372036854775808 ≤ wrap64 n ∧ wrap64 n ≤ 9223372036854775807 := by unfold wrap64; omega

theorem wf_range {n : Int} (h : (Lit.int .i64 n).wf = true) : -9223372036854775808 ≤ n ∧ n ≤ 9223372036854775807 := by
  simp only [Lit.wf, IntKind.min, IntKind.max, IntKind.signed, IntKind.bits, Bool.and_eq_true, decide_eq_true_eq, if_true] at h
  omega


theorem next_spec (l : List Int) (s n : Int) (hs : 0 ≤ s) (hl : l.length ≤ 4611686018427387904) (h : 0 < n) (hn : n ≤ 4611686018427387904) :
    ∃ r s', tilefarmgen_Tape_Next.f l s n = some (r, s') ∧ 0 ≤ r ∧ r < n ∧ 0 ≤ s' := by
  unfold tilefarmgen_Tape_Next.f
  rw [if_neg (by omega)]
  by_cases h1 : s ≥ (l.length : Int)
  · rw [if_pos h1]; exact ⟨_, _, rfl, by omega, by omega, hs⟩
  · have e1 : wrap64 (s + 1) = s + 1 := wrap_in (by omega) (by omega)
    have e2 : wrap64 (s + 1 - 1) = s := by rw [wrap_in (by omega) (by omega)]; omega
    rw [if_neg h1]
    simp only [e1, e2]
    rw [if_pos hs, if_pos (by omega), mod_eq _ _ h hn]
    exact ⟨_, _, rfl, Int.emod_nonneg _ (by omega), Int.emod_lt_of_pos _ h, by omega⟩


abbrev V (a b c d : Int) : Prop := (a = 0 ∧ b = 0 ∧ c = 0 ∧ d = 0) ∨ (-1048576 ≤ a ∧ a ≤ 1048576 ∧ -1048576 ≤ b ∧ b ≤ 1048576 ∧ -1048576 ≤ c ∧ c ≤ 1048576 ∧ -1048576 ≤ d ∧ d ≤ 1048576 ∧ a < c ∧ b < d)

theorem empty_eq (a b c d : Int) : rect_Empty.f a b c d = some (decide (a = 0 ∧ b = 0 ∧ c = 0 ∧ d = 0)) := by
  unfold rect_Empty.f
  congr 1
  rw [Bool.eq_iff_iff]
  simp

theorem coord_eq (a : Int) : rect_coord.f a = some (decide (-1048576 ≤ a ∧ a ≤ 1048576)) := by
  unfold rect_coord.f
  split <;> congr 1 <;> rw [Bool.eq_iff_iff] <;> simp <;> omega

theorem valid_eq (a b c d : Int) : rect_Valid.f a b c d = some (decide (V a b c d)) := by
  unfold rect_Valid.f
  simp only [empty_eq, coord_eq, Option.bind_some, decide_eq_true_eq]
  repeat' split
  all_goals first | (refine sd_iff ?_; omega) | (refine sd_true ?_; omega) | (refine sd_false ?_; omega)

theorem ref_coord_eq (a : Int) : tilefarmref2_coord.f a = some (decide (-1048576 ≤ a ∧ a ≤ 1048576)) := by
  unfold tilefarmref2_coord.f
  split <;> congr 1 <;> rw [Bool.eq_iff_iff] <;> simp <;> omega

theorem ref_valid_eq (a b c d : Int) : tilefarmref2_Valid.f a b c d = some (decide (V a b c d)) := by
  unfold tilefarmref2_Valid.f
  simp only [ref_coord_eq, Option.bind_some, decide_eq_true_eq, V, Bool.and_eq_true, beq_iff_eq]
  repeat' split
  all_goals first | (refine sd_iff ?_; omega) | (refine sd_true ?_; omega) | (refine sd_false ?_; omega)

def ix (a0 a1 a2 a3 b0 b1 b2 b3 : Int) : Int × Int × Int × Int :=
  if V a0 a1 a2 a3 ∧ V b0 b1 b2 b3 ∧ mx a0 b0 < mn a2 b2 ∧ mx a1 b1 < mn a3 b3 then (mx a0 b0, mx a1 b1, mn a2 b2, mn a3 b3) else (0, 0, 0, 0)

theorem intersect_eq (k : Nat) (a0 a1 a2 a3 b0 b1 b2 b3 : Int) : rect_Intersect.f (k + 1) a0 a1 a2 a3 b0 b1 b2 b3 = some (ix a0 a1 a2 a3 b0 b1 b2 b3) := by
  unfold rect_Intersect.f ix
  simp only [valid_eq, Option.bind_some, rect_Intersect.j0, decide_eq_true_eq, Bool.not_eq_true', decide_eq_false_iff_not, if_true]
  by_cases h1 : V a0 a1 a2 a3
  · by_cases h2 : V b0 b1 b2 b3
    · rw [if_pos h1, if_neg (fun h => h h2)]
      by_cases h3 : mx a0 b0 < mn a2 b2
      · by_cases h4 : mx a1 b1 < mn a3 b3
        · rw [if_neg (by omega), if_neg (by omega), if_pos ⟨h1, h2, h3, h4⟩]
        · rw [if_neg (by omega), if_pos (by omega), if_neg (fun h => h4 h.2.2.2)]
      · rw [if_pos (by omega), if_neg (fun h => h3 h.2.2.1)]
    · rw [if_pos h1, if_pos h2, if_neg (fun h => h2 h.2.1)]
  · rw [if_neg h1, if_neg (fun h => h1 h.1)]

theorem ix_spec {a0 a1 a2 a3 b0 b1 b2 b3 c0 c1 c2 c3 : Int} (hc : ix a0 a1 a2 a3 b0 b1 b2 b3 = (c0, c1, c2, c3)) (ha : V a0 a1 a2 a3) (hb : V b0 b1 b2 b3) :
    (c0 = 0 ∧ c1 = 0 ∧ c2 = 0 ∧ c3 = 0 ∧ (min a2 b2 ≤ max a0 b0 ∨ min a3 b3 ≤ max a1 b1)) ∨ (c0 = max a0 b0 ∧ c1 = max a1 b1 ∧ c2 = min a2 b2 ∧ c3 = min a3 b3 ∧ c0 < c2 ∧ c1 < c3) := by
  simp only [ix, mx_max, mn_min] at hc
  split at hc
  · next h =>
    simp only [Prod.mk.injEq] at hc
    exact .inr (by omega)
  · next h =>
    simp only [Prod.mk.injEq] at hc
    refine .inl ?_
    have : ¬ (max a0 b0 < min a2 b2 ∧ max a1 b1 < min a3 b3) := fun h' => h ⟨ha, hb, h'⟩
    omega

theorem ix_inside {a0 a1 a2 a3 b0 b1 b2 b3 c0 c1 c2 c3 : Int} (h : (c0 = 0 ∧ c1 = 0 ∧ c2 = 0 ∧ c3 = 0 ∧ (min a2 b2 ≤ max a0 b0 ∨ min a3 b3 ≤ max a1 b1)) ∨ (c0 = max a0 b0 ∧ c1 = max a1 b1 ∧ c2 = min a2 b2 ∧ c3 = min a3 b3 ∧ c0 < c2 ∧ c1 < c3))
    (hy : ¬ (c0 = 0 ∧ c1 = 0 ∧ c2 = 0 ∧ c3 = 0)) : a0 ≤ c0 ∧ c0 < c2 ∧ c2 ≤ a2 ∧ a1 ≤ c1 ∧ c1 < c3 ∧ c3 ≤ a3 := by
  rcases h with h | h
  · exact absurd ⟨h.1, h.2.1, h.2.2.1, h.2.2.2.1⟩ hy
  · omega

theorem V_range {a b c d : Int} (h : V a b c d) : -1048576 ≤ a ∧ c ≤ 1048576 ∧ -1048576 ≤ b ∧ d ≤ 1048576 := by omega
theorem V_mono {a b c d : Int} (h : V a b c d) : a ≤ c ∧ b ≤ d := by omega


theorem rempty_eq (a b c d : Int) : tilefarmref2_Empty.f a b c d = some (decide (a = 0 ∧ b = 0 ∧ c = 0 ∧ d = 0)) := by
  unfold tilefarmref2_Empty.f
  congr 1
  rw [Bool.eq_iff_iff]
  simp


theorem rect_spec (l : List Int) (s : Int) (hs : 0 ≤ s) (hl : l.length ≤ 4611686018427387904) : ∃ a b c d s', tilefarmgen_Tape_Rect.f l s = some (a, b, c, d, s') ∧ 0 ≤ s' := by
  obtain ⟨r1, s1, h1, h1a, h1b, h1c⟩ := next_spec l s 8 hs hl (by omega) (by omega)
  obtain ⟨r2, s2, h2, h2a, h2b, h2c⟩ := next_spec l s1 8 h1c hl (by omega) (by omega)
  obtain ⟨r3, s3, h3, h3a, h3b, h3c⟩ := next_spec l s2 6 h2c hl (by omega) (by omega)
  obtain ⟨r4, s4, h4, h4a, h4b, h4c⟩ := next_spec l s3 6 h3c hl (by omega) (by omega)
  obtain ⟨r5, s5, h5, h5a, h5b, h5c⟩ := next_spec l s4 14 h4c hl (by omega) (by omega)
  obtain ⟨r6, s6, h6, h6a, h6b, h6c⟩ := next_spec l s5 2 h5c hl (by omega) (by omega)
  obtain ⟨r7, s7, h7, h7a, h7b, h7c⟩ := next_spec l s6 2 h6c hl (by omega) (by omega)
  unfold tilefarmgen_Tape_Rect.f tilefarmgen_Tape_Pick.f
  simp only [h1, h2, h3, h4, h5, h6, h7, Option.bind_some, List.length_cons, List.length_nil, Nat.zero_add, Nat.reduceAdd, Int.cast_ofNat_Int, h6a, h6b, h7a, h7b, if_true]
  split
  · exact ⟨_, _, _, _, _, rfl, h5c⟩
  · split
    · exact ⟨_, _, _, _, _, rfl, h5c⟩
    · split
      · exact ⟨_, _, _, _, _, rfl, h7c⟩
      · exact ⟨_, _, _, _, _, rfl, h5c⟩


/-- a / b, rounded up. -/
def cd (a b : Int) : Int := if a % b > 0 then a / b + 1 else a / b

theorem cd_spec {a b : Int} (ha : 1 ≤ a) (hb : 1 ≤ b) : 1 ≤ cd a b ∧ cd a b ≤ a ∧ (cd a b - 1) * b < a ∧ a ≤ cd a b * b := by
  have e := Int.mul_ediv_add_emod a b
  have g1 := Int.emod_nonneg a (by omega : b ≠ 0)
  have g2 := Int.emod_lt_of_pos a (by omega : 0 < b)
  have g3 : 0 ≤ a / b := Int.ediv_nonneg (by omega) (by omega)
  have g4 : a / b * 1 ≤ a / b * b := Int.mul_le_mul_of_nonneg_left hb g3
  have c : b * (a / b) = a / b * b := Int.mul_comm ..
  unfold cd
  split
  · next h =>
    have e2 : (a / b + 1) * b = a / b * b + b := by rw [Int.add_mul, Int.one_mul]
    have e3 : (a / b + 1 - 1) * b = a / b * b := by rw [Int.add_sub_cancel]
    refine ⟨by omega, ?_, by omega, by omega⟩
    by_cases q : b = 1
    · subst q; omega
    · have : a / b * 2 ≤ a / b * b := Int.mul_le_mul_of_nonneg_left (by omega) g3
      omega
  · next h =>
    have e3 : (a / b - 1) * b = a / b * b - b := by rw [Int.sub_mul, Int.one_mul]
    refine ⟨?_, by omega, by omega, by omega⟩
    rcases Int.lt_or_le (a / b) 1 with q | q
    · have : a / b = 0 := by omega
      rw [this] at e; omega
    · exact q

theorem ceil_eq {k : Nat} (hk : 0 < k) {a b : Int} (ha : 1 ≤ a) (ha2 : a ≤ 128) (hb : 1 ≤ b) : extent_Ceil.f k a b = some (cd a b) := by
  obtain ⟨k, rfl⟩ : ∃ n, k = n + 1 := ⟨k - 1, by omega⟩
  have hs := cd_spec ha hb
  have h1 : 0 ≤ a / b := Int.ediv_nonneg (by omega) (by omega)
  have h2 : a / b ≤ a := Int.ediv_le_self b (by omega)
  unfold extent_Ceil.f cd
  rw [if_neg (by omega), decide_eq_false (by omega)]
  simp only [extent_Ceil.j0, if_neg Bool.false_ne_true]
  rw [if_neg (by omega), Int.tmod_eq_emod_of_nonneg (by omega), Int.tdiv_eq_ediv_of_nonneg (by omega), wrap_in (n := a / b) (by omega) (by omega), wrap_in (n := a / b + 1) (by omega) (by omega)]
  split <;> rfl

abbrev Fine (w h tw th : Int) : Prop := 1 ≤ w ∧ w ≤ 128 ∧ 1 ≤ h ∧ h ≤ 128 ∧ 1 ≤ tw ∧ tw ≤ 64 ∧ 1 ≤ th ∧ th ≤ 64

theorem between_eq (a b : Int) : grid_between.f a b = some (decide (1 ≤ a ∧ a ≤ b)) := by
  unfold grid_between.f
  split
  · exact sd_iff (by omega)
  · exact sd_false (by omega)

theorem count_eq {k : Nat} (hk : 1 < k) (w h tw th : Int) : grid_Count.f k w h tw th = some (if Fine w h tw th then (cd w tw, cd h th) else (0, 0)) := by
  obtain ⟨k, rfl⟩ : ∃ n, k = n + 1 := ⟨k - 1, by omega⟩
  have hj : grid_Count.j0 (k + 1) w h tw th true = some (0, 0) := by simp only [grid_Count.j0, if_true]
  unfold grid_Count.f
  simp only [between_eq, Option.bind_some, decide_eq_true_eq]
  by_cases h1 : 1 ≤ w ∧ w ≤ 128
  · rw [if_pos h1]
    by_cases h2 : 1 ≤ h ∧ h ≤ 128
    · rw [if_pos h2]
      by_cases h3 : 1 ≤ tw ∧ tw ≤ 64
      · rw [if_pos h3]
        by_cases h4 : 1 ≤ th ∧ th ≤ 64
        · rw [decide_eq_true h4, if_pos ⟨h1.1, h1.2, h2.1, h2.2, h3.1, h3.2, h4⟩]
          simp only [grid_Count.j0, Bool.not_true, if_neg Bool.false_ne_true]
          rw [ceil_eq (by omega) h1.1 h1.2 h3.1, ceil_eq (by omega) h2.1 h2.2 h4.1]
          rfl
        · rw [decide_eq_false h4, if_neg (fun h => h4 h.2.2.2.2.2.2)]
          exact hj
      · rw [if_neg h3, if_neg (fun h => h3 ⟨h.2.2.2.2.1, h.2.2.2.2.2.1⟩)]
        exact hj
    · rw [if_neg h2, if_neg (fun h => h2 ⟨h.2.2.1, h.2.2.2.1⟩)]
      exact hj
  · rw [if_neg h1, if_neg (fun h => h1 ⟨h.1, h.2.1⟩)]
    exact hj

/-- A quotient within the count. -/
theorem div_lt_cd {x a b : Int} (ha : 1 ≤ a) (hb : 1 ≤ b) (h0 : 0 ≤ x) (h : x < a) : 0 ≤ x / b ∧ x / b < cd a b := by
  have hs := cd_spec ha hb
  refine ⟨Int.ediv_nonneg h0 (by omega), ?_⟩
  rw [Int.ediv_lt_iff_lt_mul (by omega)]
  omega

theorem mul_small {x y B C : Int} (hx : 0 ≤ x) (hy : 0 ≤ y) (hxB : x ≤ B) (hyB : y ≤ C) : 0 ≤ x * y ∧ x * y ≤ B * C := mul_bd hx hy hxB hyB

theorem of_eq {k : Nat} (hk : 1 < k) {w h tw th x y : Int} (hf : Fine w h tw th) (hx : 0 ≤ x) (hxw : x < w) (hy : 0 ≤ y) (hyh : y < h) :
    grid_Of.f k w h tw th x y = some (y / th * cd w tw + x / tw, true) := by
  have hc := cd_spec hf.1 hf.2.2.2.2.1
  have hdx := div_lt_cd (b := tw) hf.1 hf.2.2.2.2.1 hx hxw
  have hdy := div_lt_cd (b := th) hf.2.2.1 hf.2.2.2.2.2.2.1 hy hyh
  have hr := cd_spec hf.2.2.1 hf.2.2.2.2.2.2.1
  have hm := mul_bd (x := y / th) (y := cd w tw) (B := 128) (C := 128) hdy.1 (by omega) (by omega) (by omega)
  unfold grid_Of.f
  rw [count_eq hk, if_pos hf]
  simp only [Option.bind_some]
  rw [if_neg (by omega), if_neg (by omega), if_neg (by omega), if_neg (by omega), if_neg (by omega), if_neg (by omega), if_neg (by omega), Int.tdiv_eq_ediv_of_nonneg hy, Int.tdiv_eq_ediv_of_nonneg hx,
    wrap_in (n := y / th) (by omega) (by omega), wrap_in (n := x / tw) (by omega) (by omega), wrap_in (n := y / th * cd w tw) (by omega) (by omega), wrap_in (n := y / th * cd w tw + x / tw) (by omega) (by omega)]

/-- Row and column of a tile. -/
theorem row_col {i n m : Int} (hn : 1 ≤ n) (h0 : 0 ≤ i) (h : i < n * m) : 0 ≤ i % n ∧ i % n < n ∧ 0 ≤ i / n ∧ i / n < m :=
  ⟨Int.emod_nonneg i (by omega), Int.emod_lt_of_pos i (by omega), Int.ediv_nonneg h0 (by omega), by rw [Int.ediv_lt_iff_lt_mul (by omega), Int.mul_comm]; exact h⟩

/-- A tile begins inside of the plane. -/
theorem begin_lt {q a b : Int} (ha : 1 ≤ a) (hb : 1 ≤ b) (h0 : 0 ≤ q) (h : q < cd a b) : 0 ≤ q * b ∧ q * b < a := by
  have hs := cd_spec ha hb
  refine ⟨Int.mul_nonneg h0 (by omega), ?_⟩
  have : q * b ≤ (cd a b - 1) * b := Int.mul_le_mul_of_nonneg_right (by omega) (by omega)
  omega

theorem tile_eq {k : Nat} (hk : 1 < k) {w h tw th i : Int} (hf : Fine w h tw th) (h0 : 0 ≤ i) (hi : i < cd w tw * cd h th) :
    grid_Tile.f k w h tw th i = some (i % cd w tw * tw, i / cd w tw * th, min (i % cd w tw * tw + tw) w, min (i / cd w tw * th + th) h, true) := by
  have hc := cd_spec hf.1 hf.2.2.2.2.1
  have hr := cd_spec hf.2.2.1 hf.2.2.2.2.2.2.1
  have hm := mul_bd (x := cd w tw) (y := cd h th) (B := 128) (C := 128) (by omega) (by omega) (by omega) (by omega)
  obtain ⟨r1, r2, r3, r4⟩ := row_col hc.1 h0 hi
  have b1 := begin_lt hf.1 hf.2.2.2.2.1 r1 r2
  have b2 := begin_lt hf.2.2.1 hf.2.2.2.2.2.2.1 r3 r4
  unfold grid_Tile.f
  rw [count_eq hk, if_pos hf]
  simp only [Option.bind_some]
  rw [if_neg (by omega), wrap_in (n := cd w tw * cd h th) (by omega) (by omega), if_neg (by omega), if_neg (by omega), Int.tmod_eq_emod_of_nonneg h0, Int.tdiv_eq_ediv_of_nonneg h0,
    wrap_in (n := i / cd w tw) (by omega) (by omega), wrap_in (n := i % cd w tw * tw) (by omega) (by omega), wrap_in (n := i / cd w tw * th) (by omega) (by omega), wrap_in (n := i % cd w tw * tw + tw) (by omega) (by omega), wrap_in (n := i / cd w tw * th + th) (by omega) (by omega), mn_min, mn_min]

def Asc (l : List Int) : Prop := l.Pairwise (· < ·)

theorem asc_ext {a b : List Int} (ha : Asc a) (hb : Asc b) (h : ∀ v, v ∈ a ↔ v ∈ b) : a = b := by
  induction a generalizing b with
  | nil =>
    cases b with
    | nil => rfl
    | cons y b => exact absurd ((h y).2 List.mem_cons_self) (by simp)
  | cons x a ih =>
    cases b with
    | nil => exact absurd ((h x).1 List.mem_cons_self) (by simp)
    | cons y b =>
      unfold Asc at ha hb ih
      rw [List.pairwise_cons] at ha hb
      have hxy : x = y := by
        have h1 := (h x).1 List.mem_cons_self
        have h2 := (h y).2 List.mem_cons_self
        rw [List.mem_cons] at h1 h2
        rcases h1 with h1 | h1
        · exact h1
        · rcases h2 with h2 | h2
          · exact h2.symm
          · have := ha.1 _ h2; have := hb.1 _ h1; omega
      subst hxy
      rw [ih ha.2 hb.2 (fun v => ?_)]
      refine ⟨fun hv => ?_, fun hv => ?_⟩
      · have := (h v).1 (List.mem_cons_of_mem _ hv)
        rw [List.mem_cons] at this
        rcases this with e | e
        · have := ha.1 v hv; omega
        · exact e
      · have := (h v).2 (List.mem_cons_of_mem _ hv)
        rw [List.mem_cons] at this
        rcases this with e | e
        · have := hb.1 v hv; omega
        · exact e

theorem asc_snoc {l : List Int} {x : Int} (h : Asc l) (hx : ∀ v ∈ l, v < x) : Asc (l ++ [x]) := by
  unfold Asc at *
  rw [List.pairwise_append]
  exact ⟨h, by simp, fun a ha b hb => by rw [List.mem_singleton] at hb; subst hb; exact hx a ha⟩

/-- A tile and a range have a coordinate in common exactly if the tile is between those of the range's ends. -/
theorem hit_iff {q b a r0 r2 : Int} (hb : 1 ≤ b) (h0 : 0 ≤ q * b) (ha : q * b < a) :
    (max (q * b) r0 < min (min (q * b + b) a) r2) ↔ (max r0 0 < min r2 a ∧ max r0 0 / b ≤ q ∧ q ≤ (min r2 a - 1) / b) := by
  have e1 : max r0 0 / b < q + 1 ↔ max r0 0 < (q + 1) * b := Int.ediv_lt_iff_lt_mul (by omega)
  have e2 : q ≤ (min r2 a - 1) / b ↔ q * b ≤ min r2 a - 1 := Int.le_ediv_iff_mul_le (by omega)
  have e3 : (q + 1) * b = q * b + b := by rw [Int.add_mul, Int.one_mul]
  have e4 : max r0 0 / b ≤ q ↔ max r0 0 / b < q + 1 := by omega
  rw [e4, e1, e2, e3]
  omega

theorem touch_l1 (tw th n x0 x1 : Int) (c0 c1 c2 c3 : Int) (htw : tw ≠ 0) (ex1 : wrap64 (Int.tdiv (wrap64 (c2 - 1)) tw) = x1) (ex0 : wrap64 (Int.tdiv c0 tw) = x0) (hx : 0 ≤ x0 ∧ x1 < n ∧ n ≤ 128) (y : Int) (hy : 0 ≤ y) (hy2 : y ≤ 128) (d : Nat) :
    ∀ (k : Nat) (acc : List Int) (x : Int), x0 ≤ x → (x1 + 1 - x).toNat = d → d < k → acc.length + d ≤ 100000 → Asc acc → (∀ v ∈ acc, v < y * n + x) →
    ∃ L, Asc L ∧ L.length ≤ acc.length + d ∧ (∀ v, v ∈ L ↔ v ∈ acc ∨ ∃ xx, x ≤ xx ∧ xx ≤ x1 ∧ v = y * n + xx) ∧
      grid_Touching.l1 k tw th n acc y x c0 c1 c2 c3 = grid_Touching.l0 (k - d - 1) tw th n L (wrap64 (y + 1)) c0 c1 c2 c3 := by
  induction d with
  | zero =>
    intro k acc x hx0 hd hk hl ha hb
    obtain ⟨k, rfl⟩ : ∃ m, k = m + 1 := ⟨k - 1, by omega⟩
    refine ⟨acc, ha, by omega, fun v => ⟨.inl, fun h => h.elim id (fun ⟨xx, h1, h2, _⟩ => by omega)⟩, ?_⟩
    rw [grid_Touching.l1, if_neg htw, ex1, if_neg (by omega)]
    rfl
  | succ d ih =>
    intro k acc x hx0 hd hk hl ha hb
    obtain ⟨k, rfl⟩ : ∃ m, k = m + 1 := ⟨k - 1, by omega⟩
    have hm := mul_bd (x := y) (y := n) (B := 128) (C := 128) hy (by omega) hy2 (by omega)
    have hb' : ∀ v ∈ acc ++ [y * n + x], v < y * n + (x + 1) := by
      intro v hv
      rw [List.mem_append, List.mem_singleton] at hv
      rcases hv with hv | hv
      · have := hb v hv; omega
      · omega
    obtain ⟨L, h1, h2, h3, h4⟩ := ih k (acc ++ [y * n + x]) (x + 1) (by omega) (by omega) (by omega) (by simp; omega) (asc_snoc ha hb) hb'
    refine ⟨L, h1, by simp at h2; omega, fun v => ?_, ?_⟩
    · rw [h3, List.mem_append, List.mem_singleton]
      refine ⟨fun h => ?_, fun h => ?_⟩
      · rcases h with (h | h) | ⟨xx, g1, g2, g3⟩
        · exact .inl h
        · exact .inr ⟨x, by omega, by omega, h⟩
        · exact .inr ⟨xx, by omega, g2, g3⟩
      · rcases h with h | ⟨xx, g1, g2, g3⟩
        · exact .inl (.inl h)
        · by_cases q : xx = x
          · subst q; exact .inl (.inr g3)
          · exact .inr ⟨xx, by omega, g2, g3⟩
    · rw [grid_Touching.l1, if_neg htw, ex1, if_pos (by omega), if_pos (by omega), wrap_in (n := y * n) (by omega) (by omega), wrap_in (n := y * n + x) (by omega) (by omega), wrap_in (n := x + 1) (by omega) (by omega), h4, show k + 1 - (d + 1) - 1 = k - d - 1 by omega]

theorem touch_l0 (tw th n x0 x1 y1 : Int) (c0 c1 c2 c3 : Int) (htw : tw ≠ 0) (hth : th ≠ 0) (ex1 : wrap64 (Int.tdiv (wrap64 (c2 - 1)) tw) = x1) (ex0 : wrap64 (Int.tdiv c0 tw) = x0) (ey1 : wrap64 (Int.tdiv (wrap64 (c3 - 1)) th) = y1)
    (hx : 0 ≤ x0 ∧ x1 < n ∧ n ≤ 128) (hn : 1 ≤ n) (hy1 : y1 < 128) (d : Nat) :
    ∀ (k : Nat) (acc : List Int) (y : Int), 0 ≤ y → (y1 + 1 - y).toNat = d → 200 * d + 1 < k → acc.length + 130 * d ≤ 50000 → Asc acc → (∀ v ∈ acc, v < y * n) →
    ∃ L, Asc L ∧ (∀ v, v ∈ L ↔ v ∈ acc ∨ ∃ yy xx, y ≤ yy ∧ yy ≤ y1 ∧ x0 ≤ xx ∧ xx ≤ x1 ∧ v = yy * n + xx) ∧
      grid_Touching.l0 k tw th n acc y c0 c1 c2 c3 = some L := by
  induction d with
  | zero =>
    intro k acc y hy0 hd hk hl ha hb
    obtain ⟨k, rfl⟩ : ∃ m, k = m + 1 := ⟨k - 1, by omega⟩
    refine ⟨acc, ha, fun v => ⟨.inl, fun h => h.elim id (fun ⟨yy, xx, h1, h2, _⟩ => by omega)⟩, ?_⟩
    rw [grid_Touching.l0, if_neg hth, ey1, if_neg (by omega)]
  | succ d ih =>
    intro k acc y hy0 hd hk hl ha hb
    obtain ⟨k, rfl⟩ : ∃ m, k = m + 1 := ⟨k - 1, by omega⟩
    have hm : y * n + n = (y + 1) * n := by rw [Int.add_mul, Int.one_mul]
    obtain ⟨L, h1, h2, h3, h4⟩ := touch_l1 tw th n x0 x1 c0 c1 c2 c3 htw ex1 ex0 hx y hy0 (by omega) (x1 + 1 - x0).toNat k acc x0 (Int.le_refl _) rfl (by omega) (by omega) ha (fun v hv => by have := hb v hv; omega)
    have hb' : ∀ v ∈ L, v < (y + 1) * n := by
      intro v hv
      rcases (h3 v).1 hv with hv | ⟨xx, g1, g2, g3⟩
      · have := hb v hv; omega
      · omega
    obtain ⟨L', k1, k2, k3⟩ := ih (k - (x1 + 1 - x0).toNat - 1) L (y + 1) (by omega) (by omega) (by omega) (by omega) h1 hb'
    refine ⟨L', k1, fun v => ?_, ?_⟩
    · rw [k2, h3]
      refine ⟨fun h => ?_, fun h => ?_⟩
      · rcases h with (h | ⟨xx, g1, g2, g3⟩) | ⟨yy, xx, g1, g2, g3, g4, g5⟩
        · exact .inl h
        · exact .inr ⟨y, xx, by omega, by omega, g1, g2, g3⟩
        · exact .inr ⟨yy, xx, by omega, g2, g3, g4, g5⟩
      · rcases h with h | ⟨yy, xx, g1, g2, g3, g4, g5⟩
        · exact .inl (.inl h)
        · by_cases q : yy = y
          · subst q; exact .inl (.inr ⟨xx, g3, g4, g5⟩)
          · exact .inr ⟨yy, xx, by omega, g2, g3, g4, g5⟩
    · rw [grid_Touching.l0, if_neg hth, ey1, if_pos (by omega), if_neg htw, ex0, h4, wrap_in (n := y + 1) (by omega) (by omega), k3]

/-- Is tile v one that has a point in common with the rectangle? -/
def Hit (w h tw th r0 r1 r2 r3 v : Int) : Prop :=
  0 ≤ v ∧ v < cd w tw * cd h th ∧ V r0 r1 r2 r3 ∧ max (v % cd w tw * tw) r0 < min (min (v % cd w tw * tw + tw) w) r2 ∧ max (v / cd w tw * th) r1 < min (min (v / cd w tw * th + th) h) r3

theorem touching_spec {w h tw th r0 r1 r2 r3 : Int} (hf : Fine w h tw th) : ∃ L, Asc L ∧ (∀ v, v ∈ L ↔ Hit w h tw th r0 r1 r2 r3 v) ∧ ∀ k, 30000 < k → grid_Touching.f k w h tw th r0 r1 r2 r3 = some L := by
  have hc := cd_spec hf.1 hf.2.2.2.2.1
  have hr := cd_spec hf.2.2.1 hf.2.2.2.2.2.2.1
  have vP : V 0 0 w h := .inr (by omega)
  have hF : ∀ k, 30000 < k → grid_Touching.f k w h tw th r0 r1 r2 r3 = grid_Touching.j0 k tw th (cd w tw) (decide ((ix r0 r1 r2 r3 0 0 w h).1 = 0 ∧ (ix r0 r1 r2 r3 0 0 w h).2.1 = 0 ∧ (ix r0 r1 r2 r3 0 0 w h).2.2.1 = 0 ∧ (ix r0 r1 r2 r3 0 0 w h).2.2.2 = 0)) (ix r0 r1 r2 r3 0 0 w h).1 (ix r0 r1 r2 r3 0 0 w h).2.1 (ix r0 r1 r2 r3 0 0 w h).2.2.1 (ix r0 r1 r2 r3 0 0 w h).2.2.2 := by
    intro k hk
    obtain ⟨k, rfl⟩ : ∃ m, k = m + 1 := ⟨k - 1, by omega⟩
    unfold grid_Touching.f
    rw [count_eq (by omega), if_pos hf, intersect_eq]
    simp only [Option.bind_some, empty_eq]
    rw [if_neg (by omega)]
  have hnil : (ix r0 r1 r2 r3 0 0 w h = (0, 0, 0, 0)) → (∀ v, ¬ Hit w h tw th r0 r1 r2 r3 v) → ∃ L, Asc L ∧ (∀ v, v ∈ L ↔ Hit w h tw th r0 r1 r2 r3 v) ∧ ∀ k, 30000 < k → grid_Touching.f k w h tw th r0 r1 r2 r3 = some L := by
    intro e hn
    refine ⟨[], by simp [Asc], fun v => ⟨(fun h => by cases h), (fun h => absurd h (hn v))⟩, fun k hk => ?_⟩
    rw [hF k hk, e]
    obtain ⟨k, rfl⟩ : ∃ m, k = m + 1 := ⟨k - 1, by omega⟩
    simp only [and_self, decide_true]
    rw [grid_Touching.j0, if_pos rfl]
  by_cases hV : V r0 r1 r2 r3
  · obtain ⟨⟨c0, c1, c2, c3⟩, he⟩ : ∃ c, ix r0 r1 r2 r3 0 0 w h = c := ⟨_, rfl⟩
    have hs := ix_spec he hV vP
    have key : ∀ v, 0 ≤ v → v < cd w tw * cd h th → (Hit w h tw th r0 r1 r2 r3 v ↔ (max r0 0 < min r2 w ∧ max r0 0 / tw ≤ v % cd w tw ∧ v % cd w tw ≤ (min r2 w - 1) / tw) ∧ (max r1 0 < min r3 h ∧ max r1 0 / th ≤ v / cd w tw ∧ v / cd w tw ≤ (min r3 h - 1) / th)) := by
      intro v h0 h1
      obtain ⟨g1, g2, g3, g4⟩ := row_col hc.1 h0 h1
      have b1 := begin_lt hf.1 hf.2.2.2.2.1 g1 g2
      have b2 := begin_lt hf.2.2.1 hf.2.2.2.2.2.2.1 g3 g4
      rw [← hit_iff hf.2.2.2.2.1 b1.1 b1.2, ← hit_iff hf.2.2.2.2.2.2.1 b2.1 b2.2]
      exact ⟨fun h => h.2.2.2, fun h => ⟨h0, h1, hV, h⟩⟩
    by_cases hz : max r0 0 < min r2 w ∧ max r1 0 < min r3 h
    · have hc' : c0 = max r0 0 ∧ c1 = max r1 0 ∧ c2 = min r2 w ∧ c3 = min r3 h := by clear hV vP; omega
      obtain ⟨e0, e1, e2, e3⟩ := hc'
      have d0 := div_lt_cd (x := c0) (b := tw) hf.1 hf.2.2.2.2.1 (by clear hV vP hs; omega) (by clear hV vP hs; omega)
      have d2 := div_lt_cd (x := c2 - 1) (b := tw) hf.1 hf.2.2.2.2.1 (by clear hV vP hs; omega) (by clear hV vP hs; omega)
      have d1 := div_lt_cd (x := c1) (b := th) hf.2.2.1 hf.2.2.2.2.2.2.1 (by clear hV vP hs; omega) (by clear hV vP hs; omega)
      have d3 := div_lt_cd (x := c3 - 1) (b := th) hf.2.2.1 hf.2.2.2.2.2.2.1 (by clear hV vP hs; omega) (by clear hV vP hs; omega)
      have w0 : wrap64 (Int.tdiv c0 tw) = c0 / tw := by rw [Int.tdiv_eq_ediv_of_nonneg (by clear hV vP hs; omega), wrap_in (by clear hV vP hs; omega) (by clear hV vP hs; omega)]
      have w1 : wrap64 (Int.tdiv c1 th) = c1 / th := by rw [Int.tdiv_eq_ediv_of_nonneg (by clear hV vP hs; omega), wrap_in (by clear hV vP hs; omega) (by clear hV vP hs; omega)]
      have w2 : wrap64 (Int.tdiv (wrap64 (c2 - 1)) tw) = (c2 - 1) / tw := by rw [wrap_in (n := c2 - 1) (by clear hV vP hs; omega) (by clear hV vP hs; omega), Int.tdiv_eq_ediv_of_nonneg (by clear hV vP hs; omega), wrap_in (by clear hV vP hs; omega) (by clear hV vP hs; omega)]
      have w3 : wrap64 (Int.tdiv (wrap64 (c3 - 1)) th) = (c3 - 1) / th := by rw [wrap_in (n := c3 - 1) (by clear hV vP hs; omega) (by clear hV vP hs; omega), Int.tdiv_eq_ediv_of_nonneg (by clear hV vP hs; omega), wrap_in (by clear hV vP hs; omega) (by clear hV vP hs; omega)]
      clear vP
      obtain ⟨L0, hL0⟩ : ∃ d, ((c3 - 1) / th + 1 - c1 / th).toNat = d := ⟨_, rfl⟩
      have hbig : ∀ k, 29999 < k → ∃ L, Asc L ∧ (∀ v, v ∈ L ↔ v ∈ ([] : List Int) ∨ ∃ yy xx, c1 / th ≤ yy ∧ yy ≤ (c3 - 1) / th ∧ c0 / tw ≤ xx ∧ xx ≤ (c2 - 1) / tw ∧ v = yy * cd w tw + xx) ∧ grid_Touching.l0 k tw th (cd w tw) [] (c1 / th) c0 c1 c2 c3 = some L := by
        intro k hk
        refine touch_l0 tw th (cd w tw) (c0 / tw) ((c2 - 1) / tw) ((c3 - 1) / th) c0 c1 c2 c3 ?_ ?_ w2 w0 w3 ?_ hc.1 ?_ L0 k [] (c1 / th) d1.1 hL0 ?_ ?_ (by simp [Asc]) (by simp) <;> clear hV hs <;> first | omega | (simp only [List.length_nil]; omega)
      obtain ⟨L, hL1, hL2, hL3⟩ := hbig 30000 (by omega)
      refine ⟨L, hL1, fun v => ?_, fun k hk => ?_⟩
      · rw [hL2]
        refine ⟨fun h => ?_, fun h => ?_⟩
        · rcases h with h | ⟨yy, xx, g1, g2, g3, g4, g5⟩
          · cases h
          · have hxx : 0 ≤ xx ∧ xx < cd w tw := by clear hV hs hz; omega
            have hyy : 0 ≤ yy ∧ yy < cd h th := by clear hV hs hz; omega
            have em : v % cd w tw = xx := by rw [g5, Int.add_comm, Int.add_mul_emod_self_right, Int.emod_eq_of_lt hxx.1 hxx.2]
            have ed : v / cd w tw = yy := by rw [g5, Int.add_comm, Int.add_mul_ediv_right _ _ (by clear hV hs; omega), Int.ediv_eq_zero_of_lt hxx.1 hxx.2, Int.zero_add]
            have m1 : 0 ≤ yy * cd w tw := Int.mul_nonneg hyy.1 (by clear hV hs; omega)
            have m2 : yy * cd w tw ≤ (cd h th - 1) * cd w tw := Int.mul_le_mul_of_nonneg_right (by clear hV hs; omega) (by clear hV hs; omega)
            have m3 : (cd h th - 1) * cd w tw = cd w tw * cd h th - cd w tw := by rw [Int.sub_mul, Int.one_mul, Int.mul_comm]
            refine (key v (by clear hV hs; omega) (by clear hV hs; omega)).2 ?_
            rw [em, ed, ← e0, ← e1, ← e2, ← e3]
            clear hV
            omega
        · have h0 := h.1
          have h1 := h.2.1
          have h2 := (key v h0 h1).1 h
          rw [← e0, ← e1, ← e2, ← e3] at h2
          refine .inr ⟨v / cd w tw, v % cd w tw, h2.2.2.1, h2.2.2.2, h2.1.2.1, h2.1.2.2, ?_⟩
          have e := Int.mul_ediv_add_emod v (cd w tw)
          rw [Int.mul_comm] at e
          exact e.symm
      · rw [hF k hk, he]
        obtain ⟨k, rfl⟩ : ∃ m, k = m + 1 := ⟨k - 1, by omega⟩
        simp only
        rw [decide_eq_false (by clear hV hs; omega), grid_Touching.j0, if_neg Bool.false_ne_true, if_neg (by clear hV hs; omega), w1]
        obtain ⟨L', k1, k2, k3⟩ := hbig k (by omega)
        rw [k3, asc_ext k1 hL1 (fun v => by rw [k2, hL2])]
    · refine hnil ?_ (fun v hv => hz ?_)
      · rw [he]
        simp only [Prod.mk.injEq]
        clear hV vP
        omega
      · have := (key v hv.1 hv.2.1).1 hv
        exact ⟨this.1.1, this.2.1⟩
  · refine hnil ?_ (fun v hv => hV hv.2.2.1)
    unfold ix
    rw [if_neg (fun h => hV h.1)]

theorem sane_eq : tilefarmlaw5_sane.f 100 = some true := by decide +kernel

theorem rix_eq (a0 a1 a2 a3 b0 b1 b2 b3 : Int) : tilefarmref2_Intersect.f a0 a1 a2 a3 b0 b1 b2 b3 = some (ix a0 a1 a2 a3 b0 b1 b2 b3) := by
  unfold tilefarmref2_Intersect.f ix
  simp only [ref_valid_eq, Option.bind_some, decide_eq_true_eq]
  by_cases h1 : V a0 a1 a2 a3
  · by_cases h2 : V b0 b1 b2 b3
    · rw [if_pos h1, if_pos h2]
      by_cases h3 : mx a0 b0 < mn a2 b2
      · by_cases h4 : mx a1 b1 < mn a3 b3
        · rw [if_neg (by clear h1 h2; omega), if_neg (by clear h1 h2; omega), if_pos ⟨h1, h2, h3, h4⟩]
        · rw [if_neg (by clear h1 h2; omega), if_pos (by clear h1 h2; omega), if_neg (fun h => h4 h.2.2.2)]
      · rw [if_pos (by clear h1 h2; omega), if_neg (fun h => h3 h.2.2.1)]
    · rw [if_pos h1, if_neg h2, if_neg (fun h => h2 h.2.1)]
  · rw [if_neg h1, if_neg (fun h => h1 h.1)]

theorem rceil_eq {k : Nat} (hk : 0 < k) {a b : Int} (ha : 1 ≤ a) (ha2 : a ≤ 128) (hb : 1 ≤ b) : tilefarmref1_Ceil.f k a b = some (cd a b) := by
  obtain ⟨k, rfl⟩ : ∃ n, k = n + 1 := ⟨k - 1, by omega⟩
  have h1 : 0 ≤ a / b := Int.ediv_nonneg (by omega) (by omega)
  have h2 : a / b ≤ a := Int.ediv_le_self b (by omega)
  unfold tilefarmref1_Ceil.f cd
  rw [if_neg (by omega), decide_eq_false (by omega)]
  simp only [tilefarmref1_Ceil.j0, if_neg Bool.false_ne_true]
  rw [if_neg (by omega), Int.tmod_eq_emod_of_nonneg (by omega), Int.tdiv_eq_ediv_of_nonneg (by omega), wrap_in (n := a / b) (by omega) (by omega), wrap_in (n := a / b + 1) (by omega) (by omega)]
  split <;> rfl

theorem fine_eq (w h tw th : Int) : tilefarmref5_fine.f w h tw th = some (decide (Fine w h tw th)) := by
  unfold tilefarmref5_fine.f
  repeat' split
  all_goals first | exact sd_iff (by omega) | exact sd_false (by omega)

theorem rcount_eq {k : Nat} (hk : 0 < k) (w h tw th : Int) : tilefarmref5_Count.f k w h tw th = some (if Fine w h tw th then (cd w tw, cd h th) else (0, 0)) := by
  unfold tilefarmref5_Count.f
  simp only [fine_eq, Option.bind_some, decide_eq_true_eq]
  by_cases hf : Fine w h tw th
  · rw [if_pos hf, if_pos hf, rceil_eq hk hf.1 hf.2.1 hf.2.2.2.2.1, rceil_eq hk hf.2.2.1 hf.2.2.2.1 hf.2.2.2.2.2.2.1]
    rfl
  · rw [if_neg hf, if_neg hf]

theorem tile_same {k : Nat} (hk : 1 < k) (w h tw th i : Int) : ∃ r, grid_Tile.f k w h tw th i = some r ∧ tilefarmref5_Tile.f k w h tw th i = some r := by
  unfold grid_Tile.f tilefarmref5_Tile.f
  rw [count_eq hk, rcount_eq (by omega)]
  simp only [Option.bind_some]
  by_cases hf : Fine w h tw th
  · have hc := cd_spec hf.1 hf.2.2.2.2.1
    rw [if_pos hf]
    by_cases q1 : i < 0
    · rw [if_pos q1]; exact ⟨_, rfl, rfl⟩
    · rw [if_neg q1]
      by_cases q2 : i ≥ wrap64 (cd w tw * cd h th)
      · rw [if_pos q2]; exact ⟨_, rfl, rfl⟩
      · rw [if_neg q2, if_neg (by omega)]; exact ⟨_, rfl, rfl⟩
  · rw [if_neg hf]
    have e : wrap64 (0 * 0) = 0 := wrap_in (by omega) (by omega)
    by_cases q1 : i < 0
    · rw [if_pos q1]; exact ⟨_, rfl, rfl⟩
    · rw [if_neg q1, e, if_pos (by omega)]; exact ⟨_, rfl, rfl⟩

theorem of_same {k : Nat} (hk : 1 < k) (w h tw th x y : Int) : ∃ r, grid_Of.f k w h tw th x y = some r ∧ tilefarmref5_Of.f k w h tw th x y = some r := by
  unfold grid_Of.f tilefarmref5_Of.f
  rw [count_eq hk, rcount_eq (by omega)]
  simp only [Option.bind_some]
  by_cases hf : Fine w h tw th
  · have hc := cd_spec hf.1 hf.2.2.2.2.1
    rw [if_pos hf]
    rw [if_neg (by omega)]
    by_cases q1 : x < 0
    · rw [if_pos q1]; exact ⟨_, rfl, rfl⟩
    · rw [if_neg q1]
      by_cases q2 : x ≥ w
      · rw [if_pos q2]; exact ⟨_, rfl, rfl⟩
      · rw [if_neg q2]
        by_cases q3 : y < 0
        · rw [if_pos q3]; exact ⟨_, rfl, rfl⟩
        · rw [if_neg q3]
          by_cases q4 : y ≥ h
          · rw [if_pos q4]; exact ⟨_, rfl, rfl⟩
          · rw [if_neg q4, if_neg (by omega), if_neg (by omega)]; exact ⟨_, rfl, rfl⟩
  · rw [if_neg hf, if_pos rfl]; exact ⟨_, rfl, rfl⟩

theorem rtile_eq {k : Nat} (hk : 1 < k) {w h tw th i : Int} (hf : Fine w h tw th) (h0 : 0 ≤ i) (hi : i < cd w tw * cd h th) :
    tilefarmref5_Tile.f k w h tw th i = some (i % cd w tw * tw, i / cd w tw * th, min (i % cd w tw * tw + tw) w, min (i / cd w tw * th + th) h, true) := by
  obtain ⟨r, h1, h2⟩ := tile_same hk w h tw th i
  rw [h2, ← h1, tile_eq hk hf h0 hi]

/-- The common part of a tile and the rectangle is empty exactly if the tile does not touch it. -/
theorem hit_empty {w h tw th r0 r1 r2 r3 v : Int} (hf : Fine w h tw th) (h0 : 0 ≤ v) (h1 : v < cd w tw * cd h th) :
    ∃ c0 c1 c2 c3, tilefarmref2_Intersect.f (v % cd w tw * tw) (v / cd w tw * th) (min (v % cd w tw * tw + tw) w) (min (v / cd w tw * th + th) h) r0 r1 r2 r3 = some (c0, c1, c2, c3) ∧
      ((c0 = 0 ∧ c1 = 0 ∧ c2 = 0 ∧ c3 = 0) ↔ ¬ Hit w h tw th r0 r1 r2 r3 v) := by
  have hc := cd_spec hf.1 hf.2.2.2.2.1
  obtain ⟨g1, g2, g3, g4⟩ := row_col hc.1 h0 h1
  have b1 := begin_lt hf.1 hf.2.2.2.2.1 g1 g2
  have b2 := begin_lt hf.2.2.1 hf.2.2.2.2.2.2.1 g3 g4
  have hT : V (v % cd w tw * tw) (v / cd w tw * th) (min (v % cd w tw * tw + tw) w) (min (v / cd w tw * th + th) h) := .inr (by omega)
  rw [rix_eq]
  unfold ix
  simp only [mx_max, mn_min]
  by_cases q : V r0 r1 r2 r3 ∧ max (v % cd w tw * tw) r0 < min (min (v % cd w tw * tw + tw) w) r2 ∧ max (v / cd w tw * th) r1 < min (min (v / cd w tw * th + th) h) r3
  · rw [if_pos ⟨hT, q⟩]
    refine ⟨_, _, _, _, rfl, ?_⟩
    have hq := q.2.1
    have hHit : Hit w h tw th r0 r1 r2 r3 v := ⟨h0, h1, q⟩
    exact ⟨fun h => by obtain ⟨e1, _, e2, _⟩ := h; rw [e1, e2] at hq; omega, fun h => absurd hHit h⟩
  · rw [if_neg (fun h => q h.2)]
    exact ⟨_, _, _, _, rfl, ⟨fun _ h => q h.2.2, fun _ => ⟨rfl, rfl, rfl, rfl⟩⟩⟩

theorem rtouch_loop {w h tw th r0 r1 r2 r3 : Int} (hf : Fine w h tw th) (d : Nat) : ∀ (k : Nat) (acc : List Int) (i : Int), 0 ≤ i → i + d = cd w tw * cd h th → d + 2 < k → acc.length + d ≤ 100000 → Asc acc → (∀ v ∈ acc, v < i) →
    ∃ L, Asc L ∧ (∀ v, v ∈ L ↔ v ∈ acc ∨ (i ≤ v ∧ Hit w h tw th r0 r1 r2 r3 v)) ∧ tilefarmref5_Touching.l0 k w h tw th (cd w tw) (cd h th) acc i r0 r1 r2 r3 = some L := by
  have hc := cd_spec hf.1 hf.2.2.2.2.1
  have hr := cd_spec hf.2.2.1 hf.2.2.2.2.2.2.1
  have hm := mul_bd (x := cd w tw) (y := cd h th) (B := 128) (C := 128) (by omega) (by omega) (by omega) (by omega)
  have ew : wrap64 (cd w tw * cd h th) = cd w tw * cd h th := wrap_in (by omega) (by omega)
  induction d with
  | zero =>
    intro k acc i h0 hi hk hl ha hb
    obtain ⟨k, rfl⟩ : ∃ m, k = m + 1 := ⟨k - 1, by omega⟩
    refine ⟨acc, ha, fun v => ⟨.inl, fun h => h.elim id (fun h => by have := h.2.2.1; omega)⟩, ?_⟩
    rw [tilefarmref5_Touching.l0, ew, if_neg (by omega)]
  | succ d ih =>
    intro k acc i h0 hi hk hl ha hb
    obtain ⟨k, rfl⟩ : ∃ m, k = m + 1 := ⟨k - 1, by omega⟩
    obtain ⟨c0, c1, c2, c3, e1, e2⟩ := hit_empty (r0 := r0) (r1 := r1) (r2 := r2) (r3 := r3) hf h0 (show i < cd w tw * cd h th by omega)
    have eq : tilefarmref5_Touching.l0 (k + 1) w h tw th (cd w tw) (cd h th) acc i r0 r1 r2 r3 = if (c0 = 0 ∧ c1 = 0 ∧ c2 = 0 ∧ c3 = 0) then tilefarmref5_Touching.l0 k w h tw th (cd w tw) (cd h th) acc (i + 1) r0 r1 r2 r3 else tilefarmref5_Touching.l0 k w h tw th (cd w tw) (cd h th) (acc ++ [i]) (i + 1) r0 r1 r2 r3 := by
      rw [tilefarmref5_Touching.l0, ew, if_pos (by omega), rtile_eq (by omega) hf h0 (by omega)]
      simp only [Option.bind_some, e1, rempty_eq, decide_eq_true_eq]
      rw [wrap_in (n := i + 1) (by omega) (by omega)]
      by_cases q : c0 = 0 ∧ c1 = 0 ∧ c2 = 0 ∧ c3 = 0
      · rw [if_pos q, if_pos q]
      · rw [if_neg q, if_neg q, if_pos (by omega)]
    by_cases q : c0 = 0 ∧ c1 = 0 ∧ c2 = 0 ∧ c3 = 0
    · obtain ⟨L, k1, k2, k3⟩ := ih k acc (i + 1) (by omega) (by omega) (by omega) (by omega) ha (fun v hv => by have := hb v hv; omega)
      refine ⟨L, k1, fun v => ?_, by rw [eq, if_pos q, k3]⟩
      rw [k2]
      refine ⟨fun h => h.elim .inl (fun h => .inr ⟨by omega, h.2⟩), fun h => h.elim .inl (fun h => ?_)⟩
      by_cases e : v = i
      · subst e; exact absurd h.2 (e2.1 q)
      · exact .inr ⟨by omega, h.2⟩
    · have hh : Hit w h tw th r0 r1 r2 r3 i := Classical.byContradiction fun h => q (e2.2 h)
      obtain ⟨L, k1, k2, k3⟩ := ih k (acc ++ [i]) (i + 1) (by omega) (by omega) (by omega) (by simp; omega) (asc_snoc ha hb) (fun v hv => by
        rw [List.mem_append, List.mem_singleton] at hv
        rcases hv with hv | hv
        · have := hb v hv; omega
        · omega)
      refine ⟨L, k1, fun v => ?_, by rw [eq, if_neg q, k3]⟩
      rw [k2, List.mem_append, List.mem_singleton]
      refine ⟨fun h => ?_, fun h => ?_⟩
      · rcases h with (h | h) | h
        · exact .inl h
        · subst h; exact .inr ⟨Int.le_refl _, hh⟩
        · exact .inr ⟨by omega, h.2⟩
      · rcases h with h | h
        · exact .inl (.inl h)
        · by_cases e : v = i
          · exact .inl (.inr e)
          · exact .inr ⟨by omega, h.2⟩

theorem touch_same (w h tw th r0 r1 r2 r3 : Int) : ∃ L, L.length ≤ 20000 ∧ (∀ k, 40000 < k → grid_Touching.f k w h tw th r0 r1 r2 r3 = some L) ∧ (∀ k, 40000 < k → tilefarmref5_Touching.f k w h tw th r0 r1 r2 r3 = some L) := by
  by_cases hf : Fine w h tw th
  · obtain ⟨L, h1, h2, h3⟩ := touching_spec (r0 := r0) (r1 := r1) (r2 := r2) (r3 := r3) hf
    have hc := cd_spec hf.1 hf.2.2.2.2.1
    have hr := cd_spec hf.2.2.1 hf.2.2.2.2.2.2.1
    have hm := mul_bd (x := cd w tw) (y := cd h th) (B := 128) (C := 128) (by omega) (by omega) (by omega) (by omega)
    have hR : ∀ k, 30000 < k → tilefarmref5_Touching.f k w h tw th r0 r1 r2 r3 = some L := by
      intro k hk
      obtain ⟨L', k1, k2, k3⟩ := rtouch_loop (r0 := r0) (r1 := r1) (r2 := r2) (r3 := r3) hf (cd w tw * cd h th).toNat k [] 0 (by omega) (by omega) (by omega) (by simp only [List.length_nil]; omega) (by simp [Asc]) (by simp)
      unfold tilefarmref5_Touching.f
      rw [rcount_eq (by omega), if_pos hf]
      simp only [Option.bind_some]
      rw [k3, asc_ext k1 h1 (fun v => ?_)]
      rw [k2, h2]
      exact ⟨fun h => h.elim (fun h => by cases h) (fun h => h.2), fun h => .inr ⟨h.1, h⟩⟩
    have hlen : (L.length : Int) ≤ 16384 := by
      have key : ∀ (L : List Int) (a : Int), L.Pairwise (· < ·) → (∀ v ∈ L, a ≤ v ∧ v < 16384) → a ≤ 16384 → (L.length : Int) ≤ 16384 - a := by
        intro L
        induction L with
        | nil => intro a _ _ ha; simp; omega
        | cons y L ih2 =>
          intro a hp hb ha
          rw [List.pairwise_cons] at hp
          have hy := hb y List.mem_cons_self
          have := ih2 (y + 1) hp.2 (fun v hv => ⟨by have := hp.1 v hv; omega, (hb v (List.mem_cons_of_mem _ hv)).2⟩) (by omega)
          simp only [List.length_cons]
          omega
      have := key L 0 h1 (fun v hv => by have := (h2 v).1 hv; exact ⟨this.1, by have := this.2.1; omega⟩) (by omega)
      omega
    exact ⟨L, by omega, fun k hk => h3 k (by omega), fun k hk => hR k (by omega)⟩
  · refine ⟨[], by simp, fun k hk => ?_, fun k hk => ?_⟩
    · obtain ⟨k, rfl⟩ : ∃ m, k = m + 1 := ⟨k - 1, by omega⟩
      unfold grid_Touching.f
      rw [count_eq (by omega), if_neg hf, intersect_eq]
      simp only [Option.bind_some]
      rw [if_pos trivial, grid_Touching.j0, if_pos rfl]
    · obtain ⟨k, rfl⟩ : ∃ m, k = m + 1 := ⟨k - 1, by omega⟩
      unfold tilefarmref5_Touching.f
      rw [rcount_eq (by omega), if_neg hf]
      simp only [Option.bind_some]
      rw [tilefarmref5_Touching.l0, wrap_in (n := 0 * 0) (by omega) (by omega), if_neg (by omega)]

theorem same_loop (L : List Int) (hL : L.length ≤ 100000) (d : Nat) : ∀ (k i : Nat), i + d = L.length → d < k → tilefarmref4_Same.l0 k L L (i : Int) = some true := by
  induction d with
  | zero =>
    intro k i hi hk
    obtain ⟨k, rfl⟩ : ∃ m, k = m + 1 := ⟨k - 1, by omega⟩
    rw [tilefarmref4_Same.l0, if_neg (by omega)]
  | succ d ih =>
    intro k i hi hk
    obtain ⟨k, rfl⟩ : ∃ m, k = m + 1 := ⟨k - 1, by omega⟩
    rw [tilefarmref4_Same.l0, if_pos (by omega), if_pos (by omega), if_pos (by omega), if_pos rfl, wrap_in (n := (i : Int) + 1) (by omega) (by omega)]
    exact ih k (i + 1) (by omega) (by omega)

theorem agrees_true {k : Nat} (hk : 50000 < k) (w h tw th i x y r0 r1 r2 r3 : Int) : tilefarmlaw5_agrees.f k w h tw th i x y r0 r1 r2 r3 = some true := by
  obtain ⟨t, h1, h2⟩ := tile_same (show 1 < k by omega) w h tw th i
  obtain ⟨o, h3, h4⟩ := of_same (show 1 < k by omega) w h tw th x y
  obtain ⟨L, h5, h6, h7⟩ := touch_same w h tw th r0 r1 r2 r3
  have hs : tilefarmref4_Same.f k L L = some true := by
    unfold tilefarmref4_Same.f
    rw [if_pos rfl]
    exact same_loop L (by omega) L.length k 0 (by omega) (by omega)
  unfold tilefarmlaw5_agrees.f
  simp only [count_eq (show 1 < k by omega), rcount_eq (show 0 < k by omega), h1, h2, h3, h4, h6 k (by omega), h7 k (by omega), hs, Option.bind_some, beq_self_eq_true, Bool.and_self, if_true]

theorem round (l : List Int) (hl : l.length ≤ 4611686018427387904) (x1 x2 x3 x4 x5 x6 x7 a0 a1 a2 a3 s i : Int) (hs : 0 ≤ s) (h0 : 0 ≤ i) (hi : i < 5) (k : Nat) (hk : 50000 < k) :
    ∃ s', 0 ≤ s' ∧ tilefarmlaw5_GridTiles.l0 (k + 1) x1 x2 x3 x4 x5 x6 x7 i a0 a1 a2 a3 l s = tilefarmlaw5_GridTiles.l0 k x1 x2 x3 x4 x5 x6 x7 (i + 1) a0 a1 a2 a3 l s' := by
  obtain ⟨r1, s1, g1, g1a, g1b, g1c⟩ := next_spec l s 12 hs hl (by omega) (by omega)
  obtain ⟨r2, s2, g2, g2a, g2b, g2c⟩ := next_spec l s1 12 g1c hl (by omega) (by omega)
  obtain ⟨r3, s3, g3, g3a, g3b, g3c⟩ := next_spec l s2 5 g2c hl (by omega) (by omega)
  obtain ⟨r4, s4, g4, g4a, g4b, g4c⟩ := next_spec l s3 5 g3c hl (by omega) (by omega)
  obtain ⟨r5, s5, g5, g5a, g5b, g5c⟩ := next_spec l s4 30 g4c hl (by omega) (by omega)
  obtain ⟨r6, s6, g6, g6a, g6b, g6c⟩ := next_spec l s5 14 g5c hl (by omega) (by omega)
  obtain ⟨r7, s7, g7, g7a, g7b, g7c⟩ := next_spec l s6 14 g6c hl (by omega) (by omega)
  obtain ⟨c0, c1, c2, c3, s8, hA, hs8⟩ := rect_spec l s7 g7c hl
  refine ⟨s8, hs8, ?_⟩
  rw [tilefarmlaw5_GridTiles.l0, if_pos hi]
  simp only [g1, g2, g3, g4, g5, g6, g7, hA, Option.bind_some, if_true, agrees_true hk]
  rw [wrap_in (n := i + 1) (by omega) (by omega)]

theorem GridTiles : tilefarmlaw5_GridTiles.Pure := by
  intro l x1 x2 x3 x4 x5 x6 x7 a0 a1 a2 a3 hl hl8 _ _ _ _ _ _ _ _ _ _ _ _
  have hl' : l.length ≤ 4611686018427387904 := by omega
  obtain ⟨K, hK⟩ : ∃ K : Nat, 50000 < K := ⟨50001, by omega⟩
  refine ⟨K + 1 + 1 + 1 + 1 + 1 + 1, ?_⟩
  unfold tilefarmlaw5_GridTiles.f tilefarmgen_New.f
  simp only [Option.bind_some]
  obtain ⟨s1, h1, e1⟩ := round l hl' x1 x2 x3 x4 x5 x6 x7 a0 a1 a2 a3 0 0 (by omega) (by omega) (by omega) (K + 1 + 1 + 1 + 1 + 1) (by omega)
  obtain ⟨s2, h2, e2⟩ := round l hl' x1 x2 x3 x4 x5 x6 x7 a0 a1 a2 a3 s1 1 h1 (by omega) (by omega) (K + 1 + 1 + 1 + 1) (by omega)
  obtain ⟨s3, h3, e3⟩ := round l hl' x1 x2 x3 x4 x5 x6 x7 a0 a1 a2 a3 s2 2 h2 (by omega) (by omega) (K + 1 + 1 + 1) (by omega)
  obtain ⟨s4, h4, e4⟩ := round l hl' x1 x2 x3 x4 x5 x6 x7 a0 a1 a2 a3 s3 3 h3 (by omega) (by omega) (K + 1 + 1) (by omega)
  obtain ⟨s5, h5, e5⟩ := round l hl' x1 x2 x3 x4 x5 x6 x7 a0 a1 a2 a3 s4 4 h4 (by omega) (by omega) (K + 1) (by omega)
  have hs : tilefarmlaw5_sane.f K = some true := at_rounds tilefarmlaw5_sane.mono (by omega) sane_eq
  refine e1.trans (e2.trans (e3.trans (e4.trans (e5.trans ?_))))
  rw [tilefarmlaw5_GridTiles.l0, if_neg (by omega)]
  simp only [mod_eq _ 128 (by omega) (by omega), mod_eq _ 40 (by omega) (by omega), mod_eq _ 64 (by omega) (by omega), mod_eq _ 30 (by omega) (by omega), mod_eq _ 8 (by omega) (by omega), Option.bind_some, if_true, agrees_true hK, hs]


end Go.Proofs.Ytikpmojofdndnaa.Pure
namespace Go.Proofs.Ytikpmojofdndnaa
open Go.ChangeShapes Go.WideShapes
/-- The print's own word, under the name that the printed row uses. -/
theorem PrintWords.sized_ints {H : Type} {enc : TypeId × Value → H} {P : Program} {W : World} {base : Nat} {spare : Nat → Bool} {held : Bool} {t e : TypeId} {k : IntKind} {a : Option Addr} {len cap : Nat} {d : DataW H} {ps : List MemPlace} {ts : List TypeId} {ds : List (DataW H)} {j : Nat}
    (hsz : (DataW.weightsEach P ts ds).all (· ≤ reachBytes) = true) (ht : ts[j]? = some t) (hd : ds[j]? = some d) (hu : P.underlying t = some (.slice e)) (he : P.underlying e = some (.int k)) (hc : P.cellsOf e = 1) {B : Nat} (hB : P.bytesOf e = B)
    (h : DataW.Trod enc P W base spare held t (.slice a len cap) d ps) : len * B ≤ 140737488351232 :=
  Go.Proofs.YtikpmojofdndnaaW.PrintWords.sized_ints hsz ht hd hu he hc hB h
end Go.Proofs.Ytikpmojofdndnaa

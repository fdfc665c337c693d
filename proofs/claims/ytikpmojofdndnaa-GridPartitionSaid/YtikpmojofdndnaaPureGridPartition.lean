/- Each point of a plane is in exactly one tile, that of Of, and the areas of the tiles add up to the plane: for all integers. -/
import Derived.Test.YtikpmojofdndnaaPGridPartitionx5
namespace Go.Proofs.Ytikpmojofdndnaa.Pure
open Go.RowKit Go.Proofs.Ytikpmojofdndnaa.PGridPartition Go.Proofs.YtikpmojofdndnaaW.PrintWords Go.Proofs.YtikpmojofdndnaaW.PrintLast Go.Proofs.YtikpmojofdndnaaW.PrintMore
set_option linter.unusedVariables false
set_option linter.unusedSimpArgs false

theorem wrap_in {n : Int} (h : -9223372036854775808 ≤ n) (h' : n ≤ 9223372036854775807) : wrap64 n = n := by unfold wrap64; omega

theorem tmod_emod (a n : Int) (h : 0 < n) : (0 ≤ Int.tmod a n ∧ Int.tmod a n = a % n) ∨ (Int.tmod a n < 0 ∧ Int.tmod a n + n = a % n) := by
  have h1 := Int.tmod_eq_emod (a := a) (b := n)
  have h2 := Int.emod_nonneg a (by omega : n ≠ 0)
  have h3 := Int.emod_lt_of_pos a h
  split at h1 <;> omega

theorem mod_eq (a n : Int) (h : 0 < n) (hn : n ≤ 4611686018427387904) : tilefarmgen_Mod.f a n = some (a % n) := by
  have h2 := Int.emod_nonneg a (by omega : n ≠ 0)
  have h3 := Int.emod_lt_of_pos a h
  unfold tilefarmgen_Mod.f
  rw [if_neg (by omega)]
  rcases tmod_emod a n h with ⟨h4, h5⟩ | ⟨h4, h5⟩
  · rw [if_neg (by omega), h5]
  · rw [if_pos h4, wrap_in (by omega) (by omega), h5]

theorem sd_true {p : Prop} [Decidable p] (h : p) : some true = some (decide p) := by rw [decide_eq_true h]
theorem sd_false {p : Prop} [Decidable p] (h : ¬ p) : some false = some (decide p) := by rw [decide_eq_false h]
theorem sd_iff {p q : Prop} [Decidable p] [Decidable q] (h : q ↔ p) : some (decide q) = some (decide p) := by rw [decide_eq_decide.2 h]

theorem mx_max (a b : Int) : mx a b = max a b := by unfold mx; omega
theorem mn_min (a b : Int) : mn a b = min a b := by unfold mn; omega

theorem mul_bd {x y B C : Int} (hx : 0 ≤ x) (hy : 0 ≤ y) (hxB : x ≤ B) (hyB : y ≤ C) : 0 ≤ x * y ∧ x * y ≤ B * C :=
  ⟨Int.mul_nonneg hx hy, Int.mul_le_mul hxB hyB hy (by omega)⟩

theorem dec_iff {p q : Prop} [Decidable p] [Decidable q] (h : p ↔ q) : decide p = decide q := decide_eq_decide.2 h
theorem and_not_dec (p q : Prop) [Decidable p] [Decidable q] : (decide p && !decide q) = decide (p ∧ ¬ q) := by
  by_cases hp : p <;> by_cases hq : q <;> simp [hp, hq]

theorem wrap64_range (n : Int) : -9223372036854775808 ≤ wrap64 n ∧ wrap64 n ≤ 9223372036854775807 := by unfold wrap64; omega

theorem wf_range {n : Int} (h : (Lit.int .i64 n).wf = true) : -9223372036854775808 ≤ n ∧ n ≤ 9223372036854775807 := by
  simp only [Lit.wf, IntKind.min, IntKind.max, IntKind.signed, IntKind.bits, Bool.and_eq_true, decide_eq_true_eq, if_true] at h
  omega


abbrev V (a b c d : Int) : Prop := (a = 0 ∧ b = 0 ∧ c = 0 ∧ d = 0) ∨ (-1048576 ≤ a ∧ a ≤ 1048576 ∧ -1048576 ≤ b ∧ b ≤ 1048576 ∧ -1048576 ≤ c ∧ c ≤ 1048576 ∧ -1048576 ≤ d ∧ d ≤ 1048576 ∧ a < c ∧ b < d)

theorem empty_eq (a b c d : Int) : rect_Empty.f a b c d = some (decide (a = 0 ∧ b = 0 ∧ c = 0 ∧ d = 0)) := by
  unfold rect_Empty.f
  congr 1
  rw [Bool.eq_iff_iff]
  simp

theorem coord_eq (a : Int) : rect_coord.f a = some (decide (-1048576 ≤ a ∧ a ≤ 1048576)) := by
  unfold rect_coord.f
  split <;> congr 1 <;> rw [Bool.eq_iff_iff] <;> simp <;> omega

theorem valid_eq (a b c d : Int) : rect_Valid.f a b c d = some (decide (V a b c d)) := by
  unfold rect_Valid.f
  simp only [empty_eq, coord_eq, Option.bind_some, decide_eq_true_eq]
  repeat' split
  all_goals first | (refine sd_iff ?_; omega) | (refine sd_true ?_; omega) | (refine sd_false ?_; omega)

theorem ref_coord_eq (a : Int) : tilefarmref2_coord.f a = some (decide (-1048576 ≤ a ∧ a ≤ 1048576)) := by
  unfold tilefarmref2_coord.f
  split <;> congr 1 <;> rw [Bool.eq_iff_iff] <;> simp <;> omega

theorem ref_valid_eq (a b c d : Int) : tilefarmref2_Valid.f a b c d = some (decide (V a b c d)) := by
  unfold tilefarmref2_Valid.f
  simp only [ref_coord_eq, Option.bind_some, decide_eq_true_eq, V, Bool.and_eq_true, beq_iff_eq]
  repeat' split
  all_goals first | (refine sd_iff ?_; omega) | (refine sd_true ?_; omega) | (refine sd_false ?_; omega)

def ix (a0 a1 a2 a3 b0 b1 b2 b3 : Int) : Int × Int × Int × Int :=
  if V a0 a1 a2 a3 ∧ V b0 b1 b2 b3 ∧ mx a0 b0 < mn a2 b2 ∧ mx a1 b1 < mn a3 b3 then (mx a0 b0, mx a1 b1, mn a2 b2, mn a3 b3) else (0, 0, 0, 0)

theorem intersect_eq (k : Nat) (a0 a1 a2 a3 b0 b1 b2 b3 : Int) : rect_Intersect.f (k + 1) a0 a1 a2 a3 b0 b1 b2 b3 = some (ix a0 a1 a2 a3 b0 b1 b2 b3) := by
  unfold rect_Intersect.f ix
  simp only [valid_eq, Option.bind_some, rect_Intersect.j0, decide_eq_true_eq, Bool.not_eq_true', decide_eq_false_iff_not, if_true]
  by_cases h1 : V a0 a1 a2 a3
  · by_cases h2 : V b0 b1 b2 b3
    · rw [if_pos h1, if_neg (fun h => h h2)]
      by_cases h3 : mx a0 b0 < mn a2 b2
      · by_cases h4 : mx a1 b1 < mn a3 b3
        · rw [if_neg (by omega), if_neg (by omega), if_pos ⟨h1, h2, h3, h4⟩]
        · rw [if_neg (by omega), if_pos (by omega), if_neg (fun h => h4 h.2.2.2)]
      · rw [if_pos (by omega), if_neg (fun h => h3 h.2.2.1)]
    · rw [if_pos h1, if_pos h2, if_neg (fun h => h2 h.2.1)]
  · rw [if_neg h1, if_neg (fun h => h1 h.1)]

theorem ix_spec {a0 a1 a2 a3 b0 b1 b2 b3 c0 c1 c2 c3 : Int} (hc : ix a0 a1 a2 a3 b0 b1 b2 b3 = (c0, c1, c2, c3)) (ha : V a0 a1 a2 a3) (hb : V b0 b1 b2 b3) :
    (c0 = 0 ∧ c1 = 0 ∧ c2 = 0 ∧ c3 = 0 ∧ (min a2 b2 ≤ max a0 b0 ∨ min a3 b3 ≤ max a1 b1)) ∨ (c0 = max a0 b0 ∧ c1 = max a1 b1 ∧ c2 = min a2 b2 ∧ c3 = min a3 b3 ∧ c0 < c2 ∧ c1 < c3) := by
  simp only [ix, mx_max, mn_min] at hc
  split at hc
  · next h =>
    simp only [Prod.mk.injEq] at hc
    exact .inr (by omega)
  · next h =>
    simp only [Prod.mk.injEq] at hc
    refine .inl ?_
    have : ¬ (max a0 b0 < min a2 b2 ∧ max a1 b1 < min a3 b3) := fun h' => h ⟨ha, hb, h'⟩
    omega

theorem ix_inside {a0 a1 a2 a3 b0 b1 b2 b3 c0 c1 c2 c3 : Int} (h : (c0 = 0 ∧ c1 = 0 ∧ c2 = 0 ∧ c3 = 0 ∧ (min a2 b2 ≤ max a0 b0 ∨ min a3 b3 ≤ max a1 b1)) ∨ (c0 = max a0 b0 ∧ c1 = max a1 b1 ∧ c2 = min a2 b2 ∧ c3 = min a3 b3 ∧ c0 < c2 ∧ c1 < c3))
    (hy : ¬ (c0 = 0 ∧ c1 = 0 ∧ c2 = 0 ∧ c3 = 0)) : a0 ≤ c0 ∧ c0 < c2 ∧ c2 ≤ a2 ∧ a1 ≤ c1 ∧ c1 < c3 ∧ c3 ≤ a3 := by
  rcases h with h | h
  · exact absurd ⟨h.1, h.2.1, h.2.2.1, h.2.2.2.1⟩ hy
  · omega

theorem V_range {a b c d : Int} (h : V a b c d) : -1048576 ≤ a ∧ c ≤ 1048576 ∧ -1048576 ≤ b ∧ d ≤ 1048576 := by omega
theorem V_mono {a b c d : Int} (h : V a b c d) : a ≤ c ∧ b ≤ d := by omega


theorem rempty_eq (a b c d : Int) : tilefarmref2_Empty.f a b c d = some (decide (a = 0 ∧ b = 0 ∧ c = 0 ∧ d = 0)) := by
  unfold tilefarmref2_Empty.f
  congr 1
  rw [Bool.eq_iff_iff]
  simp


theorem rarea_eq {a0 a1 a2 a3 : Int} (h : V a0 a1 a2 a3) : tilefarmref2_Area.f a0 a1 a2 a3 = some ((a2 - a0) * (a3 - a1)) ∧ 0 ≤ (a2 - a0) * (a3 - a1) ∧ (a2 - a0) * (a3 - a1) ≤ 4398046511104 := by
  have hb := mul_bd (x := a2 - a0) (y := a3 - a1) (B := 2097152) (C := 2097152) (by omega) (by omega) (by omega) (by omega)
  refine ⟨?_, hb.1, by omega⟩
  unfold tilefarmref2_Area.f
  simp only [ref_valid_eq, Option.bind_some, decide_eq_true_eq]
  rw [if_pos h, wrap_in (n := a2 - a0) (by omega) (by omega), wrap_in (n := a3 - a1) (by omega) (by omega), wrap_in (by omega) (by omega)]


theorem rcontains_eq {a b c d : Int} (hV : V a b c d) (x y : Int) : tilefarmref2_Contains.f a b c d x y = some (decide (a ≤ x ∧ x < c ∧ b ≤ y ∧ y < d)) := by
  unfold tilefarmref2_Contains.f
  simp only [ref_valid_eq, Option.bind_some, decide_eq_true_eq]
  rw [if_pos hV]
  clear hV
  repeat' split
  all_goals first | (refine sd_iff ?_; omega) | (refine sd_false ?_; omega)

theorem V_of' {a b c d : Int} (h : -1048576 ≤ a ∧ a < c ∧ c ≤ 1048576 ∧ -1048576 ≤ b ∧ b < d ∧ d ≤ 1048576) : V a b c d := .inr (by omega)


/-- a / b, rounded up. -/
def cd (a b : Int) : Int := if a % b > 0 then a / b + 1 else a / b

theorem cd_spec {a b : Int} (ha : 1 ≤ a) (hb : 1 ≤ b) : 1 ≤ cd a b ∧ cd a b ≤ a ∧ (cd a b - 1) * b < a ∧ a ≤ cd a b * b := by
  have e := Int.mul_ediv_add_emod a b
  have g1 := Int.emod_nonneg a (by omega : b ≠ 0)
  have g2 := Int.emod_lt_of_pos a (by omega : 0 < b)
  have g3 : 0 ≤ a / b := Int.ediv_nonneg (by omega) (by omega)
  have g4 : a / b * 1 ≤ a / b * b := Int.mul_le_mul_of_nonneg_left hb g3
  have c : b * (a / b) = a / b * b := Int.mul_comm ..
  unfold cd
  split
  · next h =>
    have e2 : (a / b + 1) * b = a / b * b + b := by rw [Int.add_mul, Int.one_mul]
    have e3 : (a / b + 1 - 1) * b = a / b * b := by rw [Int.add_sub_cancel]
    refine ⟨by omega, ?_, by omega, by omega⟩
    by_cases q : b = 1
    · subst q; omega
    · have : a / b * 2 ≤ a / b * b := Int.mul_le_mul_of_nonneg_left (by omega) g3
      omega
  · next h =>
    have e3 : (a / b - 1) * b = a / b * b - b := by rw [Int.sub_mul, Int.one_mul]
    refine ⟨?_, by omega, by omega, by omega⟩
    rcases Int.lt_or_le (a / b) 1 with q | q
    · have : a / b = 0 := by omega
      rw [this] at e; omega
    · exact q

theorem ceil_eq {k : Nat} (hk : 0 < k) {a b : Int} (ha : 1 ≤ a) (ha2 : a ≤ 128) (hb : 1 ≤ b) : extent_Ceil.f k a b = some (cd a b) := by
  obtain ⟨k, rfl⟩ : ∃ n, k = n + 1 := ⟨k - 1, by omega⟩
  have hs := cd_spec ha hb
  have h1 : 0 ≤ a / b := Int.ediv_nonneg (by omega) (by omega)
  have h2 : a / b ≤ a := Int.ediv_le_self b (by omega)
  unfold extent_Ceil.f cd
  rw [if_neg (by omega), decide_eq_false (by omega)]
  simp only [extent_Ceil.j0, if_neg Bool.false_ne_true]
  rw [if_neg (by omega), Int.tmod_eq_emod_of_nonneg (by omega), Int.tdiv_eq_ediv_of_nonneg (by omega), wrap_in (n := a / b) (by omega) (by omega), wrap_in (n := a / b + 1) (by omega) (by omega)]
  split <;> rfl

abbrev Fine (w h tw th : Int) : Prop := 1 ≤ w ∧ w ≤ 128 ∧ 1 ≤ h ∧ h ≤ 128 ∧ 1 ≤ tw ∧ tw ≤ 64 ∧ 1 ≤ th ∧ th ≤ 64

theorem between_eq (a b : Int) : grid_between.f a b = some (decide (1 ≤ a ∧ a ≤ b)) := by
  unfold grid_between.f
  split
  · exact sd_iff (by omega)
  · exact sd_false (by omega)

theorem count_eq {k : Nat} (hk : 1 < k) (w h tw th : Int) : grid_Count.f k w h tw th = some (if Fine w h tw th then (cd w tw, cd h th) else (0, 0)) := by
  obtain ⟨k, rfl⟩ : ∃ n, k = n + 1 := ⟨k - 1, by omega⟩
  have hj : grid_Count.j0 (k + 1) w h tw th true = some (0, 0) := by simp only [grid_Count.j0, if_true]
  unfold grid_Count.f
  simp only [between_eq, Option.bind_some, decide_eq_true_eq]
  by_cases h1 : 1 ≤ w ∧ w ≤ 128
  · rw [if_pos h1]
    by_cases h2 : 1 ≤ h ∧ h ≤ 128
    · rw [if_pos h2]
      by_cases h3 : 1 ≤ tw ∧ tw ≤ 64
      · rw [if_pos h3]
        by_cases h4 : 1 ≤ th ∧ th ≤ 64
        · rw [decide_eq_true h4, if_pos ⟨h1.1, h1.2, h2.1, h2.2, h3.1, h3.2, h4⟩]
          simp only [grid_Count.j0, Bool.not_true, if_neg Bool.false_ne_true]
          rw [ceil_eq (by omega) h1.1 h1.2 h3.1, ceil_eq (by omega) h2.1 h2.2 h4.1]
          rfl
        · rw [decide_eq_false h4, if_neg (fun h => h4 h.2.2.2.2.2.2)]
          exact hj
      · rw [if_neg h3, if_neg (fun h => h3 ⟨h.2.2.2.2.1, h.2.2.2.2.2.1⟩)]
        exact hj
    · rw [if_neg h2, if_neg (fun h => h2 ⟨h.2.2.1, h.2.2.2.1⟩)]
      exact hj
  · rw [if_neg h1, if_neg (fun h => h1 ⟨h.1, h.2.1⟩)]
    exact hj

/-- A quotient within the count. -/
theorem div_lt_cd {x a b : Int} (ha : 1 ≤ a) (hb : 1 ≤ b) (h0 : 0 ≤ x) (h : x < a) : 0 ≤ x / b ∧ x / b < cd a b := by
  have hs := cd_spec ha hb
  refine ⟨Int.ediv_nonneg h0 (by omega), ?_⟩
  rw [Int.ediv_lt_iff_lt_mul (by omega)]
  omega

theorem mul_small {x y B C : Int} (hx : 0 ≤ x) (hy : 0 ≤ y) (hxB : x ≤ B) (hyB : y ≤ C) : 0 ≤ x * y ∧ x * y ≤ B * C := mul_bd hx hy hxB hyB

theorem of_eq {k : Nat} (hk : 1 < k) {w h tw th x y : Int} (hf : Fine w h tw th) (hx : 0 ≤ x) (hxw : x < w) (hy : 0 ≤ y) (hyh : y < h) :
    grid_Of.f k w h tw th x y = some (y / th * cd w tw + x / tw, true) := by
  have hc := cd_spec hf.1 hf.2.2.2.2.1
  have hdx := div_lt_cd (b := tw) hf.1 hf.2.2.2.2.1 hx hxw
  have hdy := div_lt_cd (b := th) hf.2.2.1 hf.2.2.2.2.2.2.1 hy hyh
  have hr := cd_spec hf.2.2.1 hf.2.2.2.2.2.2.1
  have hm := mul_bd (x := y / th) (y := cd w tw) (B := 128) (C := 128) hdy.1 (by omega) (by omega) (by omega)
  unfold grid_Of.f
  rw [count_eq hk, if_pos hf]
  simp only [Option.bind_some]
  rw [if_neg (by omega), if_neg (by omega), if_neg (by omega), if_neg (by omega), if_neg (by omega), if_neg (by omega), if_neg (by omega), Int.tdiv_eq_ediv_of_nonneg hy, Int.tdiv_eq_ediv_of_nonneg hx,
    wrap_in (n := y / th) (by omega) (by omega), wrap_in (n := x / tw) (by omega) (by omega), wrap_in (n := y / th * cd w tw) (by omega) (by omega), wrap_in (n := y / th * cd w tw + x / tw) (by omega) (by omega)]

/-- Row and column of a tile. -/
theorem row_col {i n m : Int} (hn : 1 ≤ n) (h0 : 0 ≤ i) (h : i < n * m) : 0 ≤ i % n ∧ i % n < n ∧ 0 ≤ i / n ∧ i / n < m :=
  ⟨Int.emod_nonneg i (by omega), Int.emod_lt_of_pos i (by omega), Int.ediv_nonneg h0 (by omega), by rw [Int.ediv_lt_iff_lt_mul (by omega), Int.mul_comm]; exact h⟩

/-- A tile begins inside of the plane. -/
theorem begin_lt {q a b : Int} (ha : 1 ≤ a) (hb : 1 ≤ b) (h0 : 0 ≤ q) (h : q < cd a b) : 0 ≤ q * b ∧ q * b < a := by
  have hs := cd_spec ha hb
  refine ⟨Int.mul_nonneg h0 (by omega), ?_⟩
  have : q * b ≤ (cd a b - 1) * b := Int.mul_le_mul_of_nonneg_right (by omega) (by omega)
  omega

theorem tile_eq {k : Nat} (hk : 1 < k) {w h tw th i : Int} (hf : Fine w h tw th) (h0 : 0 ≤ i) (hi : i < cd w tw * cd h th) :
    grid_Tile.f k w h tw th i = some (i % cd w tw * tw, i / cd w tw * th, min (i % cd w tw * tw + tw) w, min (i / cd w tw * th + th) h, true) := by
  have hc := cd_spec hf.1 hf.2.2.2.2.1
  have hr := cd_spec hf.2.2.1 hf.2.2.2.2.2.2.1
  have hm := mul_bd (x := cd w tw) (y := cd h th) (B := 128) (C := 128) (by omega) (by omega) (by omega) (by omega)
  obtain ⟨r1, r2, r3, r4⟩ := row_col hc.1 h0 hi
  have b1 := begin_lt hf.1 hf.2.2.2.2.1 r1 r2
  have b2 := begin_lt hf.2.2.1 hf.2.2.2.2.2.2.1 r3 r4
  unfold grid_Tile.f
  rw [count_eq hk, if_pos hf]
  simp only [Option.bind_some]
  rw [if_neg (by omega), wrap_in (n := cd w tw * cd h th) (by omega) (by omega), if_neg (by omega), if_neg (by omega), Int.tmod_eq_emod_of_nonneg h0, Int.tdiv_eq_ediv_of_nonneg h0,
    wrap_in (n := i / cd w tw) (by omega) (by omega), wrap_in (n := i % cd w tw * tw) (by omega) (by omega), wrap_in (n := i / cd w tw * th) (by omega) (by omega), wrap_in (n := i % cd w tw * tw + tw) (by omega) (by omega), wrap_in (n := i / cd w tw * th + th) (by omega) (by omega), mn_min, mn_min]

theorem sane_eq : tilefarmlaw5_sane.f 100 = some true := by decide +kernel

theorem inside_eq {a b c d w h : Int} (h1 : 0 ≤ a) (h2 : a < c) (h3 : c ≤ w) (h4 : 0 ≤ b) (h5 : b < d) (h6 : d ≤ h) (hw : w ≤ 1000) (hh : h ≤ 1000) : tilefarmref2_Inside.f a b c d 0 0 w h = some true := by
  have v1 : V a b c d := V_of' (by omega)
  have v2 : V 0 0 w h := V_of' (by omega)
  unfold tilefarmref2_Inside.f
  simp only [ref_valid_eq, rempty_eq, Option.bind_some, decide_eq_true_eq]
  rw [if_pos v1, if_pos v2]
  clear v1 v2
  rw [if_neg (by omega), if_pos (by omega), if_pos (by omega), if_pos (by omega), decide_eq_true h6]

/-- The area of the tiles before tile i. -/
def part (w h tw th i : Int) : Int :=
  min (i / cd w tw * th) h * w + (min (i / cd w tw * th + th) h - min (i / cd w tw * th) h) * min (i % cd w tw * tw) w

theorem part_step {w h tw th i : Int} (hf : Fine w h tw th) (h0 : 0 ≤ i) (hi : i < cd w tw * cd h th) :
    part w h tw th (i + 1) = part w h tw th i + (min (i % cd w tw * tw + tw) w - i % cd w tw * tw) * (min (i / cd w tw * th + th) h - i / cd w tw * th) := by
  have hc := cd_spec hf.1 hf.2.2.2.2.1
  have hr := cd_spec hf.2.2.1 hf.2.2.2.2.2.2.1
  obtain ⟨r1, r2, r3, r4⟩ := row_col hc.1 h0 hi
  have b1 := begin_lt hf.1 hf.2.2.2.2.1 r1 r2
  have b2 := begin_lt hf.2.2.1 hf.2.2.2.2.2.2.1 r3 r4
  have e := Int.mul_ediv_add_emod i (cd w tw)
  unfold part
  by_cases q : i % cd w tw + 1 < cd w tw
  · have e1 : (i + 1) / cd w tw = i / cd w tw := by
      rw [show i + 1 = (i % cd w tw + 1) + cd w tw * (i / cd w tw) by omega, Int.add_mul_ediv_left _ _ (by omega), Int.ediv_eq_zero_of_lt (by omega) q, Int.zero_add]
    have e2 : (i + 1) % cd w tw = i % cd w tw + 1 := by
      rw [show i + 1 = (i % cd w tw + 1) + cd w tw * (i / cd w tw) by omega, Int.add_mul_emod_self_left, Int.emod_eq_of_lt (by omega) q]
    have b3 := begin_lt (q := i % cd w tw + 1) hf.1 hf.2.2.2.2.1 (by omega) q
    rw [e1, e2]
    have e3 : (i % cd w tw + 1) * tw = i % cd w tw * tw + tw := by rw [Int.add_mul, Int.one_mul]
    rw [e3] at b3 ⊢
    generalize i % cd w tw * tw = x at *
    generalize i / cd w tw * th = y at *
    rw [Int.min_eq_left (show y ≤ h by omega), Int.min_eq_left (show x ≤ w by omega)]
    generalize min (x + tw) w = x' at *
    generalize min (y + th) h = y' at *
    grind
  · have hq : i % cd w tw = cd w tw - 1 := by omega
    have e1 : (i + 1) / cd w tw = i / cd w tw + 1 := by
      rw [show i + 1 = 0 + cd w tw * (i / cd w tw + 1) by rw [Int.mul_add, Int.mul_one]; omega, Int.add_mul_ediv_left _ _ (by omega)]
      simp
    have e2 : (i + 1) % cd w tw = 0 := by
      rw [show i + 1 = 0 + cd w tw * (i / cd w tw + 1) by rw [Int.mul_add, Int.mul_one]; omega, Int.add_mul_emod_self_left]
      rfl
    have e4 : (i / cd w tw + 1) * th = i / cd w tw * th + th := by rw [Int.add_mul, Int.one_mul]
    have e5 : i % cd w tw * tw + tw = cd w tw * tw := by rw [hq, Int.sub_mul, Int.one_mul]; omega
    rw [e1, e2, e4, e5, Int.min_eq_right (show w ≤ cd w tw * tw from hc.2.2.2), Int.zero_mul, Int.min_eq_left (show 0 ≤ w by omega)]
    generalize i % cd w tw * tw = x at *
    generalize i / cd w tw * th = y at *
    rw [Int.min_eq_left (show y ≤ h by omega), Int.min_eq_left (show x ≤ w by omega)]
    generalize min (y + th) h = y' at *
    grind

theorem part_end {w h tw th : Int} (hf : Fine w h tw th) : part w h tw th (cd w tw * cd h th) = w * h := by
  have hc := cd_spec hf.1 hf.2.2.2.2.1
  have hr := cd_spec hf.2.2.1 hf.2.2.2.2.2.2.1
  unfold part
  rw [Int.mul_ediv_cancel_left _ (by omega), Int.mul_emod_right, Int.min_eq_right hr.2.2.2, Int.zero_mul, Int.min_eq_left (show 0 ≤ w by omega), Int.mul_zero, Int.add_zero, Int.mul_comm]

theorem part_le {w h tw th : Int} (hf : Fine w h tw th) (d : Nat) : ∀ i : Int, 0 ≤ i → i + d = cd w tw * cd h th → part w h tw th i ≤ w * h := by
  induction d with
  | zero =>
    intro i h0 hi
    rw [show i = cd w tw * cd h th by omega, part_end hf]
    exact Int.le_refl _
  | succ d ih =>
    intro i h0 hi
    have hs := part_step hf h0 (by omega)
    have hi' := ih (i + 1) (by omega) (by omega)
    have hc := cd_spec hf.1 hf.2.2.2.2.1
    obtain ⟨r1, r2, r3, r4⟩ := row_col hc.1 h0 (show i < cd w tw * cd h th by omega)
    have b1 := begin_lt hf.1 hf.2.2.2.2.1 r1 r2
    have b2 := begin_lt hf.2.2.1 hf.2.2.2.2.2.2.1 r3 r4
    have := Int.mul_nonneg (show 0 ≤ min (i % cd w tw * tw + tw) w - i % cd w tw * tw by omega) (show 0 ≤ min (i / cd w tw * th + th) h - i / cd w tw * th by omega)
    omega

theorem part_nonneg {w h tw th : Int} (hf : Fine w h tw th) (i : Int) (h0 : 0 ≤ i) : 0 ≤ part w h tw th i := by
  have hc := cd_spec hf.1 hf.2.2.2.2.1
  have r1 := Int.emod_nonneg i (show cd w tw ≠ 0 by omega)
  have r2 : 0 ≤ i / cd w tw := Int.ediv_nonneg h0 (by omega)
  have g1 := Int.mul_nonneg r1 (show 0 ≤ tw by omega)
  have g2 := Int.mul_nonneg r2 (show 0 ≤ th by omega)
  unfold part
  exact Int.add_nonneg (Int.mul_nonneg (by omega) (by omega)) (Int.mul_nonneg (by omega) (by omega))

/-- A point is in tile i exactly if i is its tile. -/
theorem in_tile {w h tw th x y i : Int} (hf : Fine w h tw th) (hx : 0 ≤ x) (hxw : x < w) (hy : 0 ≤ y) (hyh : y < h) (h0 : 0 ≤ i) :
    (i % cd w tw * tw ≤ x ∧ x < min (i % cd w tw * tw + tw) w ∧ i / cd w tw * th ≤ y ∧ y < min (i / cd w tw * th + th) h) ↔ i = y / th * cd w tw + x / tw := by
  have hc := cd_spec hf.1 hf.2.2.2.2.1
  have d1 := div_lt_cd (b := tw) hf.1 hf.2.2.2.2.1 hx hxw
  have e := Int.mul_ediv_add_emod i (cd w tw)
  have e1 := Int.mul_ediv_add_emod x tw
  have e2 := Int.mul_ediv_add_emod y th
  have e3 := Int.emod_nonneg x (show tw ≠ 0 by omega)
  have e4 := Int.emod_lt_of_pos x (show 0 < tw by omega)
  have e5 := Int.emod_nonneg y (show th ≠ 0 by omega)
  have e6 := Int.emod_lt_of_pos y (show 0 < th by omega)
  have key : ∀ a b p : Int, 1 ≤ b → (p * b ≤ a ∧ a < p * b + b ↔ a / b = p) := by
    intro a b p hb
    refine ⟨fun ⟨g1, g2⟩ => ?_, fun g => ?_⟩
    · rw [show a = (a - p * b) + b * p by rw [Int.mul_comm]; omega, Int.add_mul_ediv_left _ _ (by omega), Int.ediv_eq_zero_of_lt (by omega) (by omega), Int.zero_add]
    · have k1 := Int.mul_ediv_add_emod a b
      have k2 := Int.emod_nonneg a (show b ≠ 0 by omega)
      have k3 := Int.emod_lt_of_pos a (show 0 < b by omega)
      rw [← g, Int.mul_comm]
      omega
  have kx := key x tw (i % cd w tw) (by omega)
  have ky := key y th (i / cd w tw) (by omega)
  refine ⟨fun ⟨g1, g2, g3, g4⟩ => ?_, fun g => ?_⟩
  · rw [kx.1 ⟨g1, by omega⟩, ky.1 ⟨g3, by omega⟩, Int.mul_comm]
    omega
  · have gx : i % cd w tw = x / tw := by
      rw [g, Int.add_comm, Int.add_mul_emod_self_right, Int.emod_eq_of_lt d1.1 d1.2]
    have gy : i / cd w tw = y / th := by
      rw [g, Int.add_comm, Int.add_mul_ediv_right _ _ (by omega), Int.ediv_eq_zero_of_lt d1.1 d1.2, Int.zero_add]
    have k1 := kx.2 gx.symm
    have k2 := ky.2 gy.symm
    omega

theorem loop {w h tw th x y : Int} (hf : Fine w h tw th) (hx : 0 ≤ x) (hxw : x < w) (hy : 0 ≤ y) (hyh : y < h) (hn : 0 ≤ y / th * cd w tw + x / tw ∧ y / th * cd w tw + x / tw < cd w tw * cd h th) (K : Nat) (hK : 200 < K) (d : Nat) :
    ∀ (i : Int) (f : Int), 0 ≤ i → i + d = cd w tw * cd h th → (f = if y / th * cd w tw + x / tw < i then 1 else 0) →
    tilefarmlaw5_GridPartition.l0 (K + 2 * d + 1) w h tw th x y (cd w tw) (cd h th) (y / th * cd w tw + x / tw) true (part w h tw th i) f i = some true := by
  have hc := cd_spec hf.1 hf.2.2.2.2.1
  have hr := cd_spec hf.2.2.1 hf.2.2.2.2.2.2.1
  have hm := mul_bd (x := cd w tw) (y := cd h th) (B := 128) (C := 128) (by omega) (by omega) (by omega) (by omega)
  have hwh := mul_bd (x := w) (y := h) (B := 128) (C := 128) (by omega) (by omega) (by omega) (by omega)
  induction d with
  | zero =>
    intro i f h0 hi hf'
    have hs : tilefarmlaw5_sane.f K = some true := at_rounds tilefarmlaw5_sane.mono (by omega) sane_eq
    rw [tilefarmlaw5_GridPartition.l0, wrap_in (n := cd w tw * cd h th) (by omega) (by omega), if_neg (by omega), if_pos rfl, hf', if_pos (by omega), wrap_in (n := w * h) (by omega) (by omega), if_pos (by rw [show i = cd w tw * cd h th by omega]; exact part_end hf)]
    simp only [Nat.mul_zero, Nat.add_zero, hs, Option.bind_some]
  | succ d ih =>
    intro i f h0 hi hf'
    have hi' : i < cd w tw * cd h th := by omega
    obtain ⟨r1, r2, r3, r4⟩ := row_col hc.1 h0 hi'
    have b1 := begin_lt hf.1 hf.2.2.2.2.1 r1 r2
    have b2 := begin_lt hf.2.2.1 hf.2.2.2.2.2.2.1 r3 r4
    have hstep := part_step hf h0 hi'
    have hle := part_le hf d (i + 1) (by omega) (by omega)
    have hp0 := part_nonneg hf (i + 1) (by omega)
    have hit := in_tile hf hx hxw hy hyh h0
    have ih' := ih (i + 1)
    rw [show K + 2 * (d + 1) + 1 = ((K + 2 * d + 1) + 1) + 1 by omega, tilefarmlaw5_GridPartition.l0, wrap_in (n := cd w tw * cd h th) (by omega) (by omega), if_pos hi', tile_eq (by omega) hf h0 hi']
    simp only [Option.bind_some, if_true]
    generalize i % cd w tw * tw = X at *
    generalize i / cd w tw * th = Y at *
    have hV : V X Y (min (X + tw) w) (min (Y + th) h) := V_of' (by omega)
    rw [inside_eq (by omega) (by omega) (by omega) (by omega) (by omega) (by omega) (by omega) (by omega)]
    simp only [Option.bind_some, if_true]
    rw [wrap_in (n := min (X + tw) w - X) (by omega) (by omega), if_neg (by omega), wrap_in (n := min (Y + th) h - Y) (by omega) (by omega), decide_eq_false (by omega), tilefarmlaw5_GridPartition.j1, if_neg Bool.false_ne_true, (rarea_eq hV).1, rcontains_eq hV]
    simp only [Option.bind_some, decide_eq_true_eq, hit]
    rw [wrap_in (n := i + 1) (by omega) (by omega), ← hstep, wrap_in (n := part w h tw th (i + 1)) (by omega) (by omega)]
    by_cases q : i = y / th * cd w tw + x / tw
    · rw [if_pos q, if_pos q, hf', if_neg (by omega)]
      exact ih' _ (by omega) (by omega) (by rw [if_pos (by omega), wrap_in (by omega) (by omega)]; rfl)
    · rw [if_neg q]
      refine ih' _ (by omega) (by omega) ?_
      rw [hf']
      by_cases q2 : y / th * cd w tw + x / tw < i
      · rw [if_pos q2, if_pos (by omega)]
      · rw [if_neg q2, if_neg (by omega)]

theorem GridPartition : tilefarmlaw5_GridPartition.Pure := by
  intro a0 a1 a2 a3 a4 _ _ _ _ _
  obtain ⟨K, hK⟩ : ∃ K : Nat, 200 < K := ⟨201, by omega⟩
  have m1 := Int.emod_nonneg a0 (by omega : (30 : Int) ≠ 0)
  have m2 := Int.emod_lt_of_pos a0 (by omega : (0 : Int) < 30)
  have m3 := Int.emod_nonneg a1 (by omega : (30 : Int) ≠ 0)
  have m4 := Int.emod_lt_of_pos a1 (by omega : (0 : Int) < 30)
  have m5 := Int.emod_nonneg a2 (by omega : (9 : Int) ≠ 0)
  have m6 := Int.emod_lt_of_pos a2 (by omega : (0 : Int) < 9)
  have m7 := Int.emod_nonneg a3 (by omega : (9 : Int) ≠ 0)
  have m8 := Int.emod_lt_of_pos a3 (by omega : (0 : Int) < 9)
  obtain ⟨w, hw, hw1, hw2⟩ : ∃ w, wrap64 (1 + a0 % 30) = w ∧ 1 ≤ w ∧ w ≤ 30 := ⟨_, wrap_in (by omega) (by omega), by omega, by omega⟩
  obtain ⟨h, hh, hh1, hh2⟩ : ∃ w, wrap64 (1 + a1 % 30) = w ∧ 1 ≤ w ∧ w ≤ 30 := ⟨_, wrap_in (by omega) (by omega), by omega, by omega⟩
  obtain ⟨tw, htw, htw1, htw2⟩ : ∃ w, wrap64 (1 + a2 % 9) = w ∧ 1 ≤ w ∧ w ≤ 9 := ⟨_, wrap_in (by omega) (by omega), by omega, by omega⟩
  obtain ⟨th, hth, hth1, hth2⟩ : ∃ w, wrap64 (1 + a3 % 9) = w ∧ 1 ≤ w ∧ w ≤ 9 := ⟨_, wrap_in (by omega) (by omega), by omega, by omega⟩
  have hf : Fine w h tw th := by omega
  have hc := cd_spec hw1 htw1
  have hr := cd_spec hh1 hth1
  have hm := mul_bd (x := cd w tw) (y := cd h th) (B := 128) (C := 128) (by omega) (by omega) (by omega) (by omega)
  have hwh := mul_bd (x := w) (y := h) (B := 30) (C := 30) (by omega) (by omega) (by omega) (by omega)
  have hwh1 : 1 * 1 ≤ w * h := Int.mul_le_mul hw1 hh1 (by omega) (by omega)
  refine ⟨K + 2 * (cd w tw * cd h th).toNat + 1, ?_⟩
  unfold tilefarmlaw5_GridPartition.f
  simp only [mod_eq _ 30 (by omega) (by omega), mod_eq _ 9 (by omega) (by omega), Option.bind_some, hw, hh, htw, hth]
  rw [wrap_in (n := w * h) (by omega) (by omega), mod_eq _ (w * h) (by omega) (by omega)]
  simp only [Option.bind_some]
  rw [if_neg (by omega)]
  obtain ⟨p, hp, hp1, hp2⟩ : ∃ p, a4 % (w * h) = p ∧ 0 ≤ p ∧ p < w * h := ⟨_, rfl, Int.emod_nonneg a4 (by omega), Int.emod_lt_of_pos a4 (by omega)⟩
  obtain ⟨x1, x2, y1, y2⟩ := row_col hw1 hp1 hp2
  rw [hp, Int.tmod_eq_emod_of_nonneg hp1, Int.tdiv_eq_ediv_of_nonneg hp1, wrap_in (n := p / w) (by omega) (by omega)]
  generalize p % w = x at *
  generalize p / w = y at *
  have d1 := div_lt_cd (b := tw) hw1 htw1 x1 x2
  have d2 := div_lt_cd (b := th) hh1 hth1 y1 y2
  have d3 : y / th * cd w tw ≤ (cd h th - 1) * cd w tw := Int.mul_le_mul_of_nonneg_right (by omega) (by omega)
  have d4 : 0 ≤ y / th * cd w tw := Int.mul_nonneg d2.1 (by omega)
  have d5 : (cd h th - 1) * cd w tw = cd w tw * cd h th - cd w tw := by rw [Int.sub_mul, Int.one_mul, Int.mul_comm]
  rw [count_eq (by omega), if_pos hf, of_eq (by omega) hf x1 x2 y1 y2]
  simp only [Option.bind_some]
  have hl := loop hf x1 x2 y1 y2 ⟨by omega, by omega⟩ K hK (cd w tw * cd h th).toNat 0 0 (by omega) (by omega) (by rw [if_neg (by omega)])
  have e0 : part w h tw th 0 = 0 := by
    unfold part
    rw [Int.zero_ediv, Int.zero_emod, Int.zero_mul, Int.zero_mul, Int.min_eq_left (show 0 ≤ h by omega), Int.min_eq_left (show 0 ≤ w by omega), Int.mul_zero, Int.zero_mul, Int.zero_add]
  rw [e0] at hl
  exact hl


end Go.Proofs.Ytikpmojofdndnaa.Pure

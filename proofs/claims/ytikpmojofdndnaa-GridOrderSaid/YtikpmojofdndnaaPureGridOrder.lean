/- Tiles are numbered row by row: a point to the right or below in another tile has a greater number: for all integers. -/
import Derived.Test.YtikpmojofdndnaaPGridOrderx5
namespace Go.Proofs.Ytikpmojofdndnaa.Pure
open Go.RowKit Go.Proofs.Ytikpmojofdndnaa.PGridOrder Go.Proofs.YtikpmojofdndnaaW.PrintWords Go.Proofs.YtikpmojofdndnaaW.PrintLast Go.Proofs.YtikpmojofdndnaaW.PrintMore
set_option linter.unusedVariables false
set_option linter.unusedSimpArgs false

theorem wrap_in {n : Int} (h : -9223372036854775808 ≤ n) (h' : n ≤ 9223372036854775807) : wrap64 n = n := by unfold wrap64; omega

theorem tmod_emod (a n : Int) (h : 0 < n) : (0 ≤ Int.tmod a n ∧ Int.tmod a n = a % n) ∨ (Int.tmod a n < 0 ∧ Int.tmod a n + n = a % n) := by
  have h1 := Int.tmod_eq_emod (a := a) (b := n)
  have h2 := Int.emod_nonneg a (by omega : n ≠ 0)
  have h3 := Int.emod_lt_of_pos a h
  split at h1 <;> omega

theorem mod_eq (a n : Int) (h : 0 < n) (hn : n ≤ 4611686018427387904) : tilefarmgen_Mod.f a n = some (a % n) := by
  have h2 := Int.emod_nonneg a (by omega : n ≠ 0)
  have h3 := Int.emod_lt_of_pos a h
  unfold tilefarmgen_Mod.f
  rw [if_neg (by omega)]
  rcases tmod_emod a n h with ⟨h4, h5⟩ | ⟨h4, h5⟩
  · rw [if_neg (by omega), h5]
  · rw [if_pos h4, wrap_in (by omega) (by omega), h5]

theorem sd_true {p : Prop} [Decidable p] (h : p) : some true = some (decide p) := by rw [decide_eq_true h]
theorem sd_false {p : Prop} [Decidable p] (h : ¬ p) : some false = some (decide p) := by rw [decide_eq_false h]
theorem sd_iff {p q : Prop} [Decidable p] [Decidable q] (h : q ↔ p) : some (decide q) = some (decide p) := by rw [decide_eq_decide.2 h]

theorem mx_max (a b : Int) : mx a b = max a b := by unfold mx; omega
theorem mn_min (a b : Int) : mn a b = min a b := by unfold mn; omega

theorem mul_bd {x y B C : Int} (hx : 0 ≤ x) (hy : 0 ≤ y) (hxB : x ≤ B) (hyB : y ≤ C) : 0 ≤ x * y ∧ x * y ≤ B * C :=
  ⟨Int.mul_nonneg hx hy, Int.mul_le_mul hxB hyB hy (by omega)⟩

theorem dec_iff {p q : Prop} [Decidable p] [Decidable q] (h : p ↔ q) : decide p = decide q := decide_eq_decide.2 h
theorem and_not_dec (p q : Prop) [Decidable p] [Decidable q] : (decide p && !decide q) = decide (p ∧ ¬ q) := by
  by_cases hp : p <;> by_cases hq : q <;> simp [hp, hq]

theorem wrap64_range (n : Int) : -9223372036854775808 ≤ wrap64 n ∧ wrap64 n ≤ 9223372036854775807 := by unfold wrap64; omega

theorem wf_range {n : Int} (h : (Lit.int .i64 n).wf = true) : -9223372036854775808 ≤ n ∧ n ≤ 9223372036854775807 := by
  simp only [Lit.wf, IntKind.min, IntKind.max, IntKind.signed, IntKind.bits, Bool.and_eq_true, decide_eq_true_eq, if_true] at h
  omega


/-- a / b, rounded up. -/
def cd (a b : Int) : Int := if a % b > 0 then a / b + 1 else a / b

theorem cd_spec {a b : Int} (ha : 1 ≤ a) (hb : 1 ≤ b) : 1 ≤ cd a b ∧ cd a b ≤ a ∧ (cd a b - 1) * b < a ∧ a ≤ cd a b * b := by
  have e := Int.mul_ediv_add_emod a b
  have g1 := Int.emod_nonneg a (by omega : b ≠ 0)
  have g2 := Int.emod_lt_of_pos a (by omega : 0 < b)
  have g3 : 0 ≤ a / b := Int.ediv_nonneg (by omega) (by omega)
  have g4 : a / b * 1 ≤ a / b * b := Int.mul_le_mul_of_nonneg_left hb g3
  have c : b * (a / b) = a / b * b := Int.mul_comm ..
  unfold cd
  split
  · next h =>
    have e2 : (a / b + 1) * b = a / b * b + b := by rw [Int.add_mul, Int.one_mul]
    have e3 : (a / b + 1 - 1) * b = a / b * b := by rw [Int.add_sub_cancel]
    refine ⟨by omega, ?_, by omega, by omega⟩
    by_cases q : b = 1
    · subst q; omega
    · have : a / b * 2 ≤ a / b * b := Int.mul_le_mul_of_nonneg_left (by omega) g3
      omega
  · next h =>
    have e3 : (a / b - 1) * b = a / b * b - b := by rw [Int.sub_mul, Int.one_mul]
    refine ⟨?_, by omega, by omega, by omega⟩
    rcases Int.lt_or_le (a / b) 1 with q | q
    · have : a / b = 0 := by omega
      rw [this] at e; omega
    · exact q

theorem ceil_eq {k : Nat} (hk : 0 < k) {a b : Int} (ha : 1 ≤ a) (ha2 : a ≤ 128) (hb : 1 ≤ b) : extent_Ceil.f k a b = some (cd a b) := by
  obtain ⟨k, rfl⟩ : ∃ n, k = n + 1 := ⟨k - 1, by omega⟩
  have hs := cd_spec ha hb
  have h1 : 0 ≤ a / b := Int.ediv_nonneg (by omega) (by omega)
  have h2 : a / b ≤ a := Int.ediv_le_self b (by omega)
  unfold extent_Ceil.f cd
  rw [if_neg (by omega), decide_eq_false (by omega)]
  simp only [extent_Ceil.j0, if_neg Bool.false_ne_true]
  rw [if_neg (by omega), Int.tmod_eq_emod_of_nonneg (by omega), Int.tdiv_eq_ediv_of_nonneg (by omega), wrap_in (n := a / b) (by omega) (by omega), wrap_in (n := a / b + 1) (by omega) (by omega)]
  split <;> rfl

abbrev Fine (w h tw th : Int) : Prop := 1 ≤ w ∧ w ≤ 128 ∧ 1 ≤ h ∧ h ≤ 128 ∧ 1 ≤ tw ∧ tw ≤ 64 ∧ 1 ≤ th ∧ th ≤ 64

theorem between_eq (a b : Int) : grid_between.f a b = some (decide (1 ≤ a ∧ a ≤ b)) := by
  unfold grid_between.f
  split
  · exact sd_iff (by omega)
  · exact sd_false (by omega)

theorem count_eq {k : Nat} (hk : 1 < k) (w h tw th : Int) : grid_Count.f k w h tw th = some (if Fine w h tw th then (cd w tw, cd h th) else (0, 0)) := by
  obtain ⟨k, rfl⟩ : ∃ n, k = n + 1 := ⟨k - 1, by omega⟩
  have hj : grid_Count.j0 (k + 1) w h tw th true = some (0, 0) := by simp only [grid_Count.j0, if_true]
  unfold grid_Count.f
  simp only [between_eq, Option.bind_some, decide_eq_true_eq]
  by_cases h1 : 1 ≤ w ∧ w ≤ 128
  · rw [if_pos h1]
    by_cases h2 : 1 ≤ h ∧ h ≤ 128
    · rw [if_pos h2]
      by_cases h3 : 1 ≤ tw ∧ tw ≤ 64
      · rw [if_pos h3]
        by_cases h4 : 1 ≤ th ∧ th ≤ 64
        · rw [decide_eq_true h4, if_pos ⟨h1.1, h1.2, h2.1, h2.2, h3.1, h3.2, h4⟩]
          simp only [grid_Count.j0, Bool.not_true, if_neg Bool.false_ne_true]
          rw [ceil_eq (by omega) h1.1 h1.2 h3.1, ceil_eq (by omega) h2.1 h2.2 h4.1]
          rfl
        · rw [decide_eq_false h4, if_neg (fun h => h4 h.2.2.2.2.2.2)]
          exact hj
      · rw [if_neg h3, if_neg (fun h => h3 ⟨h.2.2.2.2.1, h.2.2.2.2.2.1⟩)]
        exact hj
    · rw [if_neg h2, if_neg (fun h => h2 ⟨h.2.2.1, h.2.2.2.1⟩)]
      exact hj
  · rw [if_neg h1, if_neg (fun h => h1 ⟨h.1, h.2.1⟩)]
    exact hj

/-- A quotient within the count. -/
theorem div_lt_cd {x a b : Int} (ha : 1 ≤ a) (hb : 1 ≤ b) (h0 : 0 ≤ x) (h : x < a) : 0 ≤ x / b ∧ x / b < cd a b := by
  have hs := cd_spec ha hb
  refine ⟨Int.ediv_nonneg h0 (by omega), ?_⟩
  rw [Int.ediv_lt_iff_lt_mul (by omega)]
  omega

theorem mul_small {x y B C : Int} (hx : 0 ≤ x) (hy : 0 ≤ y) (hxB : x ≤ B) (hyB : y ≤ C) : 0 ≤ x * y ∧ x * y ≤ B * C := mul_bd hx hy hxB hyB

theorem of_eq {k : Nat} (hk : 1 < k) {w h tw th x y : Int} (hf : Fine w h tw th) (hx : 0 ≤ x) (hxw : x < w) (hy : 0 ≤ y) (hyh : y < h) :
    grid_Of.f k w h tw th x y = some (y / th * cd w tw + x / tw, true) := by
  have hc := cd_spec hf.1 hf.2.2.2.2.1
  have hdx := div_lt_cd (b := tw) hf.1 hf.2.2.2.2.1 hx hxw
  have hdy := div_lt_cd (b := th) hf.2.2.1 hf.2.2.2.2.2.2.1 hy hyh
  have hr := cd_spec hf.2.2.1 hf.2.2.2.2.2.2.1
  have hm := mul_bd (x := y / th) (y := cd w tw) (B := 128) (C := 128) hdy.1 (by omega) (by omega) (by omega)
  unfold grid_Of.f
  rw [count_eq hk, if_pos hf]
  simp only [Option.bind_some]
  rw [if_neg (by omega), if_neg (by omega), if_neg (by omega), if_neg (by omega), if_neg (by omega), if_neg (by omega), if_neg (by omega), Int.tdiv_eq_ediv_of_nonneg hy, Int.tdiv_eq_ediv_of_nonneg hx,
    wrap_in (n := y / th) (by omega) (by omega), wrap_in (n := x / tw) (by omega) (by omega), wrap_in (n := y / th * cd w tw) (by omega) (by omega), wrap_in (n := y / th * cd w tw + x / tw) (by omega) (by omega)]

/-- Row and column of a tile. -/
theorem row_col {i n m : Int} (hn : 1 ≤ n) (h0 : 0 ≤ i) (h : i < n * m) : 0 ≤ i % n ∧ i % n < n ∧ 0 ≤ i / n ∧ i / n < m :=
  ⟨Int.emod_nonneg i (by omega), Int.emod_lt_of_pos i (by omega), Int.ediv_nonneg h0 (by omega), by rw [Int.ediv_lt_iff_lt_mul (by omega), Int.mul_comm]; exact h⟩

/-- A tile begins inside of the plane. -/
theorem begin_lt {q a b : Int} (ha : 1 ≤ a) (hb : 1 ≤ b) (h0 : 0 ≤ q) (h : q < cd a b) : 0 ≤ q * b ∧ q * b < a := by
  have hs := cd_spec ha hb
  refine ⟨Int.mul_nonneg h0 (by omega), ?_⟩
  have : q * b ≤ (cd a b - 1) * b := Int.mul_le_mul_of_nonneg_right (by omega) (by omega)
  omega

theorem tile_eq {k : Nat} (hk : 1 < k) {w h tw th i : Int} (hf : Fine w h tw th) (h0 : 0 ≤ i) (hi : i < cd w tw * cd h th) :
    grid_Tile.f k w h tw th i = some (i % cd w tw * tw, i / cd w tw * th, min (i % cd w tw * tw + tw) w, min (i / cd w tw * th + th) h, true) := by
  have hc := cd_spec hf.1 hf.2.2.2.2.1
  have hr := cd_spec hf.2.2.1 hf.2.2.2.2.2.2.1
  have hm := mul_bd (x := cd w tw) (y := cd h th) (B := 128) (C := 128) (by omega) (by omega) (by omega) (by omega)
  obtain ⟨r1, r2, r3, r4⟩ := row_col hc.1 h0 hi
  have b1 := begin_lt hf.1 hf.2.2.2.2.1 r1 r2
  have b2 := begin_lt hf.2.2.1 hf.2.2.2.2.2.2.1 r3 r4
  unfold grid_Tile.f
  rw [count_eq hk, if_pos hf]
  simp only [Option.bind_some]
  rw [if_neg (by omega), wrap_in (n := cd w tw * cd h th) (by omega) (by omega), if_neg (by omega), if_neg (by omega), Int.tmod_eq_emod_of_nonneg h0, Int.tdiv_eq_ediv_of_nonneg h0,
    wrap_in (n := i / cd w tw) (by omega) (by omega), wrap_in (n := i % cd w tw * tw) (by omega) (by omega), wrap_in (n := i / cd w tw * th) (by omega) (by omega), wrap_in (n := i % cd w tw * tw + tw) (by omega) (by omega), wrap_in (n := i / cd w tw * th + th) (by omega) (by omega), mn_min, mn_min]

theorem sane_eq : tilefarmlaw5_sane.f 100 = some true := by decide +kernel

theorem bd {a n : Int} (h : 0 < n) (hn : n ≤ 1000) : ∃ x, a % n = x ∧ 0 ≤ x ∧ x < n := ⟨_, rfl, Int.emod_nonneg a (by omega), Int.emod_lt_of_pos a h⟩

theorem GridOrder : tilefarmlaw5_GridOrder.Pure := by
  intro a0 a1 a2 a3 a4 a5 a6 _ _ _ _ _ _ _
  refine ⟨100, ?_⟩
  unfold tilefarmlaw5_GridOrder.f
  simp only [mod_eq _ 30 (by omega) (by omega), mod_eq _ 9 (by omega) (by omega), mod_eq _ 12 (by omega) (by omega), Option.bind_some]
  have m1 := Int.emod_nonneg a0 (by omega : (30 : Int) ≠ 0)
  have m2 := Int.emod_lt_of_pos a0 (by omega : (0 : Int) < 30)
  have m3 := Int.emod_nonneg a1 (by omega : (30 : Int) ≠ 0)
  have m4 := Int.emod_lt_of_pos a1 (by omega : (0 : Int) < 30)
  have m5 := Int.emod_nonneg a2 (by omega : (9 : Int) ≠ 0)
  have m6 := Int.emod_lt_of_pos a2 (by omega : (0 : Int) < 9)
  have m7 := Int.emod_nonneg a3 (by omega : (9 : Int) ≠ 0)
  have m8 := Int.emod_lt_of_pos a3 (by omega : (0 : Int) < 9)
  have m9 := Int.emod_nonneg a6 (by omega : (12 : Int) ≠ 0)
  have m10 := Int.emod_lt_of_pos a6 (by omega : (0 : Int) < 12)
  obtain ⟨w, hw, hw1, hw2⟩ : ∃ w, wrap64 (1 + a0 % 30) = w ∧ 1 ≤ w ∧ w ≤ 30 := ⟨_, wrap_in (by omega) (by omega), by omega, by omega⟩
  obtain ⟨h, hh, hh1, hh2⟩ : ∃ w, wrap64 (1 + a1 % 30) = w ∧ 1 ≤ w ∧ w ≤ 30 := ⟨_, wrap_in (by omega) (by omega), by omega, by omega⟩
  obtain ⟨tw, htw, htw1, htw2⟩ : ∃ w, wrap64 (1 + a2 % 9) = w ∧ 1 ≤ w ∧ w ≤ 9 := ⟨_, wrap_in (by omega) (by omega), by omega, by omega⟩
  obtain ⟨th, hth, hth1, hth2⟩ : ∃ w, wrap64 (1 + a3 % 9) = w ∧ 1 ≤ w ∧ w ≤ 9 := ⟨_, wrap_in (by omega) (by omega), by omega, by omega⟩
  obtain ⟨z, hz, hz1, hz2⟩ : ∃ z, a6 % 12 = z ∧ 0 ≤ z ∧ z < 12 := ⟨_, rfl, m9, m10⟩
  simp only [hw, hh, htw, hth, hz]
  clear m1 m2 m3 m4 m5 m6 m7 m8 m9 m10 hw hh htw hth hz
  rw [mod_eq _ w (by omega) (by omega)]
  simp only [Option.bind_some]
  rw [mod_eq _ h (by omega) (by omega)]
  simp only [Option.bind_some]
  obtain ⟨u, hu, hu1, hu2⟩ := bd (a := a4) (n := w) (by omega) (by omega)
  obtain ⟨v, hv, hv1, hv2⟩ := bd (a := a5) (n := h) (by omega) (by omega)
  rw [hu, hv]
  clear hu hv
  have e1 : mn (wrap64 (u + z)) (wrap64 (w - 1)) = min (u + z) (w - 1) := by rw [mn_min, wrap_in (by omega) (by omega), wrap_in (by omega) (by omega)]
  have e2 : mn (wrap64 (v + z)) (wrap64 (h - 1)) = min (v + z) (h - 1) := by rw [mn_min, wrap_in (by omega) (by omega), wrap_in (by omega) (by omega)]
  simp only [e1, e2]
  clear e1 e2
  obtain ⟨u', hu', hu3, hu4⟩ : ∃ x, min (u + z) (w - 1) = x ∧ u ≤ x ∧ x < w := ⟨_, rfl, by omega, by omega⟩
  obtain ⟨v', hv', hv3, hv4⟩ : ∃ x, min (v + z) (h - 1) = x ∧ v ≤ x ∧ x < h := ⟨_, rfl, by omega, by omega⟩
  rw [hu', hv']
  clear hu' hv'
  have hf : Fine w h tw th := by omega
  rw [of_eq (by omega) hf hu1 hu2 hv1 hv2, of_eq (by omega) hf (by omega) hu4 hv1 hv2, of_eq (by omega) hf hu1 hu2 (by omega) hv4, count_eq (by omega), if_pos hf]
  simp only [Option.bind_some, if_true]
  have hc := cd_spec hw1 htw1
  have hr := cd_spec hh1 hth1
  have d1 := div_lt_cd (b := tw) hw1 htw1 hu1 hu2
  have d2 := div_lt_cd (b := tw) hw1 htw1 (show 0 ≤ u' by omega) hu4
  have d3 := div_lt_cd (b := th) hh1 hth1 hv1 hv2
  have d4 := div_lt_cd (b := th) hh1 hth1 (show 0 ≤ v' by omega) hv4
  have d5 : u / tw ≤ u' / tw := Int.ediv_le_ediv (by omega) hu3
  have d6 : v / th ≤ v' / th := Int.ediv_le_ediv (by omega) hv3
  rw [Int.tdiv_eq_ediv_of_nonneg hv1, Int.tdiv_eq_ediv_of_nonneg (show 0 ≤ v' by omega)]
  generalize u / tw = p at *
  generalize u' / tw = p' at *
  generalize v / th = q at *
  generalize v' / th = q' at *
  generalize cd w tw = c at *
  generalize cd h th = r at *
  have b1 := mul_bd (x := q) (y := c) (B := 128) (C := 128) (by omega) (by omega) (by omega) (by omega)
  have b2 := mul_bd (x := q') (y := c) (B := 128) (C := 128) (by omega) (by omega) (by omega) (by omega)
  have b3 : q * c ≤ q' * c := Int.mul_le_mul_of_nonneg_right d6 (by omega)
  rw [wrap_in (n := q) (by omega) (by omega), wrap_in (n := q') (by omega) (by omega), if_pos (by omega), wrap_in (n := q * c + p' - (q * c + p)) (by omega) (by omega), if_pos (by omega), if_pos (by omega), if_neg (by omega), wrap_in (n := q' * c + p - (q * c + p)) (by omega) (by omega)]
  have e3 : q' * c + p - (q * c + p) = (q' - q) * c := by rw [Int.sub_mul]; omega
  rw [e3, Int.mul_tmod_left, if_pos rfl, if_neg (by omega), sane_eq]
  have e4 : (q' * c + p == q * c + p) = (q == q') := by
    rw [Bool.eq_iff_iff, beq_iff_eq, beq_iff_eq]
    refine ⟨fun hh => ?_, fun hh => by rw [hh]⟩
    have h1 : (q' - q) * c = 0 := by rw [← e3]; omega
    rcases Int.mul_eq_zero.1 h1 with h2 | h2 <;> omega
  rw [e4, if_pos (beq_self_eq_true _)]
  rfl


end Go.Proofs.Ytikpmojofdndnaa.Pure

/- An integral plane never falls to the right or downward, its last pixel is the sum of the plane, and the sums of two rectangles beside each other add up, for every tape. -/
import Derived.Test.YtkipnpgcpohlcaaKIntegralMonotonex10
import Derived.Test.YtkipnpgcpohlcaaKIntegralMonotonea
namespace Go.Proofs.Ytkipnpgcpohlcaa.Pure
open Go.RowKit Go.Proofs.Ytkipnpgcpohlcaa.PIntegralMonotone Go.Proofs.YtkipnpgcpohlcaaW.PrintWords Go.Proofs.YtkipnpgcpohlcaaW.PrintLast Go.Proofs.YtkipnpgcpohlcaaW.PrintMore
set_option linter.unusedVariables false
set_option linter.unusedSimpArgs false

theorem wrap_in {n : Int} (h : -9223372036854775808 ≤ n) (h' : n ≤ 9223372036854775807) : wrap64 n = n := by unfold wrap64; omega

theorem tmod_emod (a n : Int) (h : 0 < n) : (0 ≤ Int.tmod a n ∧ Int.tmod a n = a % n) ∨ (Int.tmod a n < 0 ∧ Int.tmod a n + n = a % n) := by
  have h1 := Int.tmod_eq_emod (a := a) (b := n)
  have h2 := Int.emod_nonneg a (by omega : n ≠ 0)
  have h3 := Int.emod_lt_of_pos a h
  split at h1 <;> omega

theorem mod_eq (a n : Int) (h : 0 < n) (hn : n ≤ 4611686018427387904) : tilefarmgen_Mod.f a n = some (a % n) := by
  have h2 := Int.emod_nonneg a (by omega : n ≠ 0)
  have h3 := Int.emod_lt_of_pos a h
  unfold tilefarmgen_Mod.f
  rw [if_neg (by omega)]
  rcases tmod_emod a n h with ⟨h4, h5⟩ | ⟨h4, h5⟩
  · rw [if_neg (by omega), h5]
  · rw [if_pos h4, wrap_in (by omega) (by omega), h5]

theorem sd_true {p : Prop} [Decidable p] (h : p) : some true = some (decide p) := by rw [decide_eq_true h]
theorem sd_false {p : Prop} [Decidable p] (h : ¬ p) : some false = some (decide p) := by rw [decide_eq_false h]
theorem sd_iff {p q : Prop} [Decidable p] [Decidable q] (h : q ↔ p) : some (decide q) = some (decide p) := by rw [decide_eq_decide.2 h]

theorem mx_max (a b : Int) : mx a b = max a b := by unfold mx; omega
theorem mn_min (a b : Int) : mn a b = min a b := by unfold mn; omega

theorem mul_bd {x y B C : Int} (hx : 0 ≤ x) (hy : 0 ≤ y) (hxB : x ≤ B) (hyB : y ≤ C) : 0 ≤ x * y ∧ x * y ≤ B * C :=
  ⟨Int.mul_nonneg hx hy, Int.mul_le_mul hxB hyB hy (by omega)⟩

theorem dec_iff {p q : Prop} [Decidable p] [Decidable q] (h : p ↔ q) : decide p = decide q := decide_eq_decide.2 h
theorem and_not_dec (p q : Prop) [Decidable p] [Decidable q] : (decide p && !decide q) = decide (p ∧ ¬ q) := by
  by_cases hp : p <;> by_cases hq : q <;> simp [hp, hq]

theorem wrap64_range (n : Int) : -9223372036854775808 ≤ wrap64 n ∧ wrap64 n ≤ 9223372036854775807 := by unfold wrap64; omega

theorem wf_range {n : Int} (h : (Lit.int .i64 n).wf = true) : -9223372036854775808 ≤ n ∧ n ≤ 9223372036854775807 := by
  simp only [Lit.wf, IntKind.min, IntKind.max, IntKind.signed, IntKind.bits, Bool.and_eq_true, decide_eq_true_eq, if_true] at h
  omega


theorem next_spec (l : List Int) (s n : Int) (hs : 0 ≤ s) (hl : l.length ≤ 4611686018427387904) (h : 0 < n) (hn : n ≤ 4611686018427387904) :
    ∃ r s', tilefarmgen_Tape_Next.f l s n = some (r, s') ∧ 0 ≤ r ∧ r < n ∧ 0 ≤ s' := by
  unfold tilefarmgen_Tape_Next.f
  rw [if_neg (by omega)]
  by_cases h1 : s ≥ (l.length : Int)
  · rw [if_pos h1]; exact ⟨_, _, rfl, by omega, by omega, hs⟩
  · have e1 : wrap64 (s + 1) = s + 1 := wrap_in (by omega) (by omega)
    have e2 : wrap64 (s + 1 - 1) = s := by rw [wrap_in (by omega) (by omega)]; omega
    rw [if_neg h1]
    simp only [e1, e2]
    rw [if_pos hs, if_pos (by omega), mod_eq _ _ h hn]
    exact ⟨_, _, rfl, Int.emod_nonneg _ (by omega), Int.emod_lt_of_pos _ h, by omega⟩


theorem rd_mem (l : List Int) (i : Nat) (h : i < l.length) : rd l (i : Int) ∈ l := by
  simp [rd, h]

theorem rd_drop (l : List Int) (i : Nat) (h : i < l.length) : l.drop i = rd l (i : Int) :: l.drop (i + 1) := by
  rw [List.drop_eq_getElem_cons h]
  simp [rd, h]

theorem next_o (l : List Int) (s n : Int) (hs : 0 ≤ s) (hl : l.length ≤ 4611686018427387904) (h : 0 < n) (hn : n ≤ 4611686018427387904) :
    ∃ bt, tilefarmgen_Tape_Next.f l s n = some bt ∧ 0 ≤ bt.1 ∧ bt.1 < n ∧ 0 ≤ bt.2 := by
  obtain ⟨r, s', h1, h2, h3, h4⟩ := next_spec l s n hs hl h hn
  exact ⟨(r, s'), h1, h2, h3, h4⟩

theorem pick_o (l : List Int) (s : Int) (xs : List Int) (hs : 0 ≤ s) (hl : l.length ≤ 4611686018427387904) (h : 0 < xs.length) (hx : xs.length ≤ 100) :
    ∃ bt, tilefarmgen_Tape_Pick.f l s xs = some bt ∧ bt.1 ∈ xs ∧ 0 ≤ bt.2 := by
  obtain ⟨r, s', h1, h2, h3, h4⟩ := next_spec l s (xs.length : Int) hs hl (by omega) (by omega)
  refine ⟨(rd xs r, s'), ?_, ?_, h4⟩
  · unfold tilefarmgen_Tape_Pick.f
    rw [h1, Option.bind_some, if_pos h2, if_pos h3]
  · obtain ⟨n, rfl⟩ := Int.eq_ofNat_of_zero_le h2
    exact rd_mem xs n (by omega)


/-! The pixels of a rectangle. -/
def rowg (g : Int → Int → Int) (y : Int) : Nat → Int → List Int
  | 0, _ => []
  | d + 1, x => g x y :: rowg g y d (x + 1)

def rowsg (g : Int → Int → Int) (x0 : Int) (w : Nat) : Nat → Int → List Int
  | 0, _ => []
  | d + 1, y => rowg g y w x0 ++ rowsg g x0 w d (y + 1)

theorem rowg_len (g : Int → Int → Int) (y : Int) : ∀ (d : Nat) (x : Int), (rowg g y d x).length = d
  | 0, _ => rfl
  | d + 1, x => by simp only [rowg]; rw [List.length_cons, rowg_len g y d (x + 1)]

theorem rowsg_len (g : Int → Int → Int) (x0 : Int) (w : Nat) : ∀ (d : Nat) (y : Int), (rowsg g x0 w d y).length = d * w
  | 0, _ => by simp [rowsg]
  | d + 1, y => by simp only [rowsg]; rw [List.length_append, rowg_len, rowsg_len g x0 w d (y + 1), Nat.add_mul]; omega

theorem rowg_get (g : Int → Int → Int) (y : Int) : ∀ (d : Nat) (x : Int) (i : Nat), i < d → (rowg g y d x)[i]? = some (g (x + (i : Int)) y)
  | 0, _, i, h => by omega
  | d + 1, x, 0, h => by simp [rowg]
  | d + 1, x, i + 1, h => by
    simp only [rowg, List.getElem?_cons_succ]
    rw [rowg_get g y d (x + 1) i (by omega), show x + 1 + (i : Int) = x + ((i + 1 : Nat) : Int) by omega]

theorem rowsg_get (g : Int → Int → Int) (x0 : Int) (w : Nat) : ∀ (d : Nat) (y : Int) (j i : Nat), j < d → i < w → (rowsg g x0 w d y)[j * w + i]? = some (g (x0 + (i : Int)) (y + (j : Int)))
  | 0, _, j, i, h, _ => by omega
  | d + 1, y, 0, i, h, hi => by
    simp only [rowsg]
    rw [List.getElem?_append_left (by rw [rowg_len]; omega), Nat.zero_mul, Nat.zero_add, rowg_get g y w x0 i hi]
    simp
  | d + 1, y, j + 1, i, h, hi => by
    simp only [rowsg]
    rw [List.getElem?_append_right (by rw [rowg_len, Nat.add_mul]; omega), rowg_len, show (j + 1) * w + i - w = j * w + i by rw [Nat.add_mul]; omega, rowsg_get g x0 w d (y + 1) j i (by omega) hi, show y + 1 + (j : Int) = y + ((j + 1 : Nat) : Int) by omega]

theorem rowsg_rd (g : Int → Int → Int) (x0 : Int) (w d : Nat) (y : Int) (j i : Nat) (hj : j < d) (hi : i < w) : rd (rowsg g x0 w d y) ((j * w + i : Nat) : Int) = g (x0 + (i : Int)) (y + (j : Int)) := by
  simp only [rd, Int.toNat_natCast, List.getD_eq_getElem?_getD]
  rw [rowsg_get g x0 w d y j i hj hi]
  rfl

theorem rowg_all (Q : Int → Prop) (g : Int → Int → Int) (h : ∀ x y, Q (g x y)) (y : Int) : ∀ (d : Nat) (x : Int), ∀ v ∈ rowg g y d x, Q v
  | 0, _, v, hv => by simp [rowg] at hv
  | d + 1, x, v, hv => by
    simp only [rowg, List.mem_cons] at hv
    rcases hv with hv | hv
    · rw [hv]; exact h _ _
    · exact rowg_all Q g h y d (x + 1) v hv

theorem rowsg_all (Q : Int → Prop) (g : Int → Int → Int) (h : ∀ x y, Q (g x y)) (x0 : Int) (w : Nat) : ∀ (d : Nat) (y : Int), ∀ v ∈ rowsg g x0 w d y, Q v
  | 0, _, v, hv => by simp [rowsg] at hv
  | d + 1, y, v, hv => by
    simp only [rowsg, List.mem_append] at hv
    rcases hv with hv | hv
    · exact rowg_all Q g h y w x0 v hv
    · exact rowsg_all Q g h x0 w d (y + 1) v hv


abbrev V (a b c d : Int) : Prop := (a = 0 ∧ b = 0 ∧ c = 0 ∧ d = 0) ∨ (-1048576 ≤ a ∧ a ≤ 1048576 ∧ -1048576 ≤ b ∧ b ≤ 1048576 ∧ -1048576 ≤ c ∧ c ≤ 1048576 ∧ -1048576 ≤ d ∧ d ≤ 1048576 ∧ a < c ∧ b < d)

theorem empty_eq (a b c d : Int) : rect_Empty.f a b c d = some (decide (a = 0 ∧ b = 0 ∧ c = 0 ∧ d = 0)) := by
  unfold rect_Empty.f
  congr 1
  rw [Bool.eq_iff_iff]
  simp

theorem coord_eq (a : Int) : rect_coord.f a = some (decide (-1048576 ≤ a ∧ a ≤ 1048576)) := by
  unfold rect_coord.f
  split <;> congr 1 <;> rw [Bool.eq_iff_iff] <;> simp <;> omega

theorem valid_eq (a b c d : Int) : rect_Valid.f a b c d = some (decide (V a b c d)) := by
  unfold rect_Valid.f
  simp only [empty_eq, coord_eq, Option.bind_some, decide_eq_true_eq]
  repeat' split
  all_goals first | (refine sd_iff ?_; omega) | (refine sd_true ?_; omega) | (refine sd_false ?_; omega)

def ix (a0 a1 a2 a3 b0 b1 b2 b3 : Int) : Int × Int × Int × Int :=
  if V a0 a1 a2 a3 ∧ V b0 b1 b2 b3 ∧ mx a0 b0 < mn a2 b2 ∧ mx a1 b1 < mn a3 b3 then (mx a0 b0, mx a1 b1, mn a2 b2, mn a3 b3) else (0, 0, 0, 0)

theorem intersect_eq (k : Nat) (a0 a1 a2 a3 b0 b1 b2 b3 : Int) : rect_Intersect.f (k + 1) a0 a1 a2 a3 b0 b1 b2 b3 = some (ix a0 a1 a2 a3 b0 b1 b2 b3) := by
  unfold rect_Intersect.f ix
  simp only [valid_eq, Option.bind_some, rect_Intersect.j0, decide_eq_true_eq, Bool.not_eq_true', decide_eq_false_iff_not, if_true]
  by_cases h1 : V a0 a1 a2 a3
  · by_cases h2 : V b0 b1 b2 b3
    · rw [if_pos h1, if_neg (fun h => h h2)]
      by_cases h3 : mx a0 b0 < mn a2 b2
      · by_cases h4 : mx a1 b1 < mn a3 b3
        · rw [if_neg (by omega), if_neg (by omega), if_pos ⟨h1, h2, h3, h4⟩]
        · rw [if_neg (by omega), if_pos (by omega), if_neg (fun h => h4 h.2.2.2)]
      · rw [if_pos (by omega), if_neg (fun h => h3 h.2.2.1)]
    · rw [if_pos h1, if_pos h2, if_neg (fun h => h2 h.2.1)]
  · rw [if_neg h1, if_neg (fun h => h1 h.1)]

theorem ix_spec {a0 a1 a2 a3 b0 b1 b2 b3 c0 c1 c2 c3 : Int} (hc : ix a0 a1 a2 a3 b0 b1 b2 b3 = (c0, c1, c2, c3)) (ha : V a0 a1 a2 a3) (hb : V b0 b1 b2 b3) :
    (c0 = 0 ∧ c1 = 0 ∧ c2 = 0 ∧ c3 = 0 ∧ (min a2 b2 ≤ max a0 b0 ∨ min a3 b3 ≤ max a1 b1)) ∨ (c0 = max a0 b0 ∧ c1 = max a1 b1 ∧ c2 = min a2 b2 ∧ c3 = min a3 b3 ∧ c0 < c2 ∧ c1 < c3) := by
  simp only [ix, mx_max, mn_min] at hc
  split at hc
  · next h =>
    simp only [Prod.mk.injEq] at hc
    exact .inr (by omega)
  · next h =>
    simp only [Prod.mk.injEq] at hc
    refine .inl ?_
    have : ¬ (max a0 b0 < min a2 b2 ∧ max a1 b1 < min a3 b3) := fun h' => h ⟨ha, hb, h'⟩
    omega

theorem ix_inside {a0 a1 a2 a3 b0 b1 b2 b3 c0 c1 c2 c3 : Int} (h : (c0 = 0 ∧ c1 = 0 ∧ c2 = 0 ∧ c3 = 0 ∧ (min a2 b2 ≤ max a0 b0 ∨ min a3 b3 ≤ max a1 b1)) ∨ (c0 = max a0 b0 ∧ c1 = max a1 b1 ∧ c2 = min a2 b2 ∧ c3 = min a3 b3 ∧ c0 < c2 ∧ c1 < c3))
    (hy : ¬ (c0 = 0 ∧ c1 = 0 ∧ c2 = 0 ∧ c3 = 0)) : a0 ≤ c0 ∧ c0 < c2 ∧ c2 ≤ a2 ∧ a1 ≤ c1 ∧ c1 < c3 ∧ c3 ≤ a3 := by
  rcases h with h | h
  · exact absurd ⟨h.1, h.2.1, h.2.2.1, h.2.2.2.1⟩ hy
  · omega

theorem V_range {a b c d : Int} (h : V a b c d) : -1048576 ≤ a ∧ c ≤ 1048576 ∧ -1048576 ≤ b ∧ d ≤ 1048576 := by omega
theorem V_mono {a b c d : Int} (h : V a b c d) : a ≤ c ∧ b ≤ d := by omega


theorem mul_some (a b c : Int) : ∃ p, extent_Mul.f a b c = some p := by
  unfold extent_Mul.f
  by_cases c1 : a < 0
  · rw [if_pos c1]; exact ⟨_, rfl⟩
  · rw [if_neg c1]
    by_cases c2 : b < 0
    · rw [if_pos c2]; exact ⟨_, rfl⟩
    · rw [if_neg c2]
      by_cases c3 : c < 0
      · rw [if_pos c3]; exact ⟨_, rfl⟩
      · rw [if_neg c3]
        by_cases c4 : a = 0
        · rw [if_pos c4]; exact ⟨_, rfl⟩
        · rw [if_neg c4]
          by_cases c5 : b > wrap64 (Int.tdiv c a)
          · rw [if_pos c5]; exact ⟨_, rfl⟩
          · rw [if_neg c5]; exact ⟨_, rfl⟩

/-- Which sizes a plane can have. -/
abbrev SZ (a b m : Int) : Prop := 1 ≤ a ∧ a ≤ 128 ∧ 1 ≤ b ∧ b ≤ 128 ∧ a * b ≤ 4096 ∧ 1 ≤ m ∧ m ≤ 4294967296

theorem size_no {a b m : Int} (h : ¬ SZ a b m) : some false = some (decide (SZ a b m)) := by rw [decide_eq_false h]

theorem size_val (a b m : Int) : plane_size.f a b m = some (decide (SZ a b m)) := by
  unfold plane_size.f
  by_cases c1 : a ≥ 1
  · by_cases c2 : a ≤ 128
    · by_cases c3 : b ≥ 1
      · by_cases c4 : b ≤ 128
        · obtain ⟨b0, b1⟩ := mul_bd (x := a) (y := b) (B := 128) (C := 128) (by omega) (by omega) c2 c4
          have hq : b ≤ 4096 / a ↔ b * a ≤ 4096 := Int.le_ediv_iff_mul_le (by omega)
          have q0 : 0 ≤ 4096 / a := Int.ediv_nonneg (by decide) (by omega)
          have q1 : 4096 / a ≤ 4096 := Int.ediv_le_self _ (by decide)
          rw [Int.mul_comm b a] at hq
          unfold extent_Mul.f
          rw [if_neg (show ¬ a < 0 by omega), if_neg (show ¬ b < 0 by omega), if_neg (show ¬ (4096 : Int) < 0 by decide), if_neg (show ¬ a = 0 by omega), Int.tdiv_eq_ediv_of_nonneg (by decide), wrap_in (n := 4096 / a) (by omega) (by omega), wrap_in (n := a * b) (by omega) (by omega)]
          by_cases c5 : b > 4096 / a
          · rw [if_pos c5]
            exact size_no (fun h => by have := hq.2 h.2.2.2.2.1; omega)
          · rw [if_neg c5, Option.bind_some]
            simp only [if_pos c1, if_pos c2, if_pos c3, if_pos c4, if_true]
            by_cases c6 : m ≥ 1
            · rw [if_pos c6]
              have := hq.1 (by omega)
              exact congrArg some (decide_eq_decide.2 ⟨fun h => ⟨c1, c2, c3, c4, this, c6, h⟩, fun h => h.2.2.2.2.2.2⟩)
            · rw [if_neg c6]
              exact size_no (fun h => c6 h.2.2.2.2.2.1)
        · obtain ⟨p, hp⟩ := mul_some a b 4096
          rw [hp, Option.bind_some]
          simp only [if_pos c1, if_pos c2, if_pos c3, if_neg c4, ite_self]
          exact size_no (fun h => c4 h.2.2.2.1)
      · obtain ⟨p, hp⟩ := mul_some a b 4096
        rw [hp, Option.bind_some]
        simp only [if_pos c1, if_pos c2, if_neg c3, ite_self]
        exact size_no (fun h => c3 h.2.2.1)
    · obtain ⟨p, hp⟩ := mul_some a b 4096
      rw [hp, Option.bind_some]
      simp only [if_pos c1, if_neg c2, ite_self]
      exact size_no (fun h => c2 h.2.1)
  · obtain ⟨p, hp⟩ := mul_some a b 4096
    rw [hp, Option.bind_some]
    simp only [if_neg c1, ite_self]
    exact size_no (fun h => c1 h.1)

/-- Which planes are valid. -/
abbrev PV (a b m : Int) (l : List Int) : Prop := SZ a b m ∧ (l.length : Int) = a * b ∧ ∀ v ∈ l, 0 ≤ v ∧ v ≤ m

theorem vloop_spec (a b m : Int) (l : List Int) (hl : l.length ≤ 4611686018427387904) : ∀ (d k i : Nat), i + d = l.length → d < k →
    plane_Valid.l0 k l (l.length : Int) (i : Int) a b m l = some (decide (∀ v ∈ l.drop i, 0 ≤ v ∧ v ≤ m))
  | 0, k, i, hi, hk => by
    obtain ⟨k, rfl⟩ : ∃ n, k = n + 1 := ⟨k - 1, by omega⟩
    rw [plane_Valid.l0, if_neg (show ¬ (i : Int) < (l.length : Int) by omega), List.drop_eq_nil_of_le (by omega)]
    simp
  | d + 1, k, i, hi, hk => by
    obtain ⟨k, rfl⟩ : ∃ n, k = n + 1 := ⟨k - 1, by omega⟩
    rw [plane_Valid.l0, rd_drop l i (by omega)]
    simp only [if_pos (show (i : Int) < (l.length : Int) by omega), if_pos (show 0 ≤ (i : Int) by omega), List.mem_cons, forall_eq_or_imp]
    rw [wrap_in (n := (i : Int) + 1) (by omega) (by omega), show ((i : Int) + 1) = ((i + 1 : Nat) : Int) from rfl, vloop_spec a b m l hl d k (i + 1) (by omega) (by omega)]
    by_cases c1 : rd l (i : Int) < 0
    · rw [if_pos c1]
      exact sd_false (fun h => by omega)
    · rw [if_neg c1]
      by_cases c2 : rd l (i : Int) > m
      · rw [if_pos c2]
        exact sd_false (fun h => by omega)
      · rw [if_neg c2]
        exact sd_iff ⟨fun h => ⟨by omega, h⟩, fun h => h.2⟩

theorem pvalid_spec (k : Nat) (a b m : Int) (l : List Int) (hl : l.length ≤ 4611686018427387904) (hk : l.length + 1 < k) : plane_Valid.f k a b m l = some (decide (PV a b m l)) := by
  obtain ⟨k, rfl⟩ : ∃ n, k = n + 1 := ⟨k - 1, by omega⟩
  unfold plane_Valid.f
  rw [size_val, Option.bind_some]
  by_cases c1 : SZ a b m
  · rw [decide_eq_true c1, if_pos rfl]
    obtain ⟨b0, b1⟩ := mul_bd (x := a) (y := b) (B := 128) (C := 128) (by omega) (by omega) c1.2.1 c1.2.2.2.1
    simp only [plane_Valid.j0]
    rw [wrap_in (n := a * b) (by omega) (by omega)]
    by_cases c2 : (l.length : Int) = a * b
    · rw [bne_eq_false_iff_eq.2 c2, if_neg Bool.false_ne_true]
      have hv := vloop_spec a b m l hl l.length k 0 (by omega) (by omega)
      rw [List.drop_zero] at hv
      exact hv.trans (sd_iff ⟨fun h => ⟨c1, c2, h⟩, fun h => h.2.2⟩)
    · rw [bne_iff_ne.2 c2, if_pos rfl]
      exact sd_false (fun h => c2 h.2.1)
  · rw [decide_eq_false c1, if_neg Bool.false_ne_true]
    exact sd_false (fun h => c1 h.1)


theorem set_all (P : Int → Prop) (l : List Int) (i : Nat) (v : Int) (h : ∀ x ∈ l, P x) (hv : P v) : ∀ x ∈ l.set i v, P x := by
  intro x hx
  rcases List.mem_or_eq_of_mem_set hx with hx | hx
  · exact h x hx
  · rw [hx]; exact hv

theorem sized_loop (t : List Int) (ht : t.length ≤ 4611686018427387904) (a b m : Int) (hm : 1 ≤ m) (hm' : m ≤ 4294967296) : ∀ (d k i : Nat) (s : Int) (l : List Int), 0 ≤ s → i + d = l.length → l.length ≤ 100000 → d < k →
    (∀ v ∈ l, 0 ≤ v ∧ v ≤ m) → ∃ bt, tilefarmgen_Tape_Sized.l0 k (i : Int) t s a b m l = some bt ∧ bt.1 = a ∧ bt.2.1 = b ∧ bt.2.2.1 = m ∧ bt.2.2.2.1.length = l.length ∧ (∀ v ∈ bt.2.2.2.1, 0 ≤ v ∧ v ≤ m) ∧ 0 ≤ bt.2.2.2.2
  | 0, k, i, s, l, hs, hi, hl, hk, hv => by
    obtain ⟨k, rfl⟩ : ∃ n, k = n + 1 := ⟨k - 1, by omega⟩
    rw [tilefarmgen_Tape_Sized.l0, if_neg (show ¬ (i : Int) < (l.length : Int) by omega)]
    exact ⟨_, rfl, rfl, rfl, rfl, rfl, hv, hs⟩
  | d + 1, k, i, s, l, hs, hi, hl, hk, hv => by
    obtain ⟨k, rfl⟩ : ∃ n, k = n + 1 := ⟨k - 1, by omega⟩
    rw [tilefarmgen_Tape_Sized.l0, if_pos (show (i : Int) < (l.length : Int) by omega), wrap_in (n := m + 1) (by omega) (by omega)]
    obtain ⟨r1, h1, h1a, h1b, h1c⟩ := next_o t s (m + 1) hs ht (by omega) (by omega)
    obtain ⟨r2, h2, h2a, h2b, h2c⟩ := next_o t r1.2 (m + 1) h1c ht (by omega) (by omega)
    obtain ⟨r3, h3, h3a, h3b⟩ := pick_o t r2.2 [r1.1, r2.1, m, 0] h2c ht (by simp) (by simp)
    rw [h1, Option.bind_some, h2, Option.bind_some, h3, Option.bind_some, if_pos (show 0 ≤ (i : Int) by omega), wrap_in (n := (i : Int) + 1) (by omega) (by omega)]
    have hr : 0 ≤ r3.1 ∧ r3.1 ≤ m := by
      simp only [List.mem_cons, List.not_mem_nil, or_false] at h3a
      clear h1 h2 h3 hv
      omega
    obtain ⟨bt, g1, g2, g3, g4, g5, g6, g7⟩ := sized_loop t ht a b m hm hm' d k (i + 1) r3.2 (l.set (i : Int).toNat r3.1) h3b (by rw [List.length_set]; omega) (by rw [List.length_set]; omega) (by omega) (set_all _ l _ _ hv hr)
    exact ⟨bt, g1, g2, g3, g4, by rw [g5, List.length_set], g6, g7⟩

theorem sized_spec (K : Nat) (hK : 2000 ≤ K) (t : List Int) (ht : t.length ≤ 4611686018427387904) (s a b : Int) (hs : 0 ≤ s) (ha : 1 ≤ a) (ha' : a ≤ 30) (hb : 1 ≤ b) (hb' : b ≤ 30) :
    ∃ bt, tilefarmgen_Tape_Sized.f K t s a b = some bt ∧ bt.1 = a ∧ bt.2.1 = b ∧ 1 ≤ bt.2.2.1 ∧ bt.2.2.1 ≤ 65535 ∧ (bt.2.2.2.1.length : Int) = a * b ∧ (∀ v ∈ bt.2.2.2.1, 0 ≤ v ∧ v ≤ bt.2.2.1) ∧ 0 ≤ bt.2.2.2.2 := by
  obtain ⟨r, h1, h1a, h1b⟩ := pick_o t s [255, 255, 65535, 1, 7] hs ht (by simp) (by simp)
  have hr : 1 ≤ r.1 ∧ r.1 ≤ 65535 := by
    simp only [List.mem_cons, List.not_mem_nil, or_false] at h1a
    clear h1
    omega
  obtain ⟨m0, m1⟩ := mul_bd (x := a) (y := b) (B := 30) (C := 30) (by omega) (by omega) ha' hb'
  unfold tilefarmgen_Tape_Sized.f
  rw [h1, Option.bind_some, wrap_in (n := a * b) (by omega) (by omega), if_pos m0, if_pos (show (a * b : Int).toNat ≤ 35184372088832 by omega)]
  obtain ⟨bt, g1, g2, g3, g4, g5, g6, g7⟩ := sized_loop t ht a b r.1 hr.1 (by omega) (a * b : Int).toNat K 0 r.2 (List.replicate (a * b : Int).toNat 0) h1b (by rw [List.length_replicate]; omega) (by rw [List.length_replicate]; omega) (by omega) (fun v hv => by rw [List.eq_of_mem_replicate hv]; omega)
  rw [List.length_replicate] at g5
  exact ⟨bt, g1, g2, g3, by rw [g4]; exact hr.1, by rw [g4]; exact hr.2, by rw [g5]; omega, by rw [g4]; exact g6, g7⟩


theorem plane_spec (K : Nat) (hK : 2000 ≤ K) (t : List Int) (ht : t.length ≤ 4611686018427387904) (s : Int) (hs : 0 ≤ s) :
    ∃ bt, tilefarmgen_Tape_Plane.f K t s = some bt ∧ 1 ≤ bt.1 ∧ bt.1 ≤ 6 ∧ 1 ≤ bt.2.1 ∧ bt.2.1 ≤ 5 ∧ 1 ≤ bt.2.2.1 ∧ bt.2.2.1 ≤ 65535 ∧ (bt.2.2.2.1.length : Int) = bt.1 * bt.2.1 ∧ (∀ v ∈ bt.2.2.2.1, 0 ≤ v ∧ v ≤ bt.2.2.1) ∧ 0 ≤ bt.2.2.2.2 := by
  obtain ⟨r1, h1, h1a, h1b, h1c⟩ := next_o t s 6 hs ht (by omega) (by omega)
  obtain ⟨r2, h2, h2a, h2b, h2c⟩ := next_o t r1.2 5 h1c ht (by omega) (by omega)
  obtain ⟨bt, g1, g2, g3, g4, g5, g6, g7, g8⟩ := sized_spec K hK t ht r2.2 (1 + r1.1) (1 + r2.1) h2c (by omega) (by omega) (by omega) (by omega)
  refine ⟨bt, ?_, by omega, by omega, by omega, by omega, g4, g5, by rw [g6, g2, g3], g7, g8⟩
  unfold tilefarmgen_Tape_Plane.f
  rw [h1, Option.bind_some, h2, Option.bind_some, wrap_in (n := 1 + r1.1) (by omega) (by omega), wrap_in (n := 1 + r2.1) (by omega) (by omega), g1, Option.bind_some]

theorem plane_PV {a b m : Int} {l : List Int} (h1 : 1 ≤ a) (h2 : a ≤ 6) (h3 : 1 ≤ b) (h4 : b ≤ 5) (h5 : 1 ≤ m) (h6 : m ≤ 65535) (h7 : (l.length : Int) = a * b) (h8 : ∀ v ∈ l, 0 ≤ v ∧ v ≤ m) : PV a b m l ∧ l.length ≤ 30 := by
  obtain ⟨m0, m1⟩ := mul_bd (x := a) (y := b) (B := 6) (C := 5) (by omega) (by omega) h2 h4
  exact ⟨⟨⟨h1, by omega, h3, by omega, by omega, h5, by omega⟩, h7, h8⟩, by omega⟩


theorem within_spec (l : List Int) (s w h : Int) (hs : 0 ≤ s) (hl : l.length ≤ 4611686018427387904) (hw : 0 < w) (hw2 : w ≤ 1000000) (hh : 0 < h) (hh2 : h ≤ 1000000) :
    ∃ a b c d s', tilefarmgen_Tape_Within.f l s w h = some (a, b, c, d, s') ∧ 0 ≤ s' ∧ 0 ≤ a ∧ a < c ∧ c ≤ w ∧ 0 ≤ b ∧ b < d ∧ d ≤ h := by
  obtain ⟨r1, s1, h1, h1a, h1b, h1c⟩ := next_spec l s w hs hl (by omega) (by omega)
  obtain ⟨r2, s2, h2, h2a, h2b, h2c⟩ := next_spec l s1 h h1c hl (by omega) (by omega)
  obtain ⟨r3, s3, h3, h3a, h3b, h3c⟩ := next_spec l s2 (w - r1) h2c hl (by omega) (by omega)
  obtain ⟨r4, s4, h4, h4a, h4b, h4c⟩ := next_spec l s3 (h - r2) h3c hl (by omega) (by omega)
  refine ⟨r1, r2, r1 + 1 + r3, r2 + 1 + r4, s4, ?_, h4c, h1a, by omega, by omega, h2a, by omega, by omega⟩
  unfold tilefarmgen_Tape_Within.f
  simp only [h1, h2, Option.bind_some]
  rw [wrap_in (n := w - r1) (by omega) (by omega), h3]
  simp only [Option.bind_some]
  rw [wrap_in (n := h - r2) (by omega) (by omega), h4]
  simp only [Option.bind_some]
  rw [wrap_in (n := r1 + 1) (by omega) (by omega), wrap_in (n := r1 + 1 + r3) (by omega) (by omega), wrap_in (n := r2 + 1) (by omega) (by omega), wrap_in (n := r2 + 1 + r4) (by omega) (by omega)]


/-- The rectangle is full and in the plane. -/
abbrev IN (W H x0 y0 x1 y1 : Int) : Prop := 0 ≤ x0 ∧ x0 < x1 ∧ x1 ≤ W ∧ 0 ≤ y0 ∧ y0 < y1 ∧ y1 ≤ H

theorem inside_p (k : Nat) {W H : Int} (hW : 1 ≤ W) (hW' : W ≤ 128) (hH : 1 ≤ H) (hH' : H ≤ 128) {a b c d : Int} (hz : ¬ (a = 0 ∧ b = 0 ∧ c = 0 ∧ d = 0)) : rect_Inside.f (k + 1) a b c d 0 0 W H = some (decide (IN W H a b c d)) := by
  have hb : V 0 0 W H := .inr (by omega)
  unfold rect_Inside.f
  rw [valid_eq, Option.bind_some]
  by_cases ha : V a b c d
  · rw [decide_eq_true ha, if_pos rfl, valid_eq, Option.bind_some, decide_eq_true hb, if_pos rfl, intersect_eq, Option.bind_some]
    simp only [ix, mx_max, mn_min]
    by_cases h : max a 0 < min c W ∧ max b 0 < min d H
    · rw [if_pos ⟨ha, hb, h.1, h.2⟩]
      congr 1
      rw [Bool.eq_iff_iff]
      simp only [Bool.and_eq_true, beq_iff_eq, decide_eq_true_eq]
      omega
    · rw [if_neg (fun g => h g.2.2)]
      congr 1
      rw [Bool.eq_iff_iff]
      simp only [Bool.and_eq_true, beq_iff_eq, decide_eq_true_eq]
      omega
  · rw [decide_eq_false ha, if_neg Bool.false_ne_true]
    exact sd_false (fun g => ha (.inr (by omega)))


/-- The pixels of a row of a rectangle. -/
def rowl (W : Int) (P : List Int) (x0 x1 y : Int) : List Int := (P.take (y * W + x1).toNat).drop (y * W + x0).toNat
/-- The pixels of some rows of a rectangle. -/
def rowsl (W : Int) (P : List Int) (x0 x1 : Int) : Nat → Int → List Int
  | 0, _ => []
  | d + 1, y => rowl W P x0 x1 y ++ rowsl W P x0 x1 d (y + 1)

theorem rowl_len {W : Int} {P : List Int} {x0 x1 y : Int} (h0 : 0 ≤ y * W) (h1 : 0 ≤ x0) (h2 : x0 ≤ x1) (h3 : y * W + x1 ≤ (P.length : Int)) : (rowl W P x0 x1 y).length = (x1 - x0).toNat := by
  unfold rowl
  rw [List.length_drop, List.length_take]
  omega

theorem rowl_mem {W : Int} {P : List Int} {x0 x1 y v : Int} (h : v ∈ rowl W P x0 x1 y) : v ∈ P := List.mem_of_mem_take (List.mem_of_mem_drop h)

theorem rowsl_mem {W : Int} {P : List Int} {x0 x1 v : Int} : ∀ (d : Nat) (y : Int), v ∈ rowsl W P x0 x1 d y → v ∈ P
  | 0, _, h => by simp [rowsl] at h
  | d + 1, y, h => by
    rcases List.mem_append.1 h with h | h
    · exact rowl_mem h
    · exact rowsl_mem d (y + 1) h

theorem row_in {y W H : Int} (h0 : 0 ≤ y) (h1 : y < H) (hW : 0 ≤ W) : 0 ≤ y * W ∧ y * W + W ≤ W * H := by
  refine ⟨Int.mul_nonneg h0 hW, ?_⟩
  have := Int.mul_le_mul_of_nonneg_right (show y + 1 ≤ H by omega) hW
  rw [Int.add_mul, Int.one_mul, Int.mul_comm H W] at this
  exact this


/-! Sums of pixels: of a row, of rows, from a corner. -/
def RS (W : Int) (P : List Int) (x0 y : Int) : Nat → Int
  | 0 => 0
  | i + 1 => RS W P x0 y i + rd P (y * W + x0 + (i : Int))
def AR (W : Int) (P : List Int) (x0 y0 : Int) (i : Nat) : Nat → Int
  | 0 => 0
  | k + 1 => AR W P x0 y0 i k + RS W P x0 (y0 + (k : Int)) i

theorem rd_bd {P : List Int} {M : Int} (hM : 0 ≤ M) (h : ∀ v ∈ P, 0 ≤ v ∧ v ≤ M) (j : Int) : 0 ≤ rd P j ∧ rd P j ≤ M := by
  simp only [rd, List.getD_eq_getElem?_getD]
  cases e : P[j.toNat]? with
  | none => exact ⟨Int.le_refl 0, hM⟩
  | some v => exact h v (List.mem_of_getElem? e)

theorem mul_succ_i (B : Int) (k : Nat) : B * ((k + 1 : Nat) : Int) = B * (k : Int) + B := by rw [Int.natCast_succ, Int.mul_add, Int.mul_one]

theorem RS_bd {W : Int} {P : List Int} {M : Int} (hP : ∀ j, 0 ≤ rd P j ∧ rd P j ≤ M) (x0 y : Int) : ∀ i : Nat, 0 ≤ RS W P x0 y i ∧ RS W P x0 y i ≤ M * (i : Int)
  | 0 => by simp [RS]
  | i + 1 => by
    have h1 := RS_bd (W := W) hP x0 y i
    have h2 := hP (y * W + x0 + (i : Int))
    rw [RS, mul_succ_i]
    omega

theorem AR_bd {W : Int} {P : List Int} {M : Int} (hP : ∀ j, 0 ≤ rd P j ∧ rd P j ≤ M) (x0 y0 : Int) (i : Nat) : ∀ k : Nat, 0 ≤ AR W P x0 y0 i k ∧ AR W P x0 y0 i k ≤ M * (i : Int) * (k : Int)
  | 0 => by simp [AR]
  | k + 1 => by
    have h1 := AR_bd (W := W) hP x0 y0 i k
    have h2 := RS_bd (W := W) hP x0 (y0 + (k : Int)) i
    rw [AR, mul_succ_i]
    omega

theorem AR_small {W : Int} {P : List Int} {M : Int} (hP : ∀ j, 0 ≤ rd P j ∧ rd P j ≤ M) (hM : 0 ≤ M) (hM' : M ≤ 65535) (x0 y0 : Int) {i k : Nat} (hi : i ≤ 6) (hk : k ≤ 5) : 0 ≤ AR W P x0 y0 i k ∧ AR W P x0 y0 i k ≤ 1966050 := by
  obtain ⟨h0, h1⟩ := AR_bd (W := W) hP x0 y0 i k
  obtain ⟨a0, a1⟩ := mul_bd (x := M) (y := (i : Int)) (B := 65535) (C := 6) hM (by omega) hM' (by omega)
  obtain ⟨b0, b1⟩ := mul_bd (x := M * (i : Int)) (y := (k : Int)) (B := 65535 * 6) (C := 5) a0 (by omega) a1 (by omega)
  exact ⟨h0, by omega⟩

/-! integral.most, Check, check on small planes. -/
theorem mul_ok {a b c : Int} (ha : 1 ≤ a) (hb : 1 ≤ b) (ha' : a ≤ 4294967296) (hab : a * b ≤ c) (hc : c ≤ 4294967296) (hb' : b ≤ 4294967296) : extent_Mul.f a b c = some (a * b, true) := by
  have h0 : 0 ≤ a * b := Int.mul_nonneg (by omega) (by omega)
  have hq : 0 ≤ c / a := Int.ediv_nonneg (by omega) (by omega)
  have hq' : c / a ≤ c := Int.ediv_le_self a (by omega)
  have hle : b ≤ c / a := (Int.le_ediv_iff_mul_le (by omega)).2 (by rw [Int.mul_comm]; exact hab)
  unfold extent_Mul.f
  rw [if_neg (show ¬ a < 0 by omega), if_neg (show ¬ b < 0 by omega), if_neg (show ¬ c < 0 by omega), if_neg (show ¬ a = 0 by omega), Int.tdiv_eq_ediv_of_nonneg (show 0 ≤ c by omega), wrap_in (n := c / a) (by omega) (by omega), if_neg (show ¬ b > c / a by omega), wrap_in (n := a * b) (by omega) (by omega)]

theorem most_ok (k : Nat) {W H M : Int} (hW : 1 ≤ W) (hW' : W ≤ 128) (hH : 1 ≤ H) (hH' : H ≤ 128) (hM : 1 ≤ M) (hM' : M ≤ 65535) : integral_most.f (k + 1) W H M = some (W * H * M, true) := by
  obtain ⟨a0, a1⟩ := mul_bd (x := W) (y := H) (B := 128) (C := 128) (by omega) (by omega) hW' hH'
  obtain ⟨b0, b1⟩ := mul_bd (x := W * H) (y := M) (B := 16384) (C := 65535) a0 (by omega) a1 hM'
  have h1 : 1 * 1 ≤ W * H := Int.mul_le_mul hW hH (by decide) (by omega)
  unfold integral_most.f
  rw [if_neg (show ¬ W < 1 by omega), if_neg (show ¬ H < 1 by omega), decide_eq_false (show ¬ M < 1 by omega), integral_most.j0, if_neg Bool.false_ne_true, mul_ok hW hH (by omega) (by omega) (by decide) (by omega), Option.bind_some, if_pos rfl,
    mul_ok (show 1 ≤ W * H by omega) hM (by omega) (by omega) (by decide) (by omega), Option.bind_some]

theorem check_ok (k : Nat) {W H M : Int} {P : List Int} (hp : PV W H M P) (hM' : M ≤ 65535) (hl : P.length ≤ 100000) (hk : P.length + 1 < k) : integral_check.f k W H M P = some 0 := by
  obtain ⟨k, rfl⟩ : ∃ n, k = n + 1 := ⟨k - 1, by omega⟩
  unfold integral_check.f integral_shape.f integral_Check.f
  rw [pvalid_spec (k + 1) W H M P (by omega) hk, decide_eq_true hp, Option.bind_some, if_pos rfl, Option.bind_some]
  show ((integral_most.f (k + 1) W H M).bind fun bt => (if bt.2 = true then (some 0) else (some 11))).bind (fun t => some t) = some 0
  rw [most_ok k hp.1.1 hp.1.2.1 hp.1.2.2.1 hp.1.2.2.2.1 hp.1.2.2.2.2.2.1 hM']
  rfl

theorem in_loop (L : Int) (l : List Int) (hl : l.length ≤ 4611686018427387904) : ∀ (d k i : Nat), i + d = l.length → d < k →
    integral_Tile_1.l0 k l (l.length : Int) (i : Int) L = some (decide (∀ v ∈ l.drop i, 0 ≤ v ∧ v ≤ L))
  | 0, k, i, hi, hk => by
    obtain ⟨k, rfl⟩ : ∃ n, k = n + 1 := ⟨k - 1, by omega⟩
    rw [integral_Tile_1.l0, if_neg (show ¬ (i : Int) < (l.length : Int) by omega), List.drop_eq_nil_of_le (by omega)]
    simp
  | d + 1, k, i, hi, hk => by
    obtain ⟨k, rfl⟩ : ∃ n, k = n + 1 := ⟨k - 1, by omega⟩
    rw [integral_Tile_1.l0, rd_drop l i (by omega)]
    simp only [if_pos (show (i : Int) < (l.length : Int) by omega), if_pos (show 0 ≤ (i : Int) by omega), List.mem_cons, forall_eq_or_imp]
    rw [wrap_in (n := (i : Int) + 1) (by omega) (by omega), show ((i : Int) + 1) = ((i + 1 : Nat) : Int) from rfl, in_loop L l hl d k (i + 1) (by omega) (by omega)]
    by_cases c1 : rd l (i : Int) < 0
    · rw [if_pos c1]
      exact sd_false (fun h => by omega)
    · rw [if_neg c1]
      by_cases c2 : rd l (i : Int) > L
      · rw [if_pos c2]
        exact sd_false (fun h => by omega)
      · rw [if_neg c2]
        exact sd_iff ⟨fun h => ⟨by omega, h⟩, fun h => h.2⟩

theorem in_spec (k : Nat) (l : List Int) (L : Int) (hl : l.length ≤ 4611686018427387904) (hk : l.length < k) : integral_Tile_1.f k l L = some (decide (∀ v ∈ l, 0 ≤ v ∧ v ≤ L)) := by
  unfold integral_Tile_1.f
  have h := in_loop L l hl l.length k 0 (Nat.zero_add _) hk
  rw [List.drop_zero] at h
  exact h

/-! integral.Tile on small planes. -/
theorem rd_setn {o : List Int} {i b : Nat} {x : Int} (hi : i < o.length) : rd (o.set (i : Int).toNat x) (b : Int) = if i = b then x else rd o (b : Int) := by
  simp only [rd, Int.toNat_natCast, List.getD_eq_getElem?_getD, List.getElem?_set]
  by_cases h : i = b
  · rw [if_pos h, if_pos h, if_pos hi]; rfl
  · rw [if_neg h, if_neg h]

def tg (left top : List Int) (c W : Int) (P : List Int) (x0 y0 x y : Int) : Int := rd left y + rd top x - c + AR W P x0 y0 (x.toNat + 1) (y.toNat + 1)

theorem tidx {y0 W x0 : Int} {kk i : Nat} (hy : 0 ≤ y0) (hy' : y0 ≤ 5) (hx : 0 ≤ x0) (hx' : x0 ≤ 6) (hW : 1 ≤ W) (hW' : W ≤ 6) (hk : kk ≤ 5) (hi : i ≤ 6) :
    wrap64 ((wrap64 ((wrap64 ((wrap64 (y0 + (kk : Int))) * W)) + x0)) + (i : Int)) = (y0 + (kk : Int)) * W + x0 + (i : Int) := by
  obtain ⟨a0, a1⟩ := mul_bd (x := y0 + (kk : Int)) (y := W) (B := 10) (C := 6) (by omega) (by omega) (by omega) hW'
  rw [wrap_in (n := y0 + (kk : Int)) (by omega) (by omega), wrap_in (n := (y0 + (kk : Int)) * W) (by omega) (by omega), wrap_in (n := (y0 + (kk : Int)) * W + x0) (by omega) (by omega), wrap_in (by omega) (by omega)]

theorem wsum4 {a b c d : Int} (ha : 0 ≤ a ∧ a ≤ 2000000) (hb : 0 ≤ b ∧ b ≤ 2000000) (hc : 0 ≤ c ∧ c ≤ 2000000) (hd : 0 ≤ d ∧ d ≤ 2000000) : wrap64 ((wrap64 ((wrap64 (a + b)) - c)) + d) = a + b - c + d := by
  rw [wrap_in (n := a + b) (by omega) (by omega), wrap_in (n := a + b - c) (by omega) (by omega), wrap_in (by omega) (by omega)]

theorem t1 (K : Nat) {W H M L c x0 y0 x1 y1 : Int} {P left top : List Int} {n h kk : Nat} (hn : top.length = n) (hh : left.length = h) (hkk : kk < h) (hh5 : h ≤ 5) (hn6 : n ≤ 6)
    (hin : ∀ i : Nat, i < n → 0 ≤ (y0 + (kk : Int)) * W + x0 + (i : Int) ∧ (y0 + (kk : Int)) * W + x0 + (i : Int) < (P.length : Int)) (hy : 0 ≤ y0) (hy' : y0 ≤ 5) (hx : 0 ≤ x0) (hx' : x0 ≤ 6) (hW : 1 ≤ W) (hW' : W ≤ 6)
    (hPv : ∀ j, 0 ≤ rd P j ∧ rd P j ≤ M) (hM : 0 ≤ M) (hM' : M ≤ 65535) (hl : ∀ j, 0 ≤ rd left j ∧ rd left j ≤ 2000000) (ht : ∀ j, 0 ≤ rd top j ∧ rd top j ≤ 2000000) (hc : 0 ≤ c ∧ c ≤ 2000000) (q0 q1 q2 : Int) :
    ∀ (d i : Nat) (above pix : List Int), i + d = n → above.length = n → (∀ j : Nat, j < n → rd above (j : Int) = AR W P x0 y0 (j + 1) (if j < i then kk + 1 else kk)) → pix.length + d ≤ 1000 →
    ∃ above', above'.length = n ∧ (∀ j : Nat, j < n → rd above' (j : Int) = AR W P x0 y0 (j + 1) (kk + 1)) ∧
      integral_Tile.l1 (K + d + 1) left top c above (kk : Int) (RS W P x0 (y0 + (kk : Int)) i) (h : Int) (kk : Int) (n : Int) (i : Int) W H M P x0 y0 x1 y1 L q0 q1 q2 pix =
        integral_Tile.l0 K left top c above' (h : Int) ((kk + 1 : Nat) : Int) W H M P x0 y0 x1 y1 L q0 q1 q2 (pix ++ rowg (tg left top c W P x0 y0) (kk : Int) d (i : Int))
  | 0, i, above, pix, hi, ha, hr, hp => by
    have hin' : i = n := hi
    refine ⟨above, ha, fun j hj => by rw [hr j hj, if_pos (by omega)], ?_⟩
    rw [hin', integral_Tile.l1, if_neg (Int.lt_irrefl _), wrap_in (n := (kk : Int) + 1) (by omega) (by omega)]
    simp only [rowg, List.append_nil]
    rfl
  | d + 1, i, above, pix, hi, ha, hr, hp => by
    have hi' : i < n := by omega
    obtain ⟨g0, g1⟩ := hin i hi'
    have hb := AR_small (W := W) hPv hM hM' x0 y0 (i := i + 1) (k := kk + 1) (by omega) (by omega)
    have hb0 := AR_small (W := W) hPv hM hM' x0 y0 (i := i + 1) (k := kk) (by omega) (by omega)
    have hrs := RS_bd (W := W) hPv x0 (y0 + (kk : Int)) (i + 1)
    have hrs2 : M * ((i + 1 : Nat) : Int) ≤ 65535 * 6 := (mul_bd hM (by omega) hM' (by omega)).2
    have hav := hr i hi'
    rw [if_neg (Nat.lt_irrefl i)] at hav
    have e1 : wrap64 (RS W P x0 (y0 + (kk : Int)) i + rd P ((y0 + (kk : Int)) * W + x0 + (i : Int))) = RS W P x0 (y0 + (kk : Int)) (i + 1) := by
      rw [show RS W P x0 (y0 + (kk : Int)) i + rd P ((y0 + (kk : Int)) * W + x0 + (i : Int)) = RS W P x0 (y0 + (kk : Int)) (i + 1) from rfl]
      exact wrap_in (by omega) (by omega)
    have e2 : wrap64 (rd above (i : Int) + RS W P x0 (y0 + (kk : Int)) (i + 1)) = AR W P x0 y0 (i + 1) (kk + 1) := by
      rw [hav, show AR W P x0 y0 (i + 1) kk + RS W P x0 (y0 + (kk : Int)) (i + 1) = AR W P x0 y0 (i + 1) (kk + 1) from rfl]
      exact wrap_in (by omega) (by omega)
    have e3 : wrap64 ((wrap64 ((wrap64 (rd left (kk : Int) + rd top (i : Int))) - c)) + AR W P x0 y0 (i + 1) (kk + 1)) = tg left top c W P x0 y0 (i : Int) (kk : Int) := wsum4 (hl _) (ht _) hc ⟨hb.1, by omega⟩
    obtain ⟨above', h1, h2, h3⟩ := t1 K (x1 := x1) (y1 := y1) (H := H) (L := L) hn hh hkk hh5 hn6 hin hy hy' hx hx' hW hW' hPv hM hM' hl ht hc q0 q1 q2 d (i + 1) (above.set (i : Int).toNat (AR W P x0 y0 (i + 1) (kk + 1))) (pix ++ [tg left top c W P x0 y0 (i : Int) (kk : Int)])
      (by omega) (by rw [List.length_set]; exact ha) (fun j hj => by
        rw [rd_setn (by omega)]
        by_cases hij : i = j
        · rw [if_pos hij, ← hij, if_pos (by omega)]
        · rw [if_neg hij, hr j hj]
          by_cases hji : j < i
          · rw [if_pos hji, if_pos (by omega)]
          · rw [if_neg hji, if_neg (by omega)]) (by rw [List.length_append, List.length_singleton]; omega)
    refine ⟨above', h1, h2, ?_⟩
    rw [show K + (d + 1) + 1 = (K + d + 1) + 1 from rfl, integral_Tile.l1, if_pos (Int.ofNat_lt.2 hi'), tidx hy hy' hx hx' hW hW' (by omega) (by omega), if_pos g0, if_pos g1, if_pos (Int.natCast_nonneg i), if_pos (show (i : Int) < (above.length : Int) by omega), e1, e2, Option.bind_some,
      if_pos (Int.natCast_nonneg kk), if_pos (show (kk : Int) < (left.length : Int) by omega), if_pos (show (i : Int) < (top.length : Int) by omega), if_pos (show pix.length < 17592186044416 by omega), rd_setn (show i < above.length by omega), if_pos rfl, e3, wrap_in (n := (i : Int) + 1) (by omega) (by omega)]
    refine Eq.trans h3 ?_
    rw [List.append_assoc]
    rfl

theorem t0 {W H M L c x0 y0 x1 y1 : Int} {P left top : List Int} {n h : Nat} (hn : top.length = n) (hh : left.length = h) (hh5 : h ≤ 5) (hn6 : n ≤ 6)
    (hin : ∀ k i : Nat, k < h → i < n → 0 ≤ (y0 + (k : Int)) * W + x0 + (i : Int) ∧ (y0 + (k : Int)) * W + x0 + (i : Int) < (P.length : Int)) (hy : 0 ≤ y0) (hy' : y0 ≤ 5) (hx : 0 ≤ x0) (hx' : x0 ≤ 6) (hW : 1 ≤ W) (hW' : W ≤ 6)
    (hPv : ∀ j, 0 ≤ rd P j ∧ rd P j ≤ M) (hM : 0 ≤ M) (hM' : M ≤ 65535) (hl : ∀ j, 0 ≤ rd left j ∧ rd left j ≤ 2000000) (ht : ∀ j, 0 ≤ rd top j ∧ rd top j ≤ 2000000) (hc : 0 ≤ c ∧ c ≤ 2000000) (q1 q2 : Int) :
    ∀ (d K kk : Nat) (above pix : List Int), kk + d = h → above.length = n → (∀ j : Nat, j < n → rd above (j : Int) = AR W P x0 y0 (j + 1) kk) → pix.length + d * n ≤ 500 → 501 ≤ K →
      integral_Tile.l0 (K + d * (n + 2) + 1) left top c above (h : Int) (kk : Int) W H M P x0 y0 x1 y1 L (n : Int) q1 q2 pix =
        if ∀ v ∈ pix ++ rowsg (tg left top c W P x0 y0) 0 n d (kk : Int), 0 ≤ v ∧ v ≤ L then some ((n : Int), q1, q2, pix ++ rowsg (tg left top c W P x0 y0) 0 n d (kk : Int), 0) else some (0, 0, 0, ([] : List Int), 2)
  | 0, K, kk, above, pix, hk, ha, hr, hp, hK => by
    have hkk : kk = h := hk
    rw [hkk, Nat.zero_mul, Nat.add_zero, integral_Tile.l0, if_neg (Int.lt_irrefl _)]
    simp only [rowsg, List.append_nil]
    rw [in_spec K pix L (by omega) (by omega), Option.bind_some]
    by_cases g : ∀ v ∈ pix, 0 ≤ v ∧ v ≤ L
    · rw [decide_eq_true g, if_pos rfl, if_pos g]
    · rw [decide_eq_false g, if_neg Bool.false_ne_true, if_neg g]
  | d + 1, K, kk, above, pix, hk, ha, hr, hp, hK => by
    have hd : (d + 1) * n = d * n + n := Nat.succ_mul d n
    obtain ⟨above', h1, h2, h3⟩ := t1 (K + d * (n + 2) + 1) (x1 := x1) (y1 := y1) (H := H) (L := L) hn hh (show kk < h by omega) hh5 hn6 (hin kk · (by omega)) hy hy' hx hx' hW hW' hPv hM hM' hl ht hc (n : Int) q1 q2 n 0 above pix (Nat.zero_add n) ha (fun j hj => by rw [hr j hj, if_neg (Nat.not_lt_zero j)]) (by omega)
    have ih := t0 (x1 := x1) (y1 := y1) (H := H) (L := L) hn hh hh5 hn6 hin hy hy' hx hx' hW hW' hPv hM hM' hl ht hc q1 q2 d K (kk + 1) above' (pix ++ rowg (tg left top c W P x0 y0) (kk : Int) n 0) (by omega) h1 h2 (by rw [List.length_append, rowg_len]; omega) hK
    rw [show K + (d + 1) * (n + 2) + 1 = (K + d * (n + 2) + 1 + n + 1) + 1 by rw [Nat.succ_mul]; omega, integral_Tile.l0, if_pos (show (kk : Int) < (h : Int) by omega)]
    refine Eq.trans h3 (Eq.trans ih ?_)
    rw [List.append_assoc]
    rfl

theorem row_idx {W H x0 y0 x1 y1 : Int} {L : Nat} (hL : (L : Int) = W * H) (hW : 1 ≤ W) (hi : IN W H x0 y0 x1 y1) {k i : Nat} (hk : (k : Int) < y1 - y0) (hx : (i : Int) < x1 - x0) : 0 ≤ (y0 + (k : Int)) * W + x0 + (i : Int) ∧ (y0 + (k : Int)) * W + x0 + (i : Int) < (L : Int) := by
  obtain ⟨a0, a1⟩ := row_in (y := y0 + (k : Int)) (W := W) (H := H) (by omega) (by omega) (by omega)
  rw [hL]
  omega

/-- integral.Tile: behind the checks. -/
theorem tile_go (K : Nat) (hK : 2000 ≤ K) {W H M c x0 y0 x1 y1 : Int} {P left top : List Int} (hp : PV W H M P) (hW' : W ≤ 6) (hH' : H ≤ 5) (hM' : M ≤ 65535) (hi : IN W H x0 y0 x1 y1) (hl : (left.length : Int) = y1 - y0) (ht : (top.length : Int) = x1 - x0) :
    integral_Tile.f K W H M P x0 y0 x1 y1 left top c = if (0 ≤ c ∧ c ≤ W * H * M) ∧ (∀ v ∈ left, 0 ≤ v ∧ v ≤ W * H * M) ∧ (∀ v ∈ top, 0 ≤ v ∧ v ≤ W * H * M) then
      (if ∀ v ∈ rowsg (tg left top c W P x0 y0) 0 top.length left.length 0, 0 ≤ v ∧ v ≤ W * H * M then some ((top.length : Int), (left.length : Int), W * H * M, rowsg (tg left top c W P x0 y0) 0 top.length left.length 0, 0) else some (0, 0, 0, ([] : List Int), 2))
      else some (0, 0, 0, ([] : List Int), 2) := by
  have hS := hp.1
  have hPl : P.length ≤ 30 := by
    have := (mul_bd (x := W) (y := H) (B := 6) (C := 5) (by omega) (by omega) hW' hH').2
    have := hp.2.1
    omega
  obtain ⟨a0, a1⟩ := mul_bd (x := W) (y := H) (B := 6) (C := 5) (by omega) (by omega) hW' hH'
  obtain ⟨b0, b1⟩ := mul_bd (x := W * H) (y := M) (B := 30) (C := 65535) a0 (by omega) a1 hM'
  have hne : ¬ (x0 = 0 ∧ y0 = 0 ∧ x1 = 0 ∧ y1 = 0) := by omega
  obtain ⟨k, rfl⟩ : ∃ n, K = n + 1 + 1 + 1 + 1 := ⟨K - 4, by omega⟩
  unfold integral_Tile.f
  rw [check_ok _ hp hM' (by omega) (by omega), Option.bind_some, if_pos rfl, empty_eq, Option.bind_some, decide_eq_false hne, if_neg Bool.false_ne_true, inside_p _ hS.1 hS.2.1 hS.2.2.1 hS.2.2.2.1 hne, Option.bind_some, decide_eq_true hi, if_pos rfl,
    wrap_in (n := y1 - y0) (by omega) (by omega), if_pos hl, wrap_in (n := x1 - x0) (by omega) (by omega), bne_eq_false_iff_eq.2 ht, integral_Tile.j0, if_neg Bool.false_ne_true]
  unfold integral_shape.f
  rw [Option.bind_some]
  show ((integral_most.f (k + 1 + 1 + 1) W H M).bind _) = _
  rw [most_ok _ hS.1 hS.2.1 hS.2.2.1 hS.2.2.2.1 hS.2.2.2.2.2.1 hM', Option.bind_some, in_spec _ _ _ (by simp) (by simp only [List.length_singleton]; omega), Option.bind_some]
  simp only [List.mem_singleton, forall_eq]
  by_cases c1 : 0 ≤ c ∧ c ≤ W * H * M
  · rw [decide_eq_true c1, if_pos rfl, in_spec _ left _ (by omega) (by omega), Option.bind_some]
    by_cases c2 : ∀ v ∈ left, 0 ≤ v ∧ v ≤ W * H * M
    · rw [decide_eq_true c2, if_pos rfl, in_spec _ top _ (by omega) (by omega), Option.bind_some]
      by_cases c3 : ∀ v ∈ top, 0 ≤ v ∧ v ≤ W * H * M
      · have hn : top.length * left.length ≤ 6 * 5 := Nat.mul_le_mul (by omega) (by omega)
        have hn2 : left.length * (top.length + 2) ≤ 5 * 8 := Nat.mul_le_mul (by omega) (by omega)
        rw [decide_eq_true c3, integral_Tile.j1, if_neg (show ¬ (!true) = true by decide), if_pos (Int.natCast_nonneg _), if_pos (show ((top.length : Int) : Int).toNat ≤ 35184372088832 by omega), if_pos ⟨c1, c2, c3⟩, Int.toNat_natCast,
          show k + 1 + 1 = (k + 1 - left.length * (top.length + 2)) + left.length * (top.length + 2) + 1 by omega]
        refine (t0 (x1 := x1) (y1 := y1) (H := H) (L := W * H * M) rfl rfl (by omega) (by omega) (fun k i hk hx => row_idx hp.2.1 hS.1 hi (by omega) (by omega)) (by omega) (by omega) (by omega) (by omega) hS.1 hW' (rd_bd (by omega) hp.2.2) (by omega) hM'
          (fun j => by have := rd_bd b0 c2 j; omega) (fun j => by have := rd_bd b0 c3 j; omega) (by omega) (left.length : Int) (W * H * M) left.length _ 0 (List.replicate top.length 0) [] (Nat.zero_add _) List.length_replicate (fun j hj => ?_) (by rw [List.length_nil, Nat.mul_comm]; omega) (by omega)).trans ?_
        · simp only [rd, Int.toNat_natCast, List.getD_eq_getElem?_getD, List.getElem?_replicate, if_pos hj]
          rfl
        · rw [List.nil_append]; rfl
      · rw [decide_eq_false c3, integral_Tile.j1, if_pos (show (!false) = true by decide), if_neg (fun h => c3 h.2.2)]
    · rw [decide_eq_false c2, if_neg Bool.false_ne_true, integral_Tile.j1, if_pos rfl, if_neg (fun h => c2 h.2.1)]
  · rw [decide_eq_false c1, if_neg Bool.false_ne_true, integral_Tile.j1, if_pos rfl, if_neg (fun h => c1 h.1)]

/-! The integral plane, and sums out of it. -/
theorem rowg_mem {g : Int → Int → Int} {y v : Int} : ∀ (d : Nat) (x : Int), v ∈ rowg g y d x → ∃ i : Nat, i < d ∧ v = g (x + (i : Int)) y
  | 0, x, h => by simp [rowg] at h
  | d + 1, x, h => by
    simp only [rowg, List.mem_cons] at h
    rcases h with h | h
    · exact ⟨0, by omega, by rw [h]; simp⟩
    · obtain ⟨i, h1, h2⟩ := rowg_mem d (x + 1) h
      exact ⟨i + 1, by omega, by rw [h2, show x + 1 + (i : Int) = x + ((i + 1 : Nat) : Int) by omega]⟩

theorem rowsg_mem {g : Int → Int → Int} {x0 v : Int} {w : Nat} : ∀ (d : Nat) (y : Int), v ∈ rowsg g x0 w d y → ∃ i j : Nat, i < w ∧ j < d ∧ v = g (x0 + (i : Int)) (y + (j : Int))
  | 0, y, h => by simp [rowsg] at h
  | d + 1, y, h => by
    simp only [rowsg, List.mem_append] at h
    rcases h with h | h
    · obtain ⟨i, h1, h2⟩ := rowg_mem w x0 h
      exact ⟨i, 0, h1, by omega, by rw [h2]; simp⟩
    · obtain ⟨i, j, h1, h2, h3⟩ := rowsg_mem d (y + 1) h
      exact ⟨i, j + 1, h1, by omega, by rw [h3, show y + 1 + (j : Int) = y + ((j + 1 : Nat) : Int) by omega]⟩

theorem rd_zeros (n : Nat) (j : Int) : rd (List.replicate n 0) j = 0 := by
  simp only [rd, List.getD_eq_getElem?_getD, List.getElem?_replicate]
  by_cases h : j.toNat < n
  · rw [if_pos h]; rfl
  · rw [if_neg h]; rfl

theorem AR_zero (W : Int) (P : List Int) (x0 y0 : Int) : ∀ k : Nat, AR W P x0 y0 0 k = 0
  | 0 => rfl
  | k + 1 => by rw [AR, AR_zero W P x0 y0 k]; rfl

abbrev IP (W H : Int) (P : List Int) : List Int := rowsg (fun x y => AR W P 0 0 (x.toNat + 1) (y.toNat + 1)) 0 W.toNat H.toNat 0

theorem AR_le {W H M : Int} {P : List Int} (hp : PV W H M P) (x0 y0 : Int) {i k : Nat} (hi : (i : Int) ≤ W) (hk : (k : Int) ≤ H) : 0 ≤ AR W P x0 y0 i k ∧ AR W P x0 y0 i k ≤ W * H * M := by
  obtain ⟨h0, h1⟩ := AR_bd (W := W) (rd_bd (M := M) (by omega) hp.2.2) x0 y0 i k
  obtain ⟨a0, a1⟩ := mul_bd (x := M) (y := (i : Int)) (B := M) (C := W) (by omega) (by omega) (Int.le_refl _) hi
  obtain ⟨b0, b1⟩ := mul_bd (x := M * (i : Int)) (y := (k : Int)) (B := M * W) (C := H) a0 (by omega) a1 hk
  refine ⟨h0, ?_⟩
  rw [show W * H * M = M * W * H by rw [Int.mul_comm (W * H) M, Int.mul_assoc]]
  omega

theorem IP_len {W H : Int} (hW : 1 ≤ W) (hH : 1 ≤ H) (P : List Int) : ((IP W H P).length : Int) = W * H := by
  rw [rowsg_len, Int.natCast_mul, Int.toNat_of_nonneg (by omega), Int.toNat_of_nonneg (by omega), Int.mul_comm]

theorem IP_all {W H M : Int} {P : List Int} (hp : PV W H M P) : ∀ v ∈ IP W H P, 0 ≤ v ∧ v ≤ W * H * M := by
  intro v hv
  obtain ⟨i, j, h1, h2, h3⟩ := rowsg_mem _ _ hv
  rw [h3]
  simp only [Int.zero_add, Int.toNat_natCast]
  exact AR_le hp 0 0 (by omega) (by omega)

theorem small_whm {W H M : Int} {P : List Int} (hp : PV W H M P) (hW' : W ≤ 6) (hH' : H ≤ 5) (hM' : M ≤ 65535) : 1 ≤ W * H ∧ W * H ≤ 30 ∧ 1 ≤ W * H * M ∧ W * H * M ≤ 1966050 := by
  have hS := hp.1
  have h1 : 1 * 1 ≤ W * H := Int.mul_le_mul hS.1 hS.2.2.1 (by decide) (by omega)
  obtain ⟨a0, a1⟩ := mul_bd (x := W) (y := H) (B := 6) (C := 5) (by omega) (by omega) hW' hH'
  obtain ⟨b0, b1⟩ := mul_bd (x := W * H) (y := M) (B := 30) (C := 65535) a0 (by omega) a1 hM'
  have h2 : 1 * 1 ≤ W * H * M := Int.mul_le_mul (by omega) hS.2.2.2.2.2.1 (by decide) (by omega)
  omega

theorem whole_ok (K : Nat) (hK : 2000 ≤ K) {W H M : Int} {P : List Int} (hp : PV W H M P) (hW' : W ≤ 6) (hH' : H ≤ 5) (hM' : M ≤ 65535) : integral_Whole.f K W H M P = some (W, H, W * H * M, IP W H P, 0) := by
  have hS := hp.1
  obtain ⟨s1, s2, s3, s4⟩ := small_whm hp hW' hH' hM'
  have hPl : P.length ≤ 30 := by have := hp.2.1; omega
  unfold integral_Whole.f
  rw [check_ok _ hp hM' (by omega) (by omega), Option.bind_some, if_pos rfl, if_pos (show 0 ≤ H by omega), if_pos (show H.toNat ≤ 35184372088832 by omega), if_pos (show 0 ≤ W by omega), if_pos (show W.toNat ≤ 35184372088832 by omega),
    tile_go K hK (left := List.replicate H.toNat 0) (top := List.replicate W.toNat 0) hp hW' hH' hM' (x0 := 0) (y0 := 0) (x1 := W) (y1 := H) ⟨by omega, by omega, by omega, by omega, by omega, by omega⟩ (by rw [List.length_replicate]; omega) (by rw [List.length_replicate]; omega),
    if_pos ⟨⟨Int.le_refl 0, by omega⟩, fun v hv => by rw [(List.mem_replicate.1 hv).2]; omega, fun v hv => by rw [(List.mem_replicate.1 hv).2]; omega⟩]
  have e : rowsg (tg (List.replicate H.toNat 0) (List.replicate W.toNat 0) 0 W P 0 0) 0 (List.replicate W.toNat (0 : Int)).length (List.replicate H.toNat (0 : Int)).length 0 = IP W H P := by
    rw [List.length_replicate, List.length_replicate, show tg (List.replicate H.toNat 0) (List.replicate W.toNat 0) 0 W P 0 0 = (fun x y => AR W P 0 0 (x.toNat + 1) (y.toNat + 1)) from by
      funext x y
      rw [tg, rd_zeros, rd_zeros]
      omega]
  rw [e, if_pos (IP_all hp), List.length_replicate, List.length_replicate, Option.bind_some, Int.toNat_of_nonneg (by omega), Int.toNat_of_nonneg (by omega)]

theorem IP_PV {W H M : Int} {P : List Int} (hp : PV W H M P) (hW' : W ≤ 6) (hH' : H ≤ 5) (hM' : M ≤ 65535) : PV W H (W * H * M) (IP W H P) ∧ (IP W H P).length ≤ 30 := by
  obtain ⟨s1, s2, s3, s4⟩ := small_whm hp hW' hH' hM'
  have hl := IP_len hp.1.1 hp.1.2.2.1 P
  exact ⟨⟨⟨hp.1.1, hp.1.2.1, hp.1.2.2.1, hp.1.2.2.2.1, by omega, s3, by omega⟩, hl, IP_all hp⟩, by omega⟩

theorem IP_rd {W H : Int} (hW : 1 ≤ W) (hH : 1 ≤ H) (P : List Int) {x y : Int} (hx : 1 ≤ x) (hx' : x ≤ W) (hy : 1 ≤ y) (hy' : y ≤ H) : rd (IP W H P) ((y - 1) * W + x - 1) = AR W P 0 0 x.toNat y.toNat := by
  have h := rowsg_rd (fun x y => AR W P 0 0 (x.toNat + 1) (y.toNat + 1)) 0 W.toNat H.toNat 0 (y.toNat - 1) (x.toNat - 1) (by omega) (by omega)
  have e : (((y.toNat - 1) * W.toNat + (x.toNat - 1) : Nat) : Int) = (y - 1) * W + x - 1 := by
    rw [Int.natCast_add, Int.natCast_mul, Int.toNat_of_nonneg (show 0 ≤ W by omega), show ((y.toNat - 1 : Nat) : Int) = y - 1 by omega, show ((x.toNat - 1 : Nat) : Int) = x - 1 by omega]
    omega
  rw [e] at h
  rw [h]
  simp only [Int.zero_add, Int.toNat_natCast]
  rw [show x.toNat - 1 + 1 = x.toNat by omega, show y.toNat - 1 + 1 = y.toNat by omega]

theorem at_ok {W H : Int} (hW : 1 ≤ W) (hW' : W ≤ 6) (hH : 1 ≤ H) (hH' : H ≤ 5) (P : List Int) (M : Int) {x y : Int} (hx : 0 ≤ x) (hx' : x ≤ W) (hy : 0 ≤ y) (hy' : y ≤ H) : integral_Sum_1.f x y W H M (IP W H P) = some (AR W P 0 0 x.toNat y.toNat) := by
  unfold integral_Sum_1.f
  by_cases c1 : x = 0
  · rw [if_pos c1, c1, show (0 : Int).toNat = 0 from rfl, AR_zero]
  rw [if_neg c1]
  by_cases c2 : y = 0
  · rw [if_pos c2, c2]; rfl
  rw [if_neg c2]
  obtain ⟨a0, a1⟩ := row_in (y := y - 1) (W := W) (H := H) (by omega) (by omega) (by omega)
  have a2 := (mul_bd (x := W) (y := H) (B := 6) (C := 5) (by omega) (by omega) hW' hH').2
  rw [wrap_in (n := y - 1) (by omega) (by omega), wrap_in (n := (y - 1) * W) (by omega) (by omega), wrap_in (n := (y - 1) * W + x) (by omega) (by omega), wrap_in (n := (y - 1) * W + x - 1) (by omega) (by omega), if_pos (show 0 ≤ (y - 1) * W + x - 1 by omega),
    if_pos (show (y - 1) * W + x - 1 < ((IP W H P).length : Int) by rw [IP_len hW hH]; omega), IP_rd hW hH P (by omega) hx' (by omega) hy']

abbrev SM (W : Int) (P : List Int) (x0 y0 x1 y1 : Int) : Int := AR W P 0 0 x1.toNat y1.toNat - AR W P 0 0 x0.toNat y1.toNat - AR W P 0 0 x1.toNat y0.toNat + AR W P 0 0 x0.toNat y0.toNat

theorem sum_ok (K : Nat) (hK : 2000 ≤ K) {W H M : Int} {P : List Int} (hp : PV W H M P) (hW' : W ≤ 6) (hH' : H ≤ 5) (hM' : M ≤ 65535) {x0 y0 x1 y1 : Int} (hi : IN W H x0 y0 x1 y1) : integral_Sum.f K W H (W * H * M) (IP W H P) x0 y0 x1 y1 = some (SM W P x0 y0 x1 y1, 0) := by
  obtain ⟨hq, hql⟩ := IP_PV hp hW' hH' hM'
  obtain ⟨s1, s2, s3, s4⟩ := small_whm hp hW' hH' hM'
  have hS := hp.1
  have hne : ¬ (x0 = 0 ∧ y0 = 0 ∧ x1 = 0 ∧ y1 = 0) := by omega
  obtain ⟨k, rfl⟩ : ∃ n, K = n + 1 := ⟨K - 1, by omega⟩
  have b1 := AR_le hp 0 0 (i := x1.toNat) (k := y1.toNat) (by omega) (by omega)
  have b2 := AR_le hp 0 0 (i := x0.toNat) (k := y1.toNat) (by omega) (by omega)
  have b3 := AR_le hp 0 0 (i := x1.toNat) (k := y0.toNat) (by omega) (by omega)
  have b4 := AR_le hp 0 0 (i := x0.toNat) (k := y0.toNat) (by omega) (by omega)
  unfold integral_Sum.f
  rw [pvalid_spec (k + 1) W H _ (IP W H P) (by omega) (by omega), decide_eq_true hq, Option.bind_some, if_pos rfl, empty_eq, Option.bind_some, decide_eq_false hne, if_neg Bool.false_ne_true, inside_p _ hS.1 hS.2.1 hS.2.2.1 hS.2.2.2.1 hne, Option.bind_some, decide_eq_true hi,
    integral_Sum.j0, if_neg (show ¬ (!true) = true by decide), at_ok hS.1 hW' hS.2.2.1 hH' P _ (by omega) (by omega) (by omega) (by omega), Option.bind_some, at_ok hS.1 hW' hS.2.2.1 hH' P _ (by omega) (by omega) (by omega) (by omega), Option.bind_some,
    at_ok hS.1 hW' hS.2.2.1 hH' P _ (by omega) (by omega) (by omega) (by omega), Option.bind_some, at_ok hS.1 hW' hS.2.2.1 hH' P _ (by omega) (by omega) (by omega) (by omega), Option.bind_some]
  show _ = some (AR W P 0 0 x1.toNat y1.toNat - AR W P 0 0 x0.toNat y1.toNat - AR W P 0 0 x1.toNat y0.toNat + AR W P 0 0 x0.toNat y0.toNat, (0 : Int))
  generalize AR W P 0 0 x1.toNat y1.toNat = A at *
  generalize AR W P 0 0 x0.toNat y1.toNat = B at *
  generalize AR W P 0 0 x1.toNat y0.toNat = C at *
  generalize AR W P 0 0 x0.toNat y0.toNat = D at *
  rw [wrap_in (n := A - B) (by omega) (by omega), wrap_in (n := A - B - C) (by omega) (by omega), wrap_in (n := A - B - C + D) (by omega) (by omega)]

theorem sane_eq : tilefarmlaw13_sane.f 60 = some true := by decide +kernel

/-- The sum of the first pixels. -/
def SP (P : List Int) : Nat → Int
  | 0 => 0
  | i + 1 => SP P i + rd P (i : Int)

theorem SP_bd {P : List Int} {M : Int} (hP : ∀ j, 0 ≤ rd P j ∧ rd P j ≤ M) : ∀ i : Nat, 0 ≤ SP P i ∧ SP P i ≤ M * (i : Int)
  | 0 => by simp [SP]
  | i + 1 => by
    have h1 := SP_bd hP i
    have h2 := hP (i : Int)
    rw [SP, mul_succ_i]
    omega

theorem RS_SP (w : Nat) (P : List Int) (k : Nat) : ∀ i : Nat, SP P (k * w + i) = SP P (k * w) + RS (w : Int) P 0 (0 + (k : Int)) i
  | 0 => by rw [Nat.add_zero, RS]; omega
  | i + 1 => by
    rw [← Nat.add_assoc, SP, RS_SP w P k i, RS, Int.add_zero, Int.zero_add, Int.natCast_add, Int.natCast_mul]
    omega

theorem AR_SP (w : Nat) (P : List Int) : ∀ k : Nat, AR (w : Int) P 0 0 w k = SP P (k * w)
  | 0 => by rw [Nat.zero_mul]; rfl
  | k + 1 => by rw [AR, AR_SP w P k, Nat.succ_mul, RS_SP w P k w]

theorem RS_mono {W : Int} {P : List Int} {M : Int} (hP : ∀ j, 0 ≤ rd P j ∧ rd P j ≤ M) (x0 y : Int) (i : Nat) : RS W P x0 y i ≤ RS W P x0 y (i + 1) := by
  have := hP (y * W + x0 + (i : Int))
  rw [RS]
  omega

theorem AR_mono {W : Int} {P : List Int} {M : Int} (hP : ∀ j, 0 ≤ rd P j ∧ rd P j ≤ M) (x0 y0 : Int) (i : Nat) : ∀ k : Nat, AR W P x0 y0 i k ≤ AR W P x0 y0 (i + 1) k
  | 0 => Int.le_refl _
  | k + 1 => by
    have h1 := AR_mono (W := W) hP x0 y0 i k
    have h2 := RS_mono (W := W) hP x0 (y0 + (k : Int)) i
    rw [AR, AR]
    omega

theorem AR_down {W : Int} {P : List Int} {M : Int} (hP : ∀ j, 0 ≤ rd P j ∧ rd P j ≤ M) (x0 y0 : Int) (i k : Nat) : AR W P x0 y0 i k ≤ AR W P x0 y0 i (k + 1) := by
  have := RS_bd (W := W) hP x0 (y0 + (k : Int)) i
  rw [AR]
  omega

theorem split {W H i : Int} (hW : 1 ≤ W) (h0 : 0 ≤ i) (h1 : i < W * H) : 0 ≤ i % W ∧ i % W < W ∧ 0 ≤ i / W ∧ i / W < H ∧ i = i / W * W + i % W := by
  refine ⟨Int.emod_nonneg i (by omega), Int.emod_lt_of_pos i (by omega), Int.ediv_nonneg h0 (by omega), Int.ediv_lt_of_lt_mul (by omega) (by rw [Int.mul_comm]; exact h1), ?_⟩
  have := Int.mul_ediv_add_emod i W
  rw [Int.mul_comm] at this
  exact this.symm

theorem left_ge {W H M : Int} {P : List Int} (hp : PV W H M P) {i : Int} (h0 : 0 ≤ i) (h1 : i < W * H) (hx : 0 < i % W) : rd (IP W H P) (i - 1) ≤ rd (IP W H P) i ∧ 1 ≤ i := by
  have hS := hp.1
  obtain ⟨a1, a2, a3, a4, a5⟩ := split hS.1 h0 h1
  have hj := Int.mul_nonneg a3 (show 0 ≤ W by omega)
  have e1 := IP_rd hS.1 hS.2.2.1 P (x := i % W + 1) (y := i / W + 1) (by omega) (by omega) (by omega) (by omega)
  have e2 := IP_rd hS.1 hS.2.2.1 P (x := i % W) (y := i / W + 1) (by omega) (by omega) (by omega) (by omega)
  rw [show (i / W + 1 - 1) * W + (i % W + 1) - 1 = i by rw [show i / W + 1 - 1 = i / W by omega]; omega] at e1
  rw [show (i / W + 1 - 1) * W + (i % W) - 1 = i - 1 by rw [show i / W + 1 - 1 = i / W by omega]; omega] at e2
  rw [e1, e2, show (i % W + 1).toNat = (i % W).toNat + 1 by omega]
  exact ⟨AR_mono (rd_bd (M := M) (by omega) hp.2.2) 0 0 _ _, by omega⟩

theorem up_ge {W H M : Int} {P : List Int} (hp : PV W H M P) {i : Int} (h0 : W ≤ i) (h1 : i < W * H) : rd (IP W H P) (i - W) ≤ rd (IP W H P) i := by
  have hS := hp.1
  obtain ⟨a1, a2, a3, a4, a5⟩ := split hS.1 (show 0 ≤ i by omega) h1
  have hj : 1 ≤ i / W := (Int.le_ediv_iff_mul_le (by omega)).2 (by omega)
  have e1 := IP_rd hS.1 hS.2.2.1 P (x := i % W + 1) (y := i / W + 1) (by omega) (by omega) (by omega) (by omega)
  have e2 := IP_rd hS.1 hS.2.2.1 P (x := i % W + 1) (y := i / W) (by omega) (by omega) (by omega) (by omega)
  rw [show (i / W + 1 - 1) * W + (i % W + 1) - 1 = i by rw [show i / W + 1 - 1 = i / W by omega]; omega] at e1
  rw [show (i / W - 1) * W + (i % W + 1) - 1 = i - W by rw [Int.sub_mul]; omega] at e2
  rw [e1, e2, show (i / W + 1).toNat = (i / W).toNat + 1 by omega]
  exact AR_down (rd_bd (M := M) (by omega) hp.2.2) 0 0 _ _

theorem tmod_pos {i W : Int} (h : 0 ≤ i) : Int.tmod i W = i % W := Int.tmod_eq_emod_of_nonneg h

theorem m_nums {W A i : Int} (h1 : 1 ≤ W) (h2 : W ≤ 6) (h0 : 0 ≤ i) (h3 : i < A) (h4 : A ≤ 30) : wrap64 (i - 1) = i - 1 ∧ wrap64 (i - W) = i - W ∧ wrap64 (i + 1) = i + 1 ∧ ¬ W = 0 ∧ i - 1 < A ∧ i - W < A :=
  ⟨wrap_in (by omega) (by omega), wrap_in (by omega) (by omega), wrap_in (by omega) (by omega), by omega, by omega, by omega⟩

theorem m_sp {s s' M : Int} {i : Nat} (h : 0 ≤ s') (h2 : s' ≤ M * ((i + 1 : Nat) : Int)) (hM : M * ((i + 1 : Nat) : Int) ≤ 65535 * 30) (e : s = s') : wrap64 s = s' := by
  rw [e]
  exact wrap_in (by omega) (by omega)

theorem not_lt' {a b : Int} (h : a ≤ b) : ¬ b < a := by omega
theorem ge_sub {i W : Int} (h : i ≥ W) : 0 ≤ i - W := by omega

theorem m_step (K : Nat) {W H M : Int} {P : List Int} (hp : PV W H M P) (hW' : W ≤ 6) (hH' : H ≤ 5) (hM' : M ≤ 65535) (t : List Int) (p : Int) (i : Nat) (hi : i < P.length) :
    tilefarmlaw13_IntegralMonotone.l0 (K + 1) (SP P i) (i : Int) t p W H M P W H (W * H * M) (IP W H P) = tilefarmlaw13_IntegralMonotone.l0 K (SP P (i + 1)) ((i + 1 : Nat) : Int) t p W H M P W H (W * H * M) (IP W H P) := by
  have hPl : (P.length : Int) = W * H := hp.2.1
  have hq : ((IP W H P).length : Int) = W * H := IP_len hp.1.1 hp.1.2.2.1 P
  have hiP : (i : Int) < (P.length : Int) := Int.ofNat_lt.2 hi
  have hil : (i : Int) < W * H := hPl ▸ hiP
  have h0 : 0 ≤ (i : Int) := Int.natCast_nonneg i
  obtain ⟨n1, n2, n3, n4, n5, n6⟩ := m_nums hp.1.1 hW' h0 hil (small_whm hp hW' hH' hM').2.1
  have hM0 : 0 ≤ M := Int.le_trans (by decide) hp.1.2.2.2.2.2.1
  have hi30 : ((i + 1 : Nat) : Int) ≤ 30 := by have := (small_whm hp hW' hH' hM').2.1; clear n1 n2 n3 n5 n6; omega
  obtain ⟨b1, b2⟩ := SP_bd (rd_bd (P := P) (M := M) hM0 hp.2.2) (i + 1)
  have e1 : wrap64 (SP P i + rd P (i : Int)) = SP P (i + 1) := m_sp b1 b2 (mul_bd hM0 (Int.natCast_nonneg _) hM' hi30).2 rfl
  have up : (i : Int) ≥ W → rd (IP W H P) ((i : Int) - W) ≤ rd (IP W H P) (i : Int) := fun c => up_ge hp (i := (i : Int)) c hil
  have lf : 0 < (i : Int) % W → rd (IP W H P) ((i : Int) - 1) ≤ rd (IP W H P) (i : Int) ∧ 1 ≤ (i : Int) := fun c => left_ge hp h0 hil c
  rw [← hq] at n5 n6
  have hiq : (i : Int) < ((IP W H P).length : Int) := hq ▸ hil
  rw [tilefarmlaw13_IntegralMonotone.l0, if_pos hiP, if_pos h0, if_neg n4, tmod_pos h0, n1, n2, n3, e1]
  clear hp hPl hq hil hM0 hi30 b1 b2 e1 n1 n2 n3 n4
  generalize IP W H P = I at *
  show _ = tilefarmlaw13_IntegralMonotone.l0 K (SP P (i + 1)) ((i : Int) + 1) t p W H M P W H (W * H * M) I
  generalize tilefarmlaw13_IntegralMonotone.l0 K (SP P (i + 1)) ((i : Int) + 1) t p W H M P W H (W * H * M) I = Z
  have hrow : (if (i : Int) ≥ W then (if 0 ≤ (i : Int) - W then (if (i : Int) - W < (I.length : Int) then (if rd I (i : Int) < rd I ((i : Int) - W) then (some false) else Z) else none) else none) else Z) = Z := by
    by_cases c : (i : Int) ≥ W
    · rw [if_pos c, if_pos (ge_sub c), if_pos n6, if_neg (not_lt' (up c))]
    · rw [if_neg c]
  by_cases c1 : (i : Int) % W > 0
  · obtain ⟨g1, g2⟩ := lf c1
    rw [if_pos c1, if_pos hiq, if_pos (show 0 ≤ (i : Int) - 1 from Int.sub_nonneg_of_le g2), if_pos n5, if_neg (not_lt' g1)]
    exact hrow
  · rw [if_neg c1, if_pos hiq]
    exact hrow

theorem m_loop {W H M : Int} {P : List Int} (hp : PV W H M P) (hW' : W ≤ 6) (hH' : H ≤ 5) (hM' : M ≤ 65535) (t : List Int) (p : Int) : ∀ (d K i : Nat), i + d = P.length →
    tilefarmlaw13_IntegralMonotone.l0 (K + d) (SP P i) (i : Int) t p W H M P W H (W * H * M) (IP W H P) = tilefarmlaw13_IntegralMonotone.l0 K (SP P P.length) (P.length : Int) t p W H M P W H (W * H * M) (IP W H P)
  | 0, K, i, h => by
    have : i = P.length := h
    rw [this]
    rfl
  | d + 1, K, i, h => by
    rw [show K + (d + 1) = (K + d) + 1 from rfl, m_step (K + d) hp hW' hH' hM' t p i (by omega)]
    exact m_loop hp hW' hH' hM' t p d K (i + 1) (by omega)

theorem last_ok {W H M : Int} {P : List Int} (hp : PV W H M P) : rd (IP W H P) (W * H - 1) = SP P P.length := by
  have hS := hp.1
  have e := IP_rd hS.1 hS.2.2.1 P (x := W) (y := H) hS.1 (Int.le_refl _) hS.2.2.1 (Int.le_refl _)
  rw [show (H - 1) * W + W - 1 = W * H - 1 by rw [Int.sub_mul, Int.mul_comm H W]; omega] at e
  have hw : W = ((W.toNat : Nat) : Int) := (Int.toNat_of_nonneg (by omega)).symm
  have hl : P.length = H.toNat * W.toNat := by
    have h2 : ((H.toNat * W.toNat : Nat) : Int) = W * H := by rw [Int.natCast_mul, Int.toNat_of_nonneg (by omega), Int.toNat_of_nonneg (by omega), Int.mul_comm]
    have := hp.2.1
    omega
  rw [e, hl, ← AR_SP W.toNat P H.toNat, ← hw]

theorem m_end (K : Nat) (hK : 2100 ≤ K) {W H M : Int} {P : List Int} (hp : PV W H M P) (hW' : W ≤ 6) (hH' : H ≤ 5) (hM' : M ≤ 65535) (t : List Int) (ht : t.length ≤ 4611686018427387904) (p : Int) (hp0 : 0 ≤ p) :
    tilefarmlaw13_IntegralMonotone.l0 K (SP P P.length) (P.length : Int) t p W H M P W H (W * H * M) (IP W H P) = some true := by
  obtain ⟨K, rfl⟩ : ∃ n, K = n + 1 + 1 := ⟨K - 2, by omega⟩
  have hS := hp.1
  obtain ⟨s1, s2, s3, s4⟩ := small_whm hp hW' hH' hM'
  have hq : ((IP W H P).length : Int) = W * H := IP_len hS.1 hS.2.2.1 P
  have hsane : tilefarmlaw13_sane.f K = some true := at_rounds tilefarmlaw13_sane.mono (by omega) sane_eq
  obtain ⟨a, b, c, d, s, w1, w2, w3, w4, w5, w6, w7, w8⟩ := within_spec t p W H hp0 ht (by omega) (by omega) (by omega) (by omega)
  obtain ⟨n, n1, n2, n3, n4⟩ := next_o t s (c - a) w2 ht (by omega) (by omega)
  have hi : IN W H a b c d := ⟨w3, w4, w5, w6, w7, w8⟩
  rw [tilefarmlaw13_IntegralMonotone.l0, if_neg (Int.lt_irrefl _), w1, Option.bind_some]
  show ((tilefarmgen_Tape_Next.f t s (wrap64 (c - a))).bind _) = _
  rw [wrap_in (n := c - a) (by omega) (by omega), n1, Option.bind_some, sum_ok (K + 1) (by omega) hp hW' hH' hM' hi, Option.bind_some, if_pos rfl, wrap_in (n := ((IP W H P).length : Int) - 1) (by omega) (by omega), if_pos (show 0 ≤ ((IP W H P).length : Int) - 1 by omega), if_pos (show ((IP W H P).length : Int) - 1 < ((IP W H P).length : Int) by omega),
    hq, last_ok hp, bne_self_eq_false, wrap_in (n := a + n.1) (by omega) (by omega), tilefarmlaw13_IntegralMonotone.j2, if_neg Bool.false_ne_true]
  by_cases c1 : a + n.1 = a
  · rw [if_pos c1, hsane, Option.bind_some]
  · rw [if_neg c1, sum_ok K (by omega) hp hW' hH' hM' (x0 := a) (y0 := b) (x1 := a + n.1) (y1 := d) ⟨by omega, by omega, by omega, by omega, by omega, by omega⟩, Option.bind_some, sum_ok K (by omega) hp hW' hH' hM' (x0 := a + n.1) (y0 := b) (x1 := c) (y1 := d) ⟨by omega, by omega, by omega, by omega, by omega, by omega⟩, Option.bind_some, if_pos rfl, if_pos rfl]
    have b1 := AR_le hp 0 0 (i := c.toNat) (k := d.toNat) (by omega) (by omega)
    have b2 := AR_le hp 0 0 (i := a.toNat) (k := d.toNat) (by omega) (by omega)
    have b3 := AR_le hp 0 0 (i := c.toNat) (k := b.toNat) (by omega) (by omega)
    have b4 := AR_le hp 0 0 (i := a.toNat) (k := b.toNat) (by omega) (by omega)
    have hsum : SM W P a b (a + n.1) d + SM W P (a + n.1) b c d = SM W P a b c d := by
      show (_ - _ - _ + _) + (_ - _ - _ + _) = _ - _ - _ + _
      omega
    have hr : -9223372036854775808 ≤ SM W P a b c d ∧ SM W P a b c d ≤ 9223372036854775807 := by
      show _ ≤ _ - _ - _ + _ ∧ _ - _ - _ + _ ≤ _
      constructor <;> omega
    rw [hsum, wrap_in hr.1 hr.2, if_pos rfl, hsane, Option.bind_some]

theorem IntegralMonotone : tilefarmlaw13_IntegralMonotone.Pure := by
  intro t _ hl _
  have ht : t.length ≤ 4611686018427387904 := by omega
  obtain ⟨K, hK⟩ : ∃ K : Nat, 2500 ≤ K := ⟨2500, Nat.le_refl _⟩
  refine ⟨K + 1, ?_⟩
  unfold tilefarmlaw13_IntegralMonotone.f tilefarmgen_New.f
  rw [Option.bind_some]
  obtain ⟨p, p1, p2, p3, p4, p5, p6, p7, p8, p9, p10⟩ := plane_spec (K + 1) (by omega) t ht 0 (Int.le_refl _)
  obtain ⟨hPV, hPl⟩ := plane_PV p2 p3 p4 p5 p6 p7 p8 p9
  obtain ⟨s1', s2, s3, s4⟩ := small_whm hPV (by omega) (by omega) p7
  rw [p1, Option.bind_some, whole_ok (K + 1) (by omega) hPV (by omega) (by omega) p7, Option.bind_some, if_pos rfl, wrap_in (n := p.1 * p.2.1) (by omega) (by omega), bne_eq_false_iff_eq.2 (IP_len hPV.1.1 hPV.1.2.2.1 p.2.2.2.1),
    tilefarmlaw13_IntegralMonotone.j0, if_neg Bool.false_ne_true]
  have h := m_loop hPV (by omega) (by omega) p7 t p.2.2.2.2 p.2.2.2.1.length (K - p.2.2.2.1.length) 0 (Nat.zero_add _)
  rw [show K - p.2.2.2.1.length + p.2.2.2.1.length = K by omega] at h
  exact h.trans (m_end (K - p.2.2.2.1.length) (by omega) hPV (by omega) (by omega) p7 t ht p.2.2.2.2 p10)


end Go.Proofs.Ytkipnpgcpohlcaa.Pure
namespace Go.Proofs.Ytkipnpgcpohlcaa
open Go.ChangeShapes Go.WideShapes
/-- The print's own word, under the name that the printed row uses. -/
theorem PrintWords.sized_ints {H : Type} {enc : TypeId × Value → H} {P : Program} {W : World} {base : Nat} {spare : Nat → Bool} {held : Bool} {t e : TypeId} {k : IntKind} {a : Option Addr} {len cap : Nat} {d : DataW H} {ps : List MemPlace} {ts : List TypeId} {ds : List (DataW H)} {j : Nat}
    (hsz : (DataW.weightsEach P ts ds).all (· ≤ reachBytes) = true) (ht : ts[j]? = some t) (hd : ds[j]? = some d) (hu : P.underlying t = some (.slice e)) (he : P.underlying e = some (.int k)) (hc : P.cellsOf e = 1) {B : Nat} (hB : P.bytesOf e = B)
    (h : DataW.Trod enc P W base spare held t (.slice a len cap) d ps) : len * B ≤ 140737488351232 :=
  Go.Proofs.YtkipnpgcpohlcaaW.PrintWords.sized_ints hsz ht hd hu he hc hB h
end Go.Proofs.Ytkipnpgcpohlcaa

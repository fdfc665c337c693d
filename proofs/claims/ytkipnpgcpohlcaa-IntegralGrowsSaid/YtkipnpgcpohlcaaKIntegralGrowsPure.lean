/- Tiles that are computed one after another from their neighbours give the integral plane, for every tape. -/
import Derived.Test.YtkipnpgcpohlcaaKIntegralGrowsx12
import Derived.Test.YtkipnpgcpohlcaaKIntegralGrowsa
namespace Go.Proofs.Ytkipnpgcpohlcaa.Pure
open Go.RowKit Go.Proofs.Ytkipnpgcpohlcaa.PIntegralGrows Go.Proofs.YtkipnpgcpohlcaaW.PrintWords Go.Proofs.YtkipnpgcpohlcaaW.PrintLast Go.Proofs.YtkipnpgcpohlcaaW.PrintMore
set_option linter.unusedVariables false
set_option linter.unusedSimpArgs false

theorem wrap_in {n : Int} (h : -9223372036854775808 ≤ n) (h' : n ≤ 9223372036854775807) : wrap64 n = n := by unfold wrap64; omega

theorem tmod_emod (a n : Int) (h : 0 < n) : (0 ≤ Int.tmod a n ∧ Int.tmod a n = a % n) ∨ (Int.tmod a n < 0 ∧ Int.tmod a n + n = a % n) := by
  have h1 := Int.tmod_eq_emod (a := a) (b := n)
  have h2 := Int.emod_nonneg a (by omega : n ≠ 0)
  have h3 := Int.emod_lt_of_pos a h
  split at h1 <;> omega

theorem mod_eq (a n : Int) (h : 0 < n) (hn : n ≤ 4611686018427387904) : tilefarmgen_Mod.f a n = some (a % n) := by
  have h2 := Int.emod_nonneg a (by omega : n ≠ 0)
  have h3 := Int.emod_lt_of_pos a h
  unfold tilefarmgen_Mod.f
  rw [if_neg (by omega)]
  rcases tmod_emod a n h with ⟨h4, h5⟩ | ⟨h4, h5⟩
  · rw [if_neg (by omega), h5]
  · rw [if_pos h4, wrap_in (by omega) (by omega), h5]

theorem sd_true {p : Prop} [Decidable p] (h : p) : some true = some (decide p) := by rw [decide_eq_true h]
theorem sd_false {p : Prop} [Decidable p] (h : ¬ p) : some false = some (decide p) := by rw [decide_eq_false h]
theorem sd_iff {p q : Prop} [Decidable p] [Decidable q] (h : q ↔ p) : some (decide q) = some (decide p) := by rw [decide_eq_decide.2 h]

theorem mx_max (a b : Int) : mx a b = max a b := by unfold mx; omega
theorem mn_min (a b : Int) : mn a b = min a b := by unfold mn; omega

theorem mul_bd {x y B C : Int} (hx : 0 ≤ x) (hy : 0 ≤ y) (hxB : x ≤ B) (hyB : y ≤ C) : 0 ≤ x * y ∧ x * y ≤ B * C :=
  ⟨Int.mul_nonneg hx hy, Int.mul_le_mul hxB hyB hy (by omega)⟩

theorem dec_iff {p q : Prop} [Decidable p] [Decidable q] (h : p ↔ q) : decide p = decide q := decide_eq_decide.2 h
theorem and_not_dec (p q : Prop) [Decidable p] [Decidable q] : (decide p && !decide q) = decide (p ∧ ¬ q) := by
  by_cases hp : p <;> by_cases hq : q <;> simp [hp, hq]

theorem wrap64_range (n : Int) : -9223372036854775808 ≤ wrap64 n ∧ wrap64 n ≤ 9223372036854775807 := by unfold wrap64; omega

theorem wf_range {n : Int} (h : (Lit.int .i64 n).wf = true) : -9223372036854775808 ≤ n ∧ n ≤ 9223372036854775807 := by
  simp only [Lit.wf, IntKind.min, IntKind.max, IntKind.signed, IntKind.bits, Bool.and_eq_true, decide_eq_true_eq, if_true] at h
  omega


theorem next_spec (l : List Int) (s n : Int) (hs : 0 ≤ s) (hl : l.length ≤ 4611686018427387904) (h : 0 < n) (hn : n ≤ 4611686018427387904) :
    ∃ r s', tilefarmgen_Tape_Next.f l s n = some (r, s') ∧ 0 ≤ r ∧ r < n ∧ 0 ≤ s' := by
  unfold tilefarmgen_Tape_Next.f
  rw [if_neg (by omega)]
  by_cases h1 : s ≥ (l.length : Int)
  · rw [if_pos h1]; exact ⟨_, _, rfl, by omega, by omega, hs⟩
  · have e1 : wrap64 (s + 1) = s + 1 := wrap_in (by omega) (by omega)
    have e2 : wrap64 (s + 1 - 1) = s := by rw [wrap_in (by omega) (by omega)]; omega
    rw [if_neg h1]
    simp only [e1, e2]
    rw [if_pos hs, if_pos (by omega), mod_eq _ _ h hn]
    exact ⟨_, _, rfl, Int.emod_nonneg _ (by omega), Int.emod_lt_of_pos _ h, by omega⟩


theorem rd_mem (l : List Int) (i : Nat) (h : i < l.length) : rd l (i : Int) ∈ l := by
  simp [rd, h]

theorem rd_drop (l : List Int) (i : Nat) (h : i < l.length) : l.drop i = rd l (i : Int) :: l.drop (i + 1) := by
  rw [List.drop_eq_getElem_cons h]
  simp [rd, h]

theorem next_o (l : List Int) (s n : Int) (hs : 0 ≤ s) (hl : l.length ≤ 4611686018427387904) (h : 0 < n) (hn : n ≤ 4611686018427387904) :
    ∃ bt, tilefarmgen_Tape_Next.f l s n = some bt ∧ 0 ≤ bt.1 ∧ bt.1 < n ∧ 0 ≤ bt.2 := by
  obtain ⟨r, s', h1, h2, h3, h4⟩ := next_spec l s n hs hl h hn
  exact ⟨(r, s'), h1, h2, h3, h4⟩

theorem pick_o (l : List Int) (s : Int) (xs : List Int) (hs : 0 ≤ s) (hl : l.length ≤ 4611686018427387904) (h : 0 < xs.length) (hx : xs.length ≤ 100) :
    ∃ bt, tilefarmgen_Tape_Pick.f l s xs = some bt ∧ bt.1 ∈ xs ∧ 0 ≤ bt.2 := by
  obtain ⟨r, s', h1, h2, h3, h4⟩ := next_spec l s (xs.length : Int) hs hl (by omega) (by omega)
  refine ⟨(rd xs r, s'), ?_, ?_, h4⟩
  · unfold tilefarmgen_Tape_Pick.f
    rw [h1, Option.bind_some, if_pos h2, if_pos h3]
  · obtain ⟨n, rfl⟩ := Int.eq_ofNat_of_zero_le h2
    exact rd_mem xs n (by omega)


/-! The pixels of a rectangle. -/
def rowg (g : Int → Int → Int) (y : Int) : Nat → Int → List Int
  | 0, _ => []
  | d + 1, x => g x y :: rowg g y d (x + 1)

def rowsg (g : Int → Int → Int) (x0 : Int) (w : Nat) : Nat → Int → List Int
  | 0, _ => []
  | d + 1, y => rowg g y w x0 ++ rowsg g x0 w d (y + 1)

theorem rowg_len (g : Int → Int → Int) (y : Int) : ∀ (d : Nat) (x : Int), (rowg g y d x).length = d
  | 0, _ => rfl
  | d + 1, x => by simp only [rowg]; rw [List.length_cons, rowg_len g y d (x + 1)]

theorem rowsg_len (g : Int → Int → Int) (x0 : Int) (w : Nat) : ∀ (d : Nat) (y : Int), (rowsg g x0 w d y).length = d * w
  | 0, _ => by simp [rowsg]
  | d + 1, y => by simp only [rowsg]; rw [List.length_append, rowg_len, rowsg_len g x0 w d (y + 1), Nat.add_mul]; omega

theorem rowg_get (g : Int → Int → Int) (y : Int) : ∀ (d : Nat) (x : Int) (i : Nat), i < d → (rowg g y d x)[i]? = some (g (x + (i : Int)) y)
  | 0, _, i, h => by omega
  | d + 1, x, 0, h => by simp [rowg]
  | d + 1, x, i + 1, h => by
    simp only [rowg, List.getElem?_cons_succ]
    rw [rowg_get g y d (x + 1) i (by omega), show x + 1 + (i : Int) = x + ((i + 1 : Nat) : Int) by omega]

theorem rowsg_get (g : Int → Int → Int) (x0 : Int) (w : Nat) : ∀ (d : Nat) (y : Int) (j i : Nat), j < d → i < w → (rowsg g x0 w d y)[j * w + i]? = some (g (x0 + (i : Int)) (y + (j : Int)))
  | 0, _, j, i, h, _ => by omega
  | d + 1, y, 0, i, h, hi => by
    simp only [rowsg]
    rw [List.getElem?_append_left (by rw [rowg_len]; omega), Nat.zero_mul, Nat.zero_add, rowg_get g y w x0 i hi]
    simp
  | d + 1, y, j + 1, i, h, hi => by
    simp only [rowsg]
    rw [List.getElem?_append_right (by rw [rowg_len, Nat.add_mul]; omega), rowg_len, show (j + 1) * w + i - w = j * w + i by rw [Nat.add_mul]; omega, rowsg_get g x0 w d (y + 1) j i (by omega) hi, show y + 1 + (j : Int) = y + ((j + 1 : Nat) : Int) by omega]

theorem rowsg_rd (g : Int → Int → Int) (x0 : Int) (w d : Nat) (y : Int) (j i : Nat) (hj : j < d) (hi : i < w) : rd (rowsg g x0 w d y) ((j * w + i : Nat) : Int) = g (x0 + (i : Int)) (y + (j : Int)) := by
  simp only [rd, Int.toNat_natCast, List.getD_eq_getElem?_getD]
  rw [rowsg_get g x0 w d y j i hj hi]
  rfl

theorem rowg_all (Q : Int → Prop) (g : Int → Int → Int) (h : ∀ x y, Q (g x y)) (y : Int) : ∀ (d : Nat) (x : Int), ∀ v ∈ rowg g y d x, Q v
  | 0, _, v, hv => by simp [rowg] at hv
  | d + 1, x, v, hv => by
    simp only [rowg, List.mem_cons] at hv
    rcases hv with hv | hv
    · rw [hv]; exact h _ _
    · exact rowg_all Q g h y d (x + 1) v hv

theorem rowsg_all (Q : Int → Prop) (g : Int → Int → Int) (h : ∀ x y, Q (g x y)) (x0 : Int) (w : Nat) : ∀ (d : Nat) (y : Int), ∀ v ∈ rowsg g x0 w d y, Q v
  | 0, _, v, hv => by simp [rowsg] at hv
  | d + 1, y, v, hv => by
    simp only [rowsg, List.mem_append] at hv
    rcases hv with hv | hv
    · exact rowg_all Q g h y w x0 v hv
    · exact rowsg_all Q g h x0 w d (y + 1) v hv


abbrev V (a b c d : Int) : Prop := (a = 0 ∧ b = 0 ∧ c = 0 ∧ d = 0) ∨ (-1048576 ≤ a ∧ a ≤ 1048576 ∧ -1048576 ≤ b ∧ b ≤ 1048576 ∧ -1048576 ≤ c ∧ c ≤ 1048576 ∧ -1048576 ≤ d ∧ d ≤ 1048576 ∧ a < c ∧ b < d)

theorem empty_eq (a b c d : Int) : rect_Empty.f a b c d = some (decide (a = 0 ∧ b = 0 ∧ c = 0 ∧ d = 0)) := by
  unfold rect_Empty.f
  congr 1
  rw [Bool.eq_iff_iff]
  simp

theorem coord_eq (a : Int) : rect_coord.f a = some (decide (-1048576 ≤ a ∧ a ≤ 1048576)) := by
  unfold rect_coord.f
  split <;> congr 1 <;> rw [Bool.eq_iff_iff] <;> simp <;> omega

theorem valid_eq (a b c d : Int) : rect_Valid.f a b c d = some (decide (V a b c d)) := by
  unfold rect_Valid.f
  simp only [empty_eq, coord_eq, Option.bind_some, decide_eq_true_eq]
  repeat' split
  all_goals first | (refine sd_iff ?_; omega) | (refine sd_true ?_; omega) | (refine sd_false ?_; omega)

def ix (a0 a1 a2 a3 b0 b1 b2 b3 : Int) : Int × Int × Int × Int :=
  if V a0 a1 a2 a3 ∧ V b0 b1 b2 b3 ∧ mx a0 b0 < mn a2 b2 ∧ mx a1 b1 < mn a3 b3 then (mx a0 b0, mx a1 b1, mn a2 b2, mn a3 b3) else (0, 0, 0, 0)

theorem intersect_eq (k : Nat) (a0 a1 a2 a3 b0 b1 b2 b3 : Int) : rect_Intersect.f (k + 1) a0 a1 a2 a3 b0 b1 b2 b3 = some (ix a0 a1 a2 a3 b0 b1 b2 b3) := by
  unfold rect_Intersect.f ix
  simp only [valid_eq, Option.bind_some, rect_Intersect.j0, decide_eq_true_eq, Bool.not_eq_true', decide_eq_false_iff_not, if_true]
  by_cases h1 : V a0 a1 a2 a3
  · by_cases h2 : V b0 b1 b2 b3
    · rw [if_pos h1, if_neg (fun h => h h2)]
      by_cases h3 : mx a0 b0 < mn a2 b2
      · by_cases h4 : mx a1 b1 < mn a3 b3
        · rw [if_neg (by omega), if_neg (by omega), if_pos ⟨h1, h2, h3, h4⟩]
        · rw [if_neg (by omega), if_pos (by omega), if_neg (fun h => h4 h.2.2.2)]
      · rw [if_pos (by omega), if_neg (fun h => h3 h.2.2.1)]
    · rw [if_pos h1, if_pos h2, if_neg (fun h => h2 h.2.1)]
  · rw [if_neg h1, if_neg (fun h => h1 h.1)]

theorem ix_spec {a0 a1 a2 a3 b0 b1 b2 b3 c0 c1 c2 c3 : Int} (hc : ix a0 a1 a2 a3 b0 b1 b2 b3 = (c0, c1, c2, c3)) (ha : V a0 a1 a2 a3) (hb : V b0 b1 b2 b3) :
    (c0 = 0 ∧ c1 = 0 ∧ c2 = 0 ∧ c3 = 0 ∧ (min a2 b2 ≤ max a0 b0 ∨ min a3 b3 ≤ max a1 b1)) ∨ (c0 = max a0 b0 ∧ c1 = max a1 b1 ∧ c2 = min a2 b2 ∧ c3 = min a3 b3 ∧ c0 < c2 ∧ c1 < c3) := by
  simp only [ix, mx_max, mn_min] at hc
  split at hc
  · next h =>
    simp only [Prod.mk.injEq] at hc
    exact .inr (by omega)
  · next h =>
    simp only [Prod.mk.injEq] at hc
    refine .inl ?_
    have : ¬ (max a0 b0 < min a2 b2 ∧ max a1 b1 < min a3 b3) := fun h' => h ⟨ha, hb, h'⟩
    omega

theorem ix_inside {a0 a1 a2 a3 b0 b1 b2 b3 c0 c1 c2 c3 : Int} (h : (c0 = 0 ∧ c1 = 0 ∧ c2 = 0 ∧ c3 = 0 ∧ (min a2 b2 ≤ max a0 b0 ∨ min a3 b3 ≤ max a1 b1)) ∨ (c0 = max a0 b0 ∧ c1 = max a1 b1 ∧ c2 = min a2 b2 ∧ c3 = min a3 b3 ∧ c0 < c2 ∧ c1 < c3))
    (hy : ¬ (c0 = 0 ∧ c1 = 0 ∧ c2 = 0 ∧ c3 = 0)) : a0 ≤ c0 ∧ c0 < c2 ∧ c2 ≤ a2 ∧ a1 ≤ c1 ∧ c1 < c3 ∧ c3 ≤ a3 := by
  rcases h with h | h
  · exact absurd ⟨h.1, h.2.1, h.2.2.1, h.2.2.2.1⟩ hy
  · omega

theorem V_range {a b c d : Int} (h : V a b c d) : -1048576 ≤ a ∧ c ≤ 1048576 ∧ -1048576 ≤ b ∧ d ≤ 1048576 := by omega
theorem V_mono {a b c d : Int} (h : V a b c d) : a ≤ c ∧ b ≤ d := by omega


theorem mul_some (a b c : Int) : ∃ p, extent_Mul.f a b c = some p := by
  unfold extent_Mul.f
  by_cases c1 : a < 0
  · rw [if_pos c1]; exact ⟨_, rfl⟩
  · rw [if_neg c1]
    by_cases c2 : b < 0
    · rw [if_pos c2]; exact ⟨_, rfl⟩
    · rw [if_neg c2]
      by_cases c3 : c < 0
      · rw [if_pos c3]; exact ⟨_, rfl⟩
      · rw [if_neg c3]
        by_cases c4 : a = 0
        · rw [if_pos c4]; exact ⟨_, rfl⟩
        · rw [if_neg c4]
          by_cases c5 : b > wrap64 (Int.tdiv c a)
          · rw [if_pos c5]; exact ⟨_, rfl⟩
          · rw [if_neg c5]; exact ⟨_, rfl⟩

/-- Which sizes a plane can have. -/
abbrev SZ (a b m : Int) : Prop := 1 ≤ a ∧ a ≤ 128 ∧ 1 ≤ b ∧ b ≤ 128 ∧ a * b ≤ 4096 ∧ 1 ≤ m ∧ m ≤ 4294967296

theorem size_no {a b m : Int} (h : ¬ SZ a b m) : some false = some (decide (SZ a b m)) := by rw [decide_eq_false h]

theorem size_val (a b m : Int) : plane_size.f a b m = some (decide (SZ a b m)) := by
  unfold plane_size.f
  by_cases c1 : a ≥ 1
  · by_cases c2 : a ≤ 128
    · by_cases c3 : b ≥ 1
      · by_cases c4 : b ≤ 128
        · obtain ⟨b0, b1⟩ := mul_bd (x := a) (y := b) (B := 128) (C := 128) (by omega) (by omega) c2 c4
          have hq : b ≤ 4096 / a ↔ b * a ≤ 4096 := Int.le_ediv_iff_mul_le (by omega)
          have q0 : 0 ≤ 4096 / a := Int.ediv_nonneg (by decide) (by omega)
          have q1 : 4096 / a ≤ 4096 := Int.ediv_le_self _ (by decide)
          rw [Int.mul_comm b a] at hq
          unfold extent_Mul.f
          rw [if_neg (show ¬ a < 0 by omega), if_neg (show ¬ b < 0 by omega), if_neg (show ¬ (4096 : Int) < 0 by decide), if_neg (show ¬ a = 0 by omega), Int.tdiv_eq_ediv_of_nonneg (by decide), wrap_in (n := 4096 / a) (by omega) (by omega), wrap_in (n := a * b) (by omega) (by omega)]
          by_cases c5 : b > 4096 / a
          · rw [if_pos c5]
            exact size_no (fun h => by have := hq.2 h.2.2.2.2.1; omega)
          · rw [if_neg c5, Option.bind_some]
            simp only [if_pos c1, if_pos c2, if_pos c3, if_pos c4, if_true]
            by_cases c6 : m ≥ 1
            · rw [if_pos c6]
              have := hq.1 (by omega)
              exact congrArg some (decide_eq_decide.2 ⟨fun h => ⟨c1, c2, c3, c4, this, c6, h⟩, fun h => h.2.2.2.2.2.2⟩)
            · rw [if_neg c6]
              exact size_no (fun h => c6 h.2.2.2.2.2.1)
        · obtain ⟨p, hp⟩ := mul_some a b 4096
          rw [hp, Option.bind_some]
          simp only [if_pos c1, if_pos c2, if_pos c3, if_neg c4, ite_self]
          exact size_no (fun h => c4 h.2.2.2.1)
      · obtain ⟨p, hp⟩ := mul_some a b 4096
        rw [hp, Option.bind_some]
        simp only [if_pos c1, if_pos c2, if_neg c3, ite_self]
        exact size_no (fun h => c3 h.2.2.1)
    · obtain ⟨p, hp⟩ := mul_some a b 4096
      rw [hp, Option.bind_some]
      simp only [if_pos c1, if_neg c2, ite_self]
      exact size_no (fun h => c2 h.2.1)
  · obtain ⟨p, hp⟩ := mul_some a b 4096
    rw [hp, Option.bind_some]
    simp only [if_neg c1, ite_self]
    exact size_no (fun h => c1 h.1)

/-- Which planes are valid. -/
abbrev PV (a b m : Int) (l : List Int) : Prop := SZ a b m ∧ (l.length : Int) = a * b ∧ ∀ v ∈ l, 0 ≤ v ∧ v ≤ m

theorem vloop_spec (a b m : Int) (l : List Int) (hl : l.length ≤ 4611686018427387904) : ∀ (d k i : Nat), i + d = l.length → d < k →
    plane_Valid.l0 k l (l.length : Int) (i : Int) a b m l = some (decide (∀ v ∈ l.drop i, 0 ≤ v ∧ v ≤ m))
  | 0, k, i, hi, hk => by
    obtain ⟨k, rfl⟩ : ∃ n, k = n + 1 := ⟨k - 1, by omega⟩
    rw [plane_Valid.l0, if_neg (show ¬ (i : Int) < (l.length : Int) by omega), List.drop_eq_nil_of_le (by omega)]
    simp
  | d + 1, k, i, hi, hk => by
    obtain ⟨k, rfl⟩ : ∃ n, k = n + 1 := ⟨k - 1, by omega⟩
    rw [plane_Valid.l0, rd_drop l i (by omega)]
    simp only [if_pos (show (i : Int) < (l.length : Int) by omega), if_pos (show 0 ≤ (i : Int) by omega), List.mem_cons, forall_eq_or_imp]
    rw [wrap_in (n := (i : Int) + 1) (by omega) (by omega), show ((i : Int) + 1) = ((i + 1 : Nat) : Int) from rfl, vloop_spec a b m l hl d k (i + 1) (by omega) (by omega)]
    by_cases c1 : rd l (i : Int) < 0
    · rw [if_pos c1]
      exact sd_false (fun h => by omega)
    · rw [if_neg c1]
      by_cases c2 : rd l (i : Int) > m
      · rw [if_pos c2]
        exact sd_false (fun h => by omega)
      · rw [if_neg c2]
        exact sd_iff ⟨fun h => ⟨by omega, h⟩, fun h => h.2⟩

theorem pvalid_spec (k : Nat) (a b m : Int) (l : List Int) (hl : l.length ≤ 4611686018427387904) (hk : l.length + 1 < k) : plane_Valid.f k a b m l = some (decide (PV a b m l)) := by
  obtain ⟨k, rfl⟩ : ∃ n, k = n + 1 := ⟨k - 1, by omega⟩
  unfold plane_Valid.f
  rw [size_val, Option.bind_some]
  by_cases c1 : SZ a b m
  · rw [decide_eq_true c1, if_pos rfl]
    obtain ⟨b0, b1⟩ := mul_bd (x := a) (y := b) (B := 128) (C := 128) (by omega) (by omega) c1.2.1 c1.2.2.2.1
    simp only [plane_Valid.j0]
    rw [wrap_in (n := a * b) (by omega) (by omega)]
    by_cases c2 : (l.length : Int) = a * b
    · rw [bne_eq_false_iff_eq.2 c2, if_neg Bool.false_ne_true]
      have hv := vloop_spec a b m l hl l.length k 0 (by omega) (by omega)
      rw [List.drop_zero] at hv
      exact hv.trans (sd_iff ⟨fun h => ⟨c1, c2, h⟩, fun h => h.2.2⟩)
    · rw [bne_iff_ne.2 c2, if_pos rfl]
      exact sd_false (fun h => c2 h.2.1)
  · rw [decide_eq_false c1, if_neg Bool.false_ne_true]
    exact sd_false (fun h => c1 h.1)


theorem set_all (P : Int → Prop) (l : List Int) (i : Nat) (v : Int) (h : ∀ x ∈ l, P x) (hv : P v) : ∀ x ∈ l.set i v, P x := by
  intro x hx
  rcases List.mem_or_eq_of_mem_set hx with hx | hx
  · exact h x hx
  · rw [hx]; exact hv

theorem sized_loop (t : List Int) (ht : t.length ≤ 4611686018427387904) (a b m : Int) (hm : 1 ≤ m) (hm' : m ≤ 4294967296) : ∀ (d k i : Nat) (s : Int) (l : List Int), 0 ≤ s → i + d = l.length → l.length ≤ 100000 → d < k →
    (∀ v ∈ l, 0 ≤ v ∧ v ≤ m) → ∃ bt, tilefarmgen_Tape_Sized.l0 k (i : Int) t s a b m l = some bt ∧ bt.1 = a ∧ bt.2.1 = b ∧ bt.2.2.1 = m ∧ bt.2.2.2.1.length = l.length ∧ (∀ v ∈ bt.2.2.2.1, 0 ≤ v ∧ v ≤ m) ∧ 0 ≤ bt.2.2.2.2
  | 0, k, i, s, l, hs, hi, hl, hk, hv => by
    obtain ⟨k, rfl⟩ : ∃ n, k = n + 1 := ⟨k - 1, by omega⟩
    rw [tilefarmgen_Tape_Sized.l0, if_neg (show ¬ (i : Int) < (l.length : Int) by omega)]
    exact ⟨_, rfl, rfl, rfl, rfl, rfl, hv, hs⟩
  | d + 1, k, i, s, l, hs, hi, hl, hk, hv => by
    obtain ⟨k, rfl⟩ : ∃ n, k = n + 1 := ⟨k - 1, by omega⟩
    rw [tilefarmgen_Tape_Sized.l0, if_pos (show (i : Int) < (l.length : Int) by omega), wrap_in (n := m + 1) (by omega) (by omega)]
    obtain ⟨r1, h1, h1a, h1b, h1c⟩ := next_o t s (m + 1) hs ht (by omega) (by omega)
    obtain ⟨r2, h2, h2a, h2b, h2c⟩ := next_o t r1.2 (m + 1) h1c ht (by omega) (by omega)
    obtain ⟨r3, h3, h3a, h3b⟩ := pick_o t r2.2 [r1.1, r2.1, m, 0] h2c ht (by simp) (by simp)
    rw [h1, Option.bind_some, h2, Option.bind_some, h3, Option.bind_some, if_pos (show 0 ≤ (i : Int) by omega), wrap_in (n := (i : Int) + 1) (by omega) (by omega)]
    have hr : 0 ≤ r3.1 ∧ r3.1 ≤ m := by
      simp only [List.mem_cons, List.not_mem_nil, or_false] at h3a
      clear h1 h2 h3 hv
      omega
    obtain ⟨bt, g1, g2, g3, g4, g5, g6, g7⟩ := sized_loop t ht a b m hm hm' d k (i + 1) r3.2 (l.set (i : Int).toNat r3.1) h3b (by rw [List.length_set]; omega) (by rw [List.length_set]; omega) (by omega) (set_all _ l _ _ hv hr)
    exact ⟨bt, g1, g2, g3, g4, by rw [g5, List.length_set], g6, g7⟩

theorem sized_spec (K : Nat) (hK : 2000 ≤ K) (t : List Int) (ht : t.length ≤ 4611686018427387904) (s a b : Int) (hs : 0 ≤ s) (ha : 1 ≤ a) (ha' : a ≤ 30) (hb : 1 ≤ b) (hb' : b ≤ 30) :
    ∃ bt, tilefarmgen_Tape_Sized.f K t s a b = some bt ∧ bt.1 = a ∧ bt.2.1 = b ∧ 1 ≤ bt.2.2.1 ∧ bt.2.2.1 ≤ 65535 ∧ (bt.2.2.2.1.length : Int) = a * b ∧ (∀ v ∈ bt.2.2.2.1, 0 ≤ v ∧ v ≤ bt.2.2.1) ∧ 0 ≤ bt.2.2.2.2 := by
  obtain ⟨r, h1, h1a, h1b⟩ := pick_o t s [255, 255, 65535, 1, 7] hs ht (by simp) (by simp)
  have hr : 1 ≤ r.1 ∧ r.1 ≤ 65535 := by
    simp only [List.mem_cons, List.not_mem_nil, or_false] at h1a
    clear h1
    omega
  obtain ⟨m0, m1⟩ := mul_bd (x := a) (y := b) (B := 30) (C := 30) (by omega) (by omega) ha' hb'
  unfold tilefarmgen_Tape_Sized.f
  rw [h1, Option.bind_some, wrap_in (n := a * b) (by omega) (by omega), if_pos m0, if_pos (show (a * b : Int).toNat ≤ 35184372088832 by omega)]
  obtain ⟨bt, g1, g2, g3, g4, g5, g6, g7⟩ := sized_loop t ht a b r.1 hr.1 (by omega) (a * b : Int).toNat K 0 r.2 (List.replicate (a * b : Int).toNat 0) h1b (by rw [List.length_replicate]; omega) (by rw [List.length_replicate]; omega) (by omega) (fun v hv => by rw [List.eq_of_mem_replicate hv]; omega)
  rw [List.length_replicate] at g5
  exact ⟨bt, g1, g2, g3, by rw [g4]; exact hr.1, by rw [g4]; exact hr.2, by rw [g5]; omega, by rw [g4]; exact g6, g7⟩


theorem plane_spec (K : Nat) (hK : 2000 ≤ K) (t : List Int) (ht : t.length ≤ 4611686018427387904) (s : Int) (hs : 0 ≤ s) :
    ∃ bt, tilefarmgen_Tape_Plane.f K t s = some bt ∧ 1 ≤ bt.1 ∧ bt.1 ≤ 6 ∧ 1 ≤ bt.2.1 ∧ bt.2.1 ≤ 5 ∧ 1 ≤ bt.2.2.1 ∧ bt.2.2.1 ≤ 65535 ∧ (bt.2.2.2.1.length : Int) = bt.1 * bt.2.1 ∧ (∀ v ∈ bt.2.2.2.1, 0 ≤ v ∧ v ≤ bt.2.2.1) ∧ 0 ≤ bt.2.2.2.2 := by
  obtain ⟨r1, h1, h1a, h1b, h1c⟩ := next_o t s 6 hs ht (by omega) (by omega)
  obtain ⟨r2, h2, h2a, h2b, h2c⟩ := next_o t r1.2 5 h1c ht (by omega) (by omega)
  obtain ⟨bt, g1, g2, g3, g4, g5, g6, g7, g8⟩ := sized_spec K hK t ht r2.2 (1 + r1.1) (1 + r2.1) h2c (by omega) (by omega) (by omega) (by omega)
  refine ⟨bt, ?_, by omega, by omega, by omega, by omega, g4, g5, by rw [g6, g2, g3], g7, g8⟩
  unfold tilefarmgen_Tape_Plane.f
  rw [h1, Option.bind_some, h2, Option.bind_some, wrap_in (n := 1 + r1.1) (by omega) (by omega), wrap_in (n := 1 + r2.1) (by omega) (by omega), g1, Option.bind_some]

theorem plane_PV {a b m : Int} {l : List Int} (h1 : 1 ≤ a) (h2 : a ≤ 6) (h3 : 1 ≤ b) (h4 : b ≤ 5) (h5 : 1 ≤ m) (h6 : m ≤ 65535) (h7 : (l.length : Int) = a * b) (h8 : ∀ v ∈ l, 0 ≤ v ∧ v ≤ m) : PV a b m l ∧ l.length ≤ 30 := by
  obtain ⟨m0, m1⟩ := mul_bd (x := a) (y := b) (B := 6) (C := 5) (by omega) (by omega) h2 h4
  exact ⟨⟨⟨h1, by omega, h3, by omega, by omega, h5, by omega⟩, h7, h8⟩, by omega⟩


/-- The rectangle is full and in the plane. -/
abbrev IN (W H x0 y0 x1 y1 : Int) : Prop := 0 ≤ x0 ∧ x0 < x1 ∧ x1 ≤ W ∧ 0 ≤ y0 ∧ y0 < y1 ∧ y1 ≤ H

theorem inside_p (k : Nat) {W H : Int} (hW : 1 ≤ W) (hW' : W ≤ 128) (hH : 1 ≤ H) (hH' : H ≤ 128) {a b c d : Int} (hz : ¬ (a = 0 ∧ b = 0 ∧ c = 0 ∧ d = 0)) : rect_Inside.f (k + 1) a b c d 0 0 W H = some (decide (IN W H a b c d)) := by
  have hb : V 0 0 W H := .inr (by omega)
  unfold rect_Inside.f
  rw [valid_eq, Option.bind_some]
  by_cases ha : V a b c d
  · rw [decide_eq_true ha, if_pos rfl, valid_eq, Option.bind_some, decide_eq_true hb, if_pos rfl, intersect_eq, Option.bind_some]
    simp only [ix, mx_max, mn_min]
    by_cases h : max a 0 < min c W ∧ max b 0 < min d H
    · rw [if_pos ⟨ha, hb, h.1, h.2⟩]
      congr 1
      rw [Bool.eq_iff_iff]
      simp only [Bool.and_eq_true, beq_iff_eq, decide_eq_true_eq]
      omega
    · rw [if_neg (fun g => h g.2.2)]
      congr 1
      rw [Bool.eq_iff_iff]
      simp only [Bool.and_eq_true, beq_iff_eq, decide_eq_true_eq]
      omega
  · rw [decide_eq_false ha, if_neg Bool.false_ne_true]
    exact sd_false (fun g => ha (.inr (by omega)))


/-- The pixels of a row of a rectangle. -/
def rowl (W : Int) (P : List Int) (x0 x1 y : Int) : List Int := (P.take (y * W + x1).toNat).drop (y * W + x0).toNat
/-- The pixels of some rows of a rectangle. -/
def rowsl (W : Int) (P : List Int) (x0 x1 : Int) : Nat → Int → List Int
  | 0, _ => []
  | d + 1, y => rowl W P x0 x1 y ++ rowsl W P x0 x1 d (y + 1)

theorem rowl_len {W : Int} {P : List Int} {x0 x1 y : Int} (h0 : 0 ≤ y * W) (h1 : 0 ≤ x0) (h2 : x0 ≤ x1) (h3 : y * W + x1 ≤ (P.length : Int)) : (rowl W P x0 x1 y).length = (x1 - x0).toNat := by
  unfold rowl
  rw [List.length_drop, List.length_take]
  omega

theorem rowl_mem {W : Int} {P : List Int} {x0 x1 y v : Int} (h : v ∈ rowl W P x0 x1 y) : v ∈ P := List.mem_of_mem_take (List.mem_of_mem_drop h)

theorem rowsl_mem {W : Int} {P : List Int} {x0 x1 v : Int} : ∀ (d : Nat) (y : Int), v ∈ rowsl W P x0 x1 d y → v ∈ P
  | 0, _, h => by simp [rowsl] at h
  | d + 1, y, h => by
    rcases List.mem_append.1 h with h | h
    · exact rowl_mem h
    · exact rowsl_mem d (y + 1) h

theorem row_in {y W H : Int} (h0 : 0 ≤ y) (h1 : y < H) (hW : 0 ≤ W) : 0 ≤ y * W ∧ y * W + W ≤ W * H := by
  refine ⟨Int.mul_nonneg h0 hW, ?_⟩
  have := Int.mul_le_mul_of_nonneg_right (show y + 1 ≤ H by omega) hW
  rw [Int.add_mul, Int.one_mul, Int.mul_comm H W] at this
  exact this


theorem cell_in {i j W H : Int} (h0 : 0 ≤ i) (h1 : i < W) (h2 : 0 ≤ j) (h3 : j < H) : 0 ≤ j * W ∧ j * W + i < W * H := by
  refine ⟨Int.mul_nonneg h2 (by omega), ?_⟩
  have := Int.mul_le_mul_of_nonneg_right (show j + 1 ≤ H by omega) (show 0 ≤ W by omega)
  rw [Int.add_mul, Int.one_mul, Int.mul_comm H W] at this
  omega


theorem rd_ext {a b : List Int} (hl : a.length = b.length) (h : ∀ i : Nat, i < a.length → rd a (i : Int) = rd b (i : Int)) : a = b := by
  refine List.ext_getElem hl (fun i h1 h2 => ?_)
  have := h i h1
  simpa [rd, h1, h2] using this

theorem rd_app_left {a b : List Int} {i : Nat} (h : i < a.length) : rd (a ++ b) (i : Int) = rd a (i : Int) := by
  simp only [rd, Int.toNat_natCast, List.getD_eq_getElem?_getD]
  rw [List.getElem?_append_left h]

theorem rd_app_right {a b : List Int} (i : Nat) : rd (a ++ b) ((a.length + i : Nat) : Int) = rd b (i : Int) := by
  simp only [rd, Int.toNat_natCast, List.getD_eq_getElem?_getD]
  rw [List.getElem?_append_right (Nat.le_add_right _ _), Nat.add_sub_cancel_left]

theorem rd_td {P : List Int} {A B i : Nat} (h : A + i < B) : rd ((P.take B).drop A) (i : Int) = rd P ((A + i : Nat) : Int) := by
  simp only [rd, Int.toNat_natCast, List.getD_eq_getElem?_getD, List.getElem?_drop, List.getElem?_take]
  rw [if_pos h]

/-- A full rectangle in a plane, in the numbers of the proofs. -/
structure RC (W H : Int) (P : List Int) (x0 y0 : Int) (w d : Nat) : Prop where
  hx0 : 0 ≤ x0
  hx1 : x0 + (w : Int) ≤ W
  hy0 : 0 ≤ y0
  hy1 : y0 + (d : Int) ≤ H
  hW : W ≤ 128
  hH : H ≤ 128
  hWH : W * H ≤ 4096
  hL : (P.length : Int) = W * H
  hw : 1 ≤ w
  hd : 1 ≤ d
  hw' : w ≤ 128
  hd' : d ≤ 128

theorem rc_row {W H : Int} {P : List Int} {x0 y0 : Int} {w d : Nat} (h : RC W H P x0 y0 w d) {j : Nat} (hj : j < d) : ∃ A : Nat, ((y0 + (j : Int)) * W + x0).toNat = A ∧ ((y0 + (j : Int)) * W + (x0 + (w : Int))).toNat = A + w ∧ A + w ≤ P.length ∧ (A : Int) = (y0 + (j : Int)) * W + x0 ∧ 0 ≤ (y0 + (j : Int)) * W ∧ (y0 + (j : Int)) * W ≤ 4096 := by
  obtain ⟨a0, a1⟩ := row_in (y := y0 + (j : Int)) (W := W) (H := H) (by have := h.hy0; omega) (by have := h.hy1; omega) (by have := h.hx0; have := h.hx1; omega)
  have h1 := h.hx0
  have h2 := h.hx1
  have h3 := h.hL
  have h4 := h.hWH
  exact ⟨_, rfl, by omega, by omega, by omega, a0, by omega⟩

theorem rowl_rc {W H : Int} {P : List Int} {x0 y0 : Int} {w d : Nat} (h : RC W H P x0 y0 w d) {j : Nat} (hj : j < d) : (rowl W P x0 (x0 + (w : Int)) (y0 + (j : Int))).length = w ∧ ∀ i : Nat, i < w → rd (rowl W P x0 (x0 + (w : Int)) (y0 + (j : Int))) (i : Int) = rd P ((y0 + (j : Int)) * W + x0 + (i : Int)) := by
  obtain ⟨A, e1, e2, e3, e4, -, -⟩ := rc_row h hj
  unfold rowl
  rw [e1, e2]
  refine ⟨by rw [List.length_drop, List.length_take]; omega, fun i hi => ?_⟩
  rw [rd_td (by omega), Int.natCast_add, e4]

/-- The pixels of a rectangle. -/
def recl (W : Int) (P : List Int) (x0 : Int) (w : Nat) (y0 : Int) : Nat → List Int
  | 0 => []
  | d + 1 => recl W P x0 w y0 d ++ rowl W P x0 (x0 + (w : Int)) (y0 + (d : Int))

theorem rc_less {W H : Int} {P : List Int} {x0 y0 : Int} {w d : Nat} (h : RC W H P x0 y0 w d) {j : Nat} (hj : 1 ≤ j) (hjd : j ≤ d) : RC W H P x0 y0 w j :=
  ⟨h.hx0, h.hx1, h.hy0, by have := h.hy1; omega, h.hW, h.hH, h.hWH, h.hL, h.hw, hj, h.hw', by have := h.hd'; omega⟩

theorem recl_len {W H : Int} {P : List Int} {x0 y0 : Int} {w d : Nat} (h : RC W H P x0 y0 w d) : ∀ j, j ≤ d → (recl W P x0 w y0 j).length = j * w
  | 0, _ => by simp [recl]
  | j + 1, hj => by
    simp only [recl]
    rw [List.length_append, recl_len h j (by omega), (rowl_rc h (j := j) (by omega)).1, Nat.add_mul, Nat.one_mul]

theorem recl_rd {W H : Int} {P : List Int} {x0 y0 : Int} {w d : Nat} (h : RC W H P x0 y0 w d) : ∀ n, n ≤ d → ∀ j i : Nat, j < n → i < w → rd (recl W P x0 w y0 n) ((j * w + i : Nat) : Int) = rd P ((y0 + (j : Int)) * W + x0 + (i : Int))
  | 0, _, j, i, hj, _ => by omega
  | n + 1, hn, j, i, hj, hi => by
    have hl := recl_len h n (by omega)
    have hr := rowl_rc h (j := n) (by omega)
    simp only [recl]
    by_cases q : j < n
    · have h1 : (j + 1) * w ≤ n * w := Nat.mul_le_mul_right _ q
      rw [Nat.add_mul, Nat.one_mul] at h1
      rw [rd_app_left (by rw [hl]; omega)]
      exact recl_rd h n (by omega) j i q hi
    · have hjn : j = n := by omega
      rw [hjn, ← hl, rd_app_right, hr.2 i hi]

theorem recl_mem {W : Int} {P : List Int} {x0 y0 v : Int} {w : Nat} : ∀ d, v ∈ recl W P x0 w y0 d → v ∈ P
  | 0, h => by simp [recl] at h
  | d + 1, h => by
    simp only [recl] at h
    rcases List.mem_append.1 h with h | h
    · exact recl_mem d h
    · exact rowl_mem h

theorem rc_len {W H : Int} {P : List Int} {x0 y0 : Int} {w d : Nat} (h : RC W H P x0 y0 w d) : d * w ≤ P.length := by
  have h1 : (w : Int) * (d : Int) ≤ W * H := Int.mul_le_mul (by have := h.hx0; have := h.hx1; omega) (by have := h.hy0; have := h.hy1; omega) (by omega) (by have := h.hx0; have := h.hx1; omega)
  have hwd : (w : Int) * (d : Int) = ((d * w : Nat) : Int) := by rw [Int.mul_comm]; exact (Int.natCast_mul d w).symm
  have hL := h.hL
  rw [hwd] at h1
  omega

theorem rc_of {W H m : Int} {P : List Int} (hV : PV W H m P) {x0 y0 x1 y1 : Int} (hI : IN W H x0 y0 x1 y1) : ∃ w d : Nat, x1 = x0 + (w : Int) ∧ y1 = y0 + (d : Int) ∧ RC W H P x0 y0 w d := by
  obtain ⟨i1, i2, i3, i4, i5, i6⟩ := hI
  obtain ⟨⟨s1, s2, s3, s4, s5, s6, s7⟩, s8, s9⟩ := hV
  exact ⟨(x1 - x0).toNat, (y1 - y0).toNat, by omega, by omega, ⟨i1, by omega, i4, by omega, s2, s4, s5, s8, by omega, by omega, by omega, by omega⟩⟩


/-! The greatest number of a list. -/
theorem max_loop {l : List Int} {m : Int} (hl : l.length ≤ 5000) (hv : ∀ v ∈ l, v ≤ m) : ∀ (d k i : Nat) (b : Int), i + d = l.length → b ≤ m → ∃ v, slices_Max_int_int.l0 (k + d + 1) l b (i : Int) = some v ∧ v ≤ m
  | 0, k, i, b, hi, hb => by
    rw [slices_Max_int_int.l0, if_neg (show ¬ (i : Int) < (l.length : Int) by omega)]
    exact ⟨b, rfl, hb⟩
  | d + 1, k, i, b, hi, hb => by
    have hm := hv _ (rd_mem l i (by omega))
    rw [show k + (d + 1) + 1 = (k + d + 1) + 1 from rfl, slices_Max_int_int.l0, if_pos (show (i : Int) < (l.length : Int) by omega), if_pos (show 0 ≤ (i : Int) by omega), wrap_in (n := (i : Int) + 1) (by omega) (by omega)]
    exact max_loop hl hv d k (i + 1) _ (by omega) (by rw [mx_max]; omega)

theorem max_p {l : List Int} {m : Int} (h0 : 0 < l.length) (hl : l.length ≤ 5000) (hv : ∀ v ∈ l, v ≤ m) (K : Nat) (hK : 6000 ≤ K) : ∃ v, slices_Max_int_int.f K l = some v ∧ v ≤ m := by
  obtain ⟨k, hk⟩ : ∃ k, K = k + (l.length - 1) + 1 := ⟨K - (l.length - 1) - 1, by omega⟩
  obtain ⟨v, g1, g2⟩ := max_loop hl hv (l.length - 1) k 1 (rd l 0) (by omega) (hv _ (rd_mem l 0 h0))
  refine ⟨v, ?_, g2⟩
  unfold slices_Max_int_int.f
  rw [if_neg (show ¬ (l.length : Int) < 1 by omega), if_pos (show 0 < (l.length : Int) by omega), hk]
  exact g1

/-! Blit. -/
theorem spl_rd {xs ys : List Int} {L : Nat} (h : L + ys.length ≤ xs.length) (i : Nat) : rd (spl xs L ys) (i : Int) = if L ≤ i ∧ i < L + ys.length then rd ys ((i - L : Nat) : Int) else rd xs (i : Int) := by
  have ht : (xs.take L).length = L := by rw [List.length_take]; omega
  unfold spl
  simp only [rd, Int.toNat_natCast, List.getD_eq_getElem?_getD]
  by_cases c1 : i < L
  · rw [if_neg (by omega), List.getElem?_append_left (by omega), List.getElem?_take, if_pos c1]
  · rw [List.getElem?_append_right (by omega), ht]
    by_cases c2 : i < L + ys.length
    · rw [if_pos ⟨by omega, c2⟩, List.getElem?_append_left (by omega)]
    · rw [if_neg (fun q => c2 q.2), List.getElem?_append_right (by omega), List.getElem?_drop]
      congr 2
      omega

theorem cell_iff {u v x c W : Int} {w : Nat} (hu : 0 ≤ u) (huW : u < W) (hx : 0 ≤ x) (hxW : x + (w : Int) ≤ W) : (c * W + x ≤ v * W + u ∧ v * W + u < c * W + x + (w : Int)) ↔ (v = c ∧ x ≤ u ∧ u < x + (w : Int)) := by
  constructor
  · rintro ⟨h1, h2⟩
    rcases Int.lt_trichotomy v c with q | q | q
    · have := Int.mul_le_mul_of_nonneg_right (show v + 1 ≤ c by omega) (show 0 ≤ W by omega)
      rw [Int.add_mul, Int.one_mul] at this
      omega
    · subst q
      exact ⟨rfl, by omega, by omega⟩
    · have := Int.mul_le_mul_of_nonneg_right (show c + 1 ≤ v by omega) (show 0 ≤ W by omega)
      rw [Int.add_mul, Int.one_mul] at this
      omega
  · rintro ⟨rfl, h1, h2⟩
    omega

/-- What a blit does: L is P with the first n rows of Q at (x, y). -/
structure BL (W H : Int) (P : List Int) (x y : Int) (w : Nat) (Q : List Int) (L : List Int) (n : Nat) : Prop where
  len : L.length = P.length
  rd : ∀ u v : Int, 0 ≤ u → u < W → 0 ≤ v → v < H → rd L (v * W + u) = if y ≤ v ∧ v < y + (n : Int) ∧ x ≤ u ∧ u < x + (w : Int) then rd Q ((v - y) * (w : Int) + (u - x)) else rd P (v * W + u)

theorem q_row {w d j : Nat} {Q : List Int} (hQ : Q.length = d * w) (hj : j < d) (hQl : Q.length ≤ 4096) : wrap64 ((j : Int) * (w : Int)) = ((j * w : Nat) : Int) ∧ wrap64 ((j : Int) + 1) = ((j + 1 : Nat) : Int) ∧ wrap64 (((j + 1 : Nat) : Int) * (w : Int)) = ((j * w + w : Nat) : Int) ∧ j * w + w ≤ Q.length ∧ (j : Int) ≤ 4096 ∨ w = 0 := by
  rcases Nat.eq_zero_or_pos w with q | q
  · exact .inr q
  · have h1 : (j + 1) * w ≤ d * w := Nat.mul_le_mul_right _ hj
    rw [Nat.add_mul, Nat.one_mul] at h1
    have h2 : j * 1 ≤ j * w := Nat.mul_le_mul_left _ q
    refine .inl ⟨?_, ?_, ?_, by omega, by omega⟩
    · rw [← Int.natCast_mul, wrap_in (by omega) (by omega)]
    · rw [wrap_in (by omega) (by omega)]; rfl
    · rw [← Int.natCast_mul, Nat.add_mul, Nat.one_mul, wrap_in (by omega) (by omega)]

theorem bl_step {W H : Int} {P Q L : List Int} {x y : Int} {w d j A : Nat} (h : RC W H P x y w d) (hQ : Q.length = d * w) (hj : j < d) (hb : BL W H P x y w Q L j) (hA : (A : Int) = (y + (j : Int)) * W + x) (hAl : A + w ≤ P.length) (hqw : j * w + w ≤ Q.length) :
    BL W H P x y w Q (spl L A ((Q.take (j * w + w)).drop (j * w))) (j + 1) := by
  have hyl : ((Q.take (j * w + w)).drop (j * w)).length = w := by rw [List.length_drop, List.length_take]; omega
  have hfit : A + ((Q.take (j * w + w)).drop (j * w)).length ≤ L.length := by rw [hyl, hb.len]; exact hAl
  refine ⟨by rw [spl_len hfit]; exact hb.len, fun u v hu huW hv hvH => ?_⟩
  have hcell := cell_in (i := u) (j := v) (W := W) (H := H) hu huW hv hvH
  obtain ⟨i, hi⟩ : ∃ i : Nat, (i : Int) = v * W + u := ⟨(v * W + u).toNat, Int.toNat_of_nonneg (Int.add_nonneg hcell.1 hu)⟩
  have hiff := cell_iff (u := u) (v := v) (x := x) (c := y + (j : Int)) (W := W) (w := w) hu huW h.hx0 h.hx1
  have hold := hb.rd u v hu huW hv hvH
  rw [← hi] at hiff hold ⊢
  rw [← hA] at hiff
  rw [spl_rd hfit, hyl]
  by_cases c : A ≤ i ∧ i < A + w
  · obtain ⟨e1, e2, e3⟩ := hiff.1 ⟨Int.ofNat_le.2 c.1, by have := c.2; omega⟩
    rw [if_pos c, if_pos (show y ≤ v ∧ v < y + ((j + 1 : Nat) : Int) ∧ x ≤ u ∧ u < x + (w : Int) by omega), rd_td (by omega)]
    congr 1
    have h1 : ((i - A : Nat) : Int) = u - x := by
      rw [Int.natCast_sub c.1, hA, hi, e1]
      omega
    rw [Int.natCast_add, h1, Int.natCast_mul, e1]
    congr 2
    omega
  · have hno : ¬ (v = y + (j : Int) ∧ x ≤ u ∧ u < x + (w : Int)) := fun q => c (by
      have := hiff.2 q
      exact ⟨Int.ofNat_le.1 this.1, by have := this.2; omega⟩)
    rw [if_neg c, hold]
    by_cases q : y ≤ v ∧ v < y + (j : Int) ∧ x ≤ u ∧ u < x + (w : Int)
    · rw [if_pos q, if_pos (show y ≤ v ∧ v < y + ((j + 1 : Nat) : Int) ∧ x ≤ u ∧ u < x + (w : Int) by omega)]
    · rw [if_neg q, if_neg (show ¬ (y ≤ v ∧ v < y + ((j + 1 : Nat) : Int) ∧ x ≤ u ∧ u < x + (w : Int)) by omega)]

theorem blit_w {W x y : Int} {A j : Nat} (hx0 : 0 ≤ x) (hxx : x ≤ 128) (hy0 : 0 ≤ y) (hyy : y + (j : Int) ≤ 128) (hA : (A : Int) = (y + (j : Int)) * W + x) (a0 : 0 ≤ (y + (j : Int)) * W) (a1 : (y + (j : Int)) * W ≤ 4096) :
    wrap64 (y + (j : Int)) = y + (j : Int) ∧ wrap64 ((y + (j : Int)) * W) = (y + (j : Int)) * W ∧ wrap64 ((y + (j : Int)) * W + x) = ((A : Nat) : Int) :=
  ⟨wrap_in (by omega) (by omega), wrap_in (by omega) (by omega), by rw [wrap_in (by omega) (by omega), hA]⟩

theorem blit_g {A w l n : Nat} (h : A + w ≤ l) (hl : n = l) : ((A : Nat) : Int) ≤ (n : Int) ∧ (w : Int) ≤ ((n - A : Nat) : Int) := by omega
theorem blit_q {a w n : Nat} (h : a + w ≤ n) : ((a : Nat) : Int) ≤ ((a + w : Nat) : Int) ∧ ((a + w : Nat) : Int) ≤ (n : Int) := by omega

theorem blit_xy {W H x y : Int} {P : List Int} {w d j : Nat} (h : RC W H P x y w d) (hj : j < d) : x ≤ 128 ∧ y + (j : Int) ≤ 128 := by
  have h1 := h.hx1
  have h2 := h.hW
  have h3 := h.hy1
  have h4 := h.hH
  omega

theorem blit_loop {W H m q : Int} {P Q : List Int} {x y : Int} {w d : Nat} (h : RC W H P x y w d) (hQ : Q.length = d * w) (hQl : Q.length ≤ 4096) : ∀ (e k j : Nat) (L : List Int), j + e = d → BL W H P x y w Q L j →
    ∃ L', plane_Blit.l0 (k + e + 1) x y (d : Int) (j : Int) W H m L (w : Int) (d : Int) q Q = some (W, H, m, L', true) ∧ BL W H P x y w Q L' d
  | 0, k, j, L, hj, hb => by
    have hjd : j = d := hj
    rw [hjd] at hb ⊢
    rw [plane_Blit.l0, if_neg (Int.lt_irrefl _)]
    exact ⟨L, rfl, hb⟩
  | e + 1, k, j, L, hj, hb => by
    have hj1 : j + 1 + e = d := (Nat.succ_add_eq_add_succ j e).trans hj
    have hj' : j < d := Nat.lt_of_lt_of_le (Nat.lt_succ_self j) (Nat.le.intro hj1)
    obtain ⟨A, e1, e2, e3, e4, e5, e6⟩ := rc_row h hj'
    obtain ⟨b1, b2⟩ := blit_xy h hj'
    rcases q_row hQ hj' hQl with ⟨z1, z2, z3, z4, z5⟩ | hw0
    · have hst := bl_step h hQ hj' hb e4 e3 z4
      obtain ⟨L', r1, r2⟩ := blit_loop (m := m) (q := q) h hQ hQl e k (j + 1) _ hj1 hst
      refine ⟨L', ?_, r2⟩
      have hyl : ((Q.take (j * w + w)).drop (j * w)).length = w := by rw [List.length_drop, List.length_take, Nat.min_eq_left z4, Nat.add_sub_cancel_left]
      obtain ⟨w1, w2, w3⟩ := blit_w h.hx0 b1 h.hy0 b2 e4 e5 e6
      obtain ⟨g1, g5⟩ := blit_g e3 hb.len
      obtain ⟨g2, g3⟩ := blit_q z4
      have g4 : (0 : Int) < (((Q.take (j * w + w)).drop (j * w)).length : Int) := by rw [hyl]; exact Int.ofNat_lt.2 h.hw
      have g6 : (((Q.take (j * w + w)).drop (j * w)).length : Int) ≤ ((L.drop A).length : Int) := by rw [hyl, List.length_drop]; exact g5
      rw [show k + (e + 1) + 1 = (k + e + 1) + 1 from rfl, plane_Blit.l0, if_pos (Int.ofNat_lt.2 hj'), w1, w2, w3, z1, z2, z3, if_pos (Int.natCast_nonneg A), if_pos g1, if_pos (Int.natCast_nonneg (j * w)), if_pos g2, if_pos g3]
      simp only [Int.toNat_natCast]
      rw [if_pos g4, if_pos g6]
      exact r1
    · exact absurd h.hw (by rw [hw0]; decide)

theorem blit_p {W H m q : Int} {P Q : List Int} (hV : PV W H m P) {x y : Int} {w d : Nat} (h : RC W H P x y w d) (hQ : PV (w : Int) (d : Int) q Q) (hle : ∀ v ∈ Q, v ≤ m) (K : Nat) (hK : 20000 ≤ K) :
    ∃ L, plane_Blit.f K W H m P (w : Int) (d : Int) q Q x y = some (W, H, m, L, true) ∧ BL W H P x y w Q L d := by
  have hQl : Q.length = d * w := by
    have := hQ.2.1
    rw [← Int.natCast_mul, Nat.mul_comm] at this
    exact Int.ofNat.inj this
  have hPl : P.length ≤ 4096 := by have := h.hL; have := h.hWH; omega
  have hq4 : Q.length ≤ 4096 := by have := rc_len h; omega
  have hd' := h.hd'
  have hdw : 1 * 1 ≤ d * w := Nat.mul_le_mul h.hd h.hw
  obtain ⟨v, g1, g2⟩ := max_p (by omega) (by omega) hle (K - 1) (by omega)
  obtain ⟨k, hk⟩ : ∃ k, K - 1 = k + d + 1 := ⟨K - 1 - d - 1, by omega⟩
  obtain ⟨L, r1, r2⟩ := blit_loop (m := m) (q := q) h hQl hq4 d k 0 P (Nat.zero_add d) ⟨rfl, fun u v _ _ _ _ => by rw [if_neg (by omega)]⟩
  refine ⟨L, ?_, r2⟩
  have hx0 := h.hx0
  have hx1 := h.hx1
  have hy0 := h.hy0
  have hy1 := h.hy1
  have hW := h.hW
  have hH := h.hH
  have hw' := h.hw'
  unfold plane_Blit.f
  rw [pvalid_spec K W H m P (by omega) (by omega), Option.bind_some, decide_eq_true hV, if_pos rfl, pvalid_spec K (w : Int) (d : Int) q Q (by omega) (by omega), Option.bind_some, decide_eq_true hQ, if_pos rfl, if_neg (show ¬ x < 0 by omega), if_neg (show ¬ y < 0 by omega), wrap_in (n := W - (w : Int)) (by omega) (by omega), if_neg (show ¬ x > W - (w : Int) by omega), wrap_in (n := H - (d : Int)) (by omega) (by omega), decide_eq_false (show ¬ y > H - (d : Int) by omega), show K = (K - 1) + 1 by omega, plane_Blit.j0, if_neg Bool.false_ne_true, g1, Option.bind_some, if_neg (show ¬ v > m by omega)]
  unfold slices_Clone_int_int.f
  rw [Option.bind_some, if_pos (show ([] : List Int).length + P.length < 17592186044416 by rw [List.length_nil]; omega), Option.bind_some, List.nil_append, hk]
  exact r1

/-! Sums of pixels: of a row, of rows, from a corner. -/
def RS (W : Int) (P : List Int) (x0 y : Int) : Nat → Int
  | 0 => 0
  | i + 1 => RS W P x0 y i + rd P (y * W + x0 + (i : Int))
def AR (W : Int) (P : List Int) (x0 y0 : Int) (i : Nat) : Nat → Int
  | 0 => 0
  | k + 1 => AR W P x0 y0 i k + RS W P x0 (y0 + (k : Int)) i

theorem rd_bd {P : List Int} {M : Int} (hM : 0 ≤ M) (h : ∀ v ∈ P, 0 ≤ v ∧ v ≤ M) (j : Int) : 0 ≤ rd P j ∧ rd P j ≤ M := by
  simp only [rd, List.getD_eq_getElem?_getD]
  cases e : P[j.toNat]? with
  | none => exact ⟨Int.le_refl 0, hM⟩
  | some v => exact h v (List.mem_of_getElem? e)

theorem mul_succ_i (B : Int) (k : Nat) : B * ((k + 1 : Nat) : Int) = B * (k : Int) + B := by rw [Int.natCast_succ, Int.mul_add, Int.mul_one]

theorem RS_bd {W : Int} {P : List Int} {M : Int} (hP : ∀ j, 0 ≤ rd P j ∧ rd P j ≤ M) (x0 y : Int) : ∀ i : Nat, 0 ≤ RS W P x0 y i ∧ RS W P x0 y i ≤ M * (i : Int)
  | 0 => by simp [RS]
  | i + 1 => by
    have h1 := RS_bd (W := W) hP x0 y i
    have h2 := hP (y * W + x0 + (i : Int))
    rw [RS, mul_succ_i]
    omega

theorem AR_bd {W : Int} {P : List Int} {M : Int} (hP : ∀ j, 0 ≤ rd P j ∧ rd P j ≤ M) (x0 y0 : Int) (i : Nat) : ∀ k : Nat, 0 ≤ AR W P x0 y0 i k ∧ AR W P x0 y0 i k ≤ M * (i : Int) * (k : Int)
  | 0 => by simp [AR]
  | k + 1 => by
    have h1 := AR_bd (W := W) hP x0 y0 i k
    have h2 := RS_bd (W := W) hP x0 (y0 + (k : Int)) i
    rw [AR, mul_succ_i]
    omega

theorem AR_small {W : Int} {P : List Int} {M : Int} (hP : ∀ j, 0 ≤ rd P j ∧ rd P j ≤ M) (hM : 0 ≤ M) (hM' : M ≤ 65535) (x0 y0 : Int) {i k : Nat} (hi : i ≤ 6) (hk : k ≤ 5) : 0 ≤ AR W P x0 y0 i k ∧ AR W P x0 y0 i k ≤ 1966050 := by
  obtain ⟨h0, h1⟩ := AR_bd (W := W) hP x0 y0 i k
  obtain ⟨a0, a1⟩ := mul_bd (x := M) (y := (i : Int)) (B := 65535) (C := 6) hM (by omega) hM' (by omega)
  obtain ⟨b0, b1⟩ := mul_bd (x := M * (i : Int)) (y := (k : Int)) (B := 65535 * 6) (C := 5) a0 (by omega) a1 (by omega)
  exact ⟨h0, by omega⟩

/-! integral.most, Check, check on small planes. -/
theorem mul_ok {a b c : Int} (ha : 1 ≤ a) (hb : 1 ≤ b) (ha' : a ≤ 4294967296) (hab : a * b ≤ c) (hc : c ≤ 4294967296) (hb' : b ≤ 4294967296) : extent_Mul.f a b c = some (a * b, true) := by
  have h0 : 0 ≤ a * b := Int.mul_nonneg (by omega) (by omega)
  have hq : 0 ≤ c / a := Int.ediv_nonneg (by omega) (by omega)
  have hq' : c / a ≤ c := Int.ediv_le_self a (by omega)
  have hle : b ≤ c / a := (Int.le_ediv_iff_mul_le (by omega)).2 (by rw [Int.mul_comm]; exact hab)
  unfold extent_Mul.f
  rw [if_neg (show ¬ a < 0 by omega), if_neg (show ¬ b < 0 by omega), if_neg (show ¬ c < 0 by omega), if_neg (show ¬ a = 0 by omega), Int.tdiv_eq_ediv_of_nonneg (show 0 ≤ c by omega), wrap_in (n := c / a) (by omega) (by omega), if_neg (show ¬ b > c / a by omega), wrap_in (n := a * b) (by omega) (by omega)]

theorem most_ok (k : Nat) {W H M : Int} (hW : 1 ≤ W) (hW' : W ≤ 128) (hH : 1 ≤ H) (hH' : H ≤ 128) (hM : 1 ≤ M) (hM' : M ≤ 65535) : integral_most.f (k + 1) W H M = some (W * H * M, true) := by
  obtain ⟨a0, a1⟩ := mul_bd (x := W) (y := H) (B := 128) (C := 128) (by omega) (by omega) hW' hH'
  obtain ⟨b0, b1⟩ := mul_bd (x := W * H) (y := M) (B := 16384) (C := 65535) a0 (by omega) a1 hM'
  have h1 : 1 * 1 ≤ W * H := Int.mul_le_mul hW hH (by decide) (by omega)
  unfold integral_most.f
  rw [if_neg (show ¬ W < 1 by omega), if_neg (show ¬ H < 1 by omega), decide_eq_false (show ¬ M < 1 by omega), integral_most.j0, if_neg Bool.false_ne_true, mul_ok hW hH (by omega) (by omega) (by decide) (by omega), Option.bind_some, if_pos rfl,
    mul_ok (show 1 ≤ W * H by omega) hM (by omega) (by omega) (by decide) (by omega), Option.bind_some]

theorem check_ok (k : Nat) {W H M : Int} {P : List Int} (hp : PV W H M P) (hM' : M ≤ 65535) (hl : P.length ≤ 100000) (hk : P.length + 1 < k) : integral_check.f k W H M P = some 0 := by
  obtain ⟨k, rfl⟩ : ∃ n, k = n + 1 := ⟨k - 1, by omega⟩
  unfold integral_check.f integral_shape.f integral_Check.f
  rw [pvalid_spec (k + 1) W H M P (by omega) hk, decide_eq_true hp, Option.bind_some, if_pos rfl, Option.bind_some]
  show ((integral_most.f (k + 1) W H M).bind fun bt => (if bt.2 = true then (some 0) else (some 11))).bind (fun t => some t) = some 0
  rw [most_ok k hp.1.1 hp.1.2.1 hp.1.2.2.1 hp.1.2.2.2.1 hp.1.2.2.2.2.2.1 hM']
  rfl

theorem in_loop (L : Int) (l : List Int) (hl : l.length ≤ 4611686018427387904) : ∀ (d k i : Nat), i + d = l.length → d < k →
    integral_Tile_1.l0 k l (l.length : Int) (i : Int) L = some (decide (∀ v ∈ l.drop i, 0 ≤ v ∧ v ≤ L))
  | 0, k, i, hi, hk => by
    obtain ⟨k, rfl⟩ : ∃ n, k = n + 1 := ⟨k - 1, by omega⟩
    rw [integral_Tile_1.l0, if_neg (show ¬ (i : Int) < (l.length : Int) by omega), List.drop_eq_nil_of_le (by omega)]
    simp
  | d + 1, k, i, hi, hk => by
    obtain ⟨k, rfl⟩ : ∃ n, k = n + 1 := ⟨k - 1, by omega⟩
    rw [integral_Tile_1.l0, rd_drop l i (by omega)]
    simp only [if_pos (show (i : Int) < (l.length : Int) by omega), if_pos (show 0 ≤ (i : Int) by omega), List.mem_cons, forall_eq_or_imp]
    rw [wrap_in (n := (i : Int) + 1) (by omega) (by omega), show ((i : Int) + 1) = ((i + 1 : Nat) : Int) from rfl, in_loop L l hl d k (i + 1) (by omega) (by omega)]
    by_cases c1 : rd l (i : Int) < 0
    · rw [if_pos c1]
      exact sd_false (fun h => by omega)
    · rw [if_neg c1]
      by_cases c2 : rd l (i : Int) > L
      · rw [if_pos c2]
        exact sd_false (fun h => by omega)
      · rw [if_neg c2]
        exact sd_iff ⟨fun h => ⟨by omega, h⟩, fun h => h.2⟩

theorem in_spec (k : Nat) (l : List Int) (L : Int) (hl : l.length ≤ 4611686018427387904) (hk : l.length < k) : integral_Tile_1.f k l L = some (decide (∀ v ∈ l, 0 ≤ v ∧ v ≤ L)) := by
  unfold integral_Tile_1.f
  have h := in_loop L l hl l.length k 0 (Nat.zero_add _) hk
  rw [List.drop_zero] at h
  exact h

/-! integral.Tile on small planes. -/
theorem rd_setn {o : List Int} {i b : Nat} {x : Int} (hi : i < o.length) : rd (o.set (i : Int).toNat x) (b : Int) = if i = b then x else rd o (b : Int) := by
  simp only [rd, Int.toNat_natCast, List.getD_eq_getElem?_getD, List.getElem?_set]
  by_cases h : i = b
  · rw [if_pos h, if_pos h, if_pos hi]; rfl
  · rw [if_neg h, if_neg h]

def tg (left top : List Int) (c W : Int) (P : List Int) (x0 y0 x y : Int) : Int := rd left y + rd top x - c + AR W P x0 y0 (x.toNat + 1) (y.toNat + 1)

theorem tidx {y0 W x0 : Int} {kk i : Nat} (hy : 0 ≤ y0) (hy' : y0 ≤ 5) (hx : 0 ≤ x0) (hx' : x0 ≤ 6) (hW : 1 ≤ W) (hW' : W ≤ 6) (hk : kk ≤ 5) (hi : i ≤ 6) :
    wrap64 ((wrap64 ((wrap64 ((wrap64 (y0 + (kk : Int))) * W)) + x0)) + (i : Int)) = (y0 + (kk : Int)) * W + x0 + (i : Int) := by
  obtain ⟨a0, a1⟩ := mul_bd (x := y0 + (kk : Int)) (y := W) (B := 10) (C := 6) (by omega) (by omega) (by omega) hW'
  rw [wrap_in (n := y0 + (kk : Int)) (by omega) (by omega), wrap_in (n := (y0 + (kk : Int)) * W) (by omega) (by omega), wrap_in (n := (y0 + (kk : Int)) * W + x0) (by omega) (by omega), wrap_in (by omega) (by omega)]

theorem wsum4 {a b c d : Int} (ha : 0 ≤ a ∧ a ≤ 2000000) (hb : 0 ≤ b ∧ b ≤ 2000000) (hc : 0 ≤ c ∧ c ≤ 2000000) (hd : 0 ≤ d ∧ d ≤ 2000000) : wrap64 ((wrap64 ((wrap64 (a + b)) - c)) + d) = a + b - c + d := by
  rw [wrap_in (n := a + b) (by omega) (by omega), wrap_in (n := a + b - c) (by omega) (by omega), wrap_in (by omega) (by omega)]

theorem t1 (K : Nat) {W H M L c x0 y0 x1 y1 : Int} {P left top : List Int} {n h kk : Nat} (hn : top.length = n) (hh : left.length = h) (hkk : kk < h) (hh5 : h ≤ 5) (hn6 : n ≤ 6)
    (hin : ∀ i : Nat, i < n → 0 ≤ (y0 + (kk : Int)) * W + x0 + (i : Int) ∧ (y0 + (kk : Int)) * W + x0 + (i : Int) < (P.length : Int)) (hy : 0 ≤ y0) (hy' : y0 ≤ 5) (hx : 0 ≤ x0) (hx' : x0 ≤ 6) (hW : 1 ≤ W) (hW' : W ≤ 6)
    (hPv : ∀ j, 0 ≤ rd P j ∧ rd P j ≤ M) (hM : 0 ≤ M) (hM' : M ≤ 65535) (hl : ∀ j, 0 ≤ rd left j ∧ rd left j ≤ 2000000) (ht : ∀ j, 0 ≤ rd top j ∧ rd top j ≤ 2000000) (hc : 0 ≤ c ∧ c ≤ 2000000) (q0 q1 q2 : Int) :
    ∀ (d i : Nat) (above pix : List Int), i + d = n → above.length = n → (∀ j : Nat, j < n → rd above (j : Int) = AR W P x0 y0 (j + 1) (if j < i then kk + 1 else kk)) → pix.length + d ≤ 1000 →
    ∃ above', above'.length = n ∧ (∀ j : Nat, j < n → rd above' (j : Int) = AR W P x0 y0 (j + 1) (kk + 1)) ∧
      integral_Tile.l1 (K + d + 1) left top c above (kk : Int) (RS W P x0 (y0 + (kk : Int)) i) (h : Int) (kk : Int) (n : Int) (i : Int) W H M P x0 y0 x1 y1 L q0 q1 q2 pix =
        integral_Tile.l0 K left top c above' (h : Int) ((kk + 1 : Nat) : Int) W H M P x0 y0 x1 y1 L q0 q1 q2 (pix ++ rowg (tg left top c W P x0 y0) (kk : Int) d (i : Int))
  | 0, i, above, pix, hi, ha, hr, hp => by
    have hin' : i = n := hi
    refine ⟨above, ha, fun j hj => by rw [hr j hj, if_pos (by omega)], ?_⟩
    rw [hin', integral_Tile.l1, if_neg (Int.lt_irrefl _), wrap_in (n := (kk : Int) + 1) (by omega) (by omega)]
    simp only [rowg, List.append_nil]
    rfl
  | d + 1, i, above, pix, hi, ha, hr, hp => by
    have hi' : i < n := by omega
    obtain ⟨g0, g1⟩ := hin i hi'
    have hb := AR_small (W := W) hPv hM hM' x0 y0 (i := i + 1) (k := kk + 1) (by omega) (by omega)
    have hb0 := AR_small (W := W) hPv hM hM' x0 y0 (i := i + 1) (k := kk) (by omega) (by omega)
    have hrs := RS_bd (W := W) hPv x0 (y0 + (kk : Int)) (i + 1)
    have hrs2 : M * ((i + 1 : Nat) : Int) ≤ 65535 * 6 := (mul_bd hM (by omega) hM' (by omega)).2
    have hav := hr i hi'
    rw [if_neg (Nat.lt_irrefl i)] at hav
    have e1 : wrap64 (RS W P x0 (y0 + (kk : Int)) i + rd P ((y0 + (kk : Int)) * W + x0 + (i : Int))) = RS W P x0 (y0 + (kk : Int)) (i + 1) := by
      rw [show RS W P x0 (y0 + (kk : Int)) i + rd P ((y0 + (kk : Int)) * W + x0 + (i : Int)) = RS W P x0 (y0 + (kk : Int)) (i + 1) from rfl]
      exact wrap_in (by omega) (by omega)
    have e2 : wrap64 (rd above (i : Int) + RS W P x0 (y0 + (kk : Int)) (i + 1)) = AR W P x0 y0 (i + 1) (kk + 1) := by
      rw [hav, show AR W P x0 y0 (i + 1) kk + RS W P x0 (y0 + (kk : Int)) (i + 1) = AR W P x0 y0 (i + 1) (kk + 1) from rfl]
      exact wrap_in (by omega) (by omega)
    have e3 : wrap64 ((wrap64 ((wrap64 (rd left (kk : Int) + rd top (i : Int))) - c)) + AR W P x0 y0 (i + 1) (kk + 1)) = tg left top c W P x0 y0 (i : Int) (kk : Int) := wsum4 (hl _) (ht _) hc ⟨hb.1, by omega⟩
    obtain ⟨above', h1, h2, h3⟩ := t1 K (x1 := x1) (y1 := y1) (H := H) (L := L) hn hh hkk hh5 hn6 hin hy hy' hx hx' hW hW' hPv hM hM' hl ht hc q0 q1 q2 d (i + 1) (above.set (i : Int).toNat (AR W P x0 y0 (i + 1) (kk + 1))) (pix ++ [tg left top c W P x0 y0 (i : Int) (kk : Int)])
      (by omega) (by rw [List.length_set]; exact ha) (fun j hj => by
        rw [rd_setn (by omega)]
        by_cases hij : i = j
        · rw [if_pos hij, ← hij, if_pos (by omega)]
        · rw [if_neg hij, hr j hj]
          by_cases hji : j < i
          · rw [if_pos hji, if_pos (by omega)]
          · rw [if_neg hji, if_neg (by omega)]) (by rw [List.length_append, List.length_singleton]; omega)
    refine ⟨above', h1, h2, ?_⟩
    rw [show K + (d + 1) + 1 = (K + d + 1) + 1 from rfl, integral_Tile.l1, if_pos (Int.ofNat_lt.2 hi'), tidx hy hy' hx hx' hW hW' (by omega) (by omega), if_pos g0, if_pos g1, if_pos (Int.natCast_nonneg i), if_pos (show (i : Int) < (above.length : Int) by omega), e1, e2, Option.bind_some,
      if_pos (Int.natCast_nonneg kk), if_pos (show (kk : Int) < (left.length : Int) by omega), if_pos (show (i : Int) < (top.length : Int) by omega), if_pos (show pix.length < 17592186044416 by omega), rd_setn (show i < above.length by omega), if_pos rfl, e3, wrap_in (n := (i : Int) + 1) (by omega) (by omega)]
    refine Eq.trans h3 ?_
    rw [List.append_assoc]
    rfl

theorem t0 {W H M L c x0 y0 x1 y1 : Int} {P left top : List Int} {n h : Nat} (hn : top.length = n) (hh : left.length = h) (hh5 : h ≤ 5) (hn6 : n ≤ 6)
    (hin : ∀ k i : Nat, k < h → i < n → 0 ≤ (y0 + (k : Int)) * W + x0 + (i : Int) ∧ (y0 + (k : Int)) * W + x0 + (i : Int) < (P.length : Int)) (hy : 0 ≤ y0) (hy' : y0 ≤ 5) (hx : 0 ≤ x0) (hx' : x0 ≤ 6) (hW : 1 ≤ W) (hW' : W ≤ 6)
    (hPv : ∀ j, 0 ≤ rd P j ∧ rd P j ≤ M) (hM : 0 ≤ M) (hM' : M ≤ 65535) (hl : ∀ j, 0 ≤ rd left j ∧ rd left j ≤ 2000000) (ht : ∀ j, 0 ≤ rd top j ∧ rd top j ≤ 2000000) (hc : 0 ≤ c ∧ c ≤ 2000000) (q1 q2 : Int) :
    ∀ (d K kk : Nat) (above pix : List Int), kk + d = h → above.length = n → (∀ j : Nat, j < n → rd above (j : Int) = AR W P x0 y0 (j + 1) kk) → pix.length + d * n ≤ 500 → 501 ≤ K →
      integral_Tile.l0 (K + d * (n + 2) + 1) left top c above (h : Int) (kk : Int) W H M P x0 y0 x1 y1 L (n : Int) q1 q2 pix =
        if ∀ v ∈ pix ++ rowsg (tg left top c W P x0 y0) 0 n d (kk : Int), 0 ≤ v ∧ v ≤ L then some ((n : Int), q1, q2, pix ++ rowsg (tg left top c W P x0 y0) 0 n d (kk : Int), 0) else some (0, 0, 0, ([] : List Int), 2)
  | 0, K, kk, above, pix, hk, ha, hr, hp, hK => by
    have hkk : kk = h := hk
    rw [hkk, Nat.zero_mul, Nat.add_zero, integral_Tile.l0, if_neg (Int.lt_irrefl _)]
    simp only [rowsg, List.append_nil]
    rw [in_spec K pix L (by omega) (by omega), Option.bind_some]
    by_cases g : ∀ v ∈ pix, 0 ≤ v ∧ v ≤ L
    · rw [decide_eq_true g, if_pos rfl, if_pos g]
    · rw [decide_eq_false g, if_neg Bool.false_ne_true, if_neg g]
  | d + 1, K, kk, above, pix, hk, ha, hr, hp, hK => by
    have hd : (d + 1) * n = d * n + n := Nat.succ_mul d n
    obtain ⟨above', h1, h2, h3⟩ := t1 (K + d * (n + 2) + 1) (x1 := x1) (y1 := y1) (H := H) (L := L) hn hh (show kk < h by omega) hh5 hn6 (hin kk · (by omega)) hy hy' hx hx' hW hW' hPv hM hM' hl ht hc (n : Int) q1 q2 n 0 above pix (Nat.zero_add n) ha (fun j hj => by rw [hr j hj, if_neg (Nat.not_lt_zero j)]) (by omega)
    have ih := t0 (x1 := x1) (y1 := y1) (H := H) (L := L) hn hh hh5 hn6 hin hy hy' hx hx' hW hW' hPv hM hM' hl ht hc q1 q2 d K (kk + 1) above' (pix ++ rowg (tg left top c W P x0 y0) (kk : Int) n 0) (by omega) h1 h2 (by rw [List.length_append, rowg_len]; omega) hK
    rw [show K + (d + 1) * (n + 2) + 1 = (K + d * (n + 2) + 1 + n + 1) + 1 by rw [Nat.succ_mul]; omega, integral_Tile.l0, if_pos (show (kk : Int) < (h : Int) by omega)]
    refine Eq.trans h3 (Eq.trans ih ?_)
    rw [List.append_assoc]
    rfl

theorem row_idx {W H x0 y0 x1 y1 : Int} {L : Nat} (hL : (L : Int) = W * H) (hW : 1 ≤ W) (hi : IN W H x0 y0 x1 y1) {k i : Nat} (hk : (k : Int) < y1 - y0) (hx : (i : Int) < x1 - x0) : 0 ≤ (y0 + (k : Int)) * W + x0 + (i : Int) ∧ (y0 + (k : Int)) * W + x0 + (i : Int) < (L : Int) := by
  obtain ⟨a0, a1⟩ := row_in (y := y0 + (k : Int)) (W := W) (H := H) (by omega) (by omega) (by omega)
  rw [hL]
  omega

/-- integral.Tile: behind the checks. -/
theorem tile_go (K : Nat) (hK : 2000 ≤ K) {W H M c x0 y0 x1 y1 : Int} {P left top : List Int} (hp : PV W H M P) (hW' : W ≤ 6) (hH' : H ≤ 5) (hM' : M ≤ 65535) (hi : IN W H x0 y0 x1 y1) (hl : (left.length : Int) = y1 - y0) (ht : (top.length : Int) = x1 - x0) :
    integral_Tile.f K W H M P x0 y0 x1 y1 left top c = if (0 ≤ c ∧ c ≤ W * H * M) ∧ (∀ v ∈ left, 0 ≤ v ∧ v ≤ W * H * M) ∧ (∀ v ∈ top, 0 ≤ v ∧ v ≤ W * H * M) then
      (if ∀ v ∈ rowsg (tg left top c W P x0 y0) 0 top.length left.length 0, 0 ≤ v ∧ v ≤ W * H * M then some ((top.length : Int), (left.length : Int), W * H * M, rowsg (tg left top c W P x0 y0) 0 top.length left.length 0, 0) else some (0, 0, 0, ([] : List Int), 2))
      else some (0, 0, 0, ([] : List Int), 2) := by
  have hS := hp.1
  have hPl : P.length ≤ 30 := by
    have := (mul_bd (x := W) (y := H) (B := 6) (C := 5) (by omega) (by omega) hW' hH').2
    have := hp.2.1
    omega
  obtain ⟨a0, a1⟩ := mul_bd (x := W) (y := H) (B := 6) (C := 5) (by omega) (by omega) hW' hH'
  obtain ⟨b0, b1⟩ := mul_bd (x := W * H) (y := M) (B := 30) (C := 65535) a0 (by omega) a1 hM'
  have hne : ¬ (x0 = 0 ∧ y0 = 0 ∧ x1 = 0 ∧ y1 = 0) := by omega
  obtain ⟨k, rfl⟩ : ∃ n, K = n + 1 + 1 + 1 + 1 := ⟨K - 4, by omega⟩
  unfold integral_Tile.f
  rw [check_ok _ hp hM' (by omega) (by omega), Option.bind_some, if_pos rfl, empty_eq, Option.bind_some, decide_eq_false hne, if_neg Bool.false_ne_true, inside_p _ hS.1 hS.2.1 hS.2.2.1 hS.2.2.2.1 hne, Option.bind_some, decide_eq_true hi, if_pos rfl,
    wrap_in (n := y1 - y0) (by omega) (by omega), if_pos hl, wrap_in (n := x1 - x0) (by omega) (by omega), bne_eq_false_iff_eq.2 ht, integral_Tile.j0, if_neg Bool.false_ne_true]
  unfold integral_shape.f
  rw [Option.bind_some]
  show ((integral_most.f (k + 1 + 1 + 1) W H M).bind _) = _
  rw [most_ok _ hS.1 hS.2.1 hS.2.2.1 hS.2.2.2.1 hS.2.2.2.2.2.1 hM', Option.bind_some, in_spec _ _ _ (by simp) (by simp only [List.length_singleton]; omega), Option.bind_some]
  simp only [List.mem_singleton, forall_eq]
  by_cases c1 : 0 ≤ c ∧ c ≤ W * H * M
  · rw [decide_eq_true c1, if_pos rfl, in_spec _ left _ (by omega) (by omega), Option.bind_some]
    by_cases c2 : ∀ v ∈ left, 0 ≤ v ∧ v ≤ W * H * M
    · rw [decide_eq_true c2, if_pos rfl, in_spec _ top _ (by omega) (by omega), Option.bind_some]
      by_cases c3 : ∀ v ∈ top, 0 ≤ v ∧ v ≤ W * H * M
      · have hn : top.length * left.length ≤ 6 * 5 := Nat.mul_le_mul (by omega) (by omega)
        have hn2 : left.length * (top.length + 2) ≤ 5 * 8 := Nat.mul_le_mul (by omega) (by omega)
        rw [decide_eq_true c3, integral_Tile.j1, if_neg (show ¬ (!true) = true by decide), if_pos (Int.natCast_nonneg _), if_pos (show ((top.length : Int) : Int).toNat ≤ 35184372088832 by omega), if_pos ⟨c1, c2, c3⟩, Int.toNat_natCast,
          show k + 1 + 1 = (k + 1 - left.length * (top.length + 2)) + left.length * (top.length + 2) + 1 by omega]
        refine (t0 (x1 := x1) (y1 := y1) (H := H) (L := W * H * M) rfl rfl (by omega) (by omega) (fun k i hk hx => row_idx hp.2.1 hS.1 hi (by omega) (by omega)) (by omega) (by omega) (by omega) (by omega) hS.1 hW' (rd_bd (by omega) hp.2.2) (by omega) hM'
          (fun j => by have := rd_bd b0 c2 j; omega) (fun j => by have := rd_bd b0 c3 j; omega) (by omega) (left.length : Int) (W * H * M) left.length _ 0 (List.replicate top.length 0) [] (Nat.zero_add _) List.length_replicate (fun j hj => ?_) (by rw [List.length_nil, Nat.mul_comm]; omega) (by omega)).trans ?_
        · simp only [rd, Int.toNat_natCast, List.getD_eq_getElem?_getD, List.getElem?_replicate, if_pos hj]
          rfl
        · rw [List.nil_append]; rfl
      · rw [decide_eq_false c3, integral_Tile.j1, if_pos (show (!false) = true by decide), if_neg (fun h => c3 h.2.2)]
    · rw [decide_eq_false c2, if_neg Bool.false_ne_true, integral_Tile.j1, if_pos rfl, if_neg (fun h => c2 h.2.1)]
  · rw [decide_eq_false c1, if_neg Bool.false_ne_true, integral_Tile.j1, if_pos rfl, if_neg (fun h => c1 h.1)]

/-! The integral plane, and sums out of it. -/
theorem rowg_mem {g : Int → Int → Int} {y v : Int} : ∀ (d : Nat) (x : Int), v ∈ rowg g y d x → ∃ i : Nat, i < d ∧ v = g (x + (i : Int)) y
  | 0, x, h => by simp [rowg] at h
  | d + 1, x, h => by
    simp only [rowg, List.mem_cons] at h
    rcases h with h | h
    · exact ⟨0, by omega, by rw [h]; simp⟩
    · obtain ⟨i, h1, h2⟩ := rowg_mem d (x + 1) h
      exact ⟨i + 1, by omega, by rw [h2, show x + 1 + (i : Int) = x + ((i + 1 : Nat) : Int) by omega]⟩

theorem rowsg_mem {g : Int → Int → Int} {x0 v : Int} {w : Nat} : ∀ (d : Nat) (y : Int), v ∈ rowsg g x0 w d y → ∃ i j : Nat, i < w ∧ j < d ∧ v = g (x0 + (i : Int)) (y + (j : Int))
  | 0, y, h => by simp [rowsg] at h
  | d + 1, y, h => by
    simp only [rowsg, List.mem_append] at h
    rcases h with h | h
    · obtain ⟨i, h1, h2⟩ := rowg_mem w x0 h
      exact ⟨i, 0, h1, by omega, by rw [h2]; simp⟩
    · obtain ⟨i, j, h1, h2, h3⟩ := rowsg_mem d (y + 1) h
      exact ⟨i, j + 1, h1, by omega, by rw [h3, show y + 1 + (j : Int) = y + ((j + 1 : Nat) : Int) by omega]⟩

theorem rd_zeros (n : Nat) (j : Int) : rd (List.replicate n 0) j = 0 := by
  simp only [rd, List.getD_eq_getElem?_getD, List.getElem?_replicate]
  by_cases h : j.toNat < n
  · rw [if_pos h]; rfl
  · rw [if_neg h]; rfl

theorem AR_zero (W : Int) (P : List Int) (x0 y0 : Int) : ∀ k : Nat, AR W P x0 y0 0 k = 0
  | 0 => rfl
  | k + 1 => by rw [AR, AR_zero W P x0 y0 k]; rfl

abbrev IP (W H : Int) (P : List Int) : List Int := rowsg (fun x y => AR W P 0 0 (x.toNat + 1) (y.toNat + 1)) 0 W.toNat H.toNat 0

theorem AR_le {W H M : Int} {P : List Int} (hp : PV W H M P) (x0 y0 : Int) {i k : Nat} (hi : (i : Int) ≤ W) (hk : (k : Int) ≤ H) : 0 ≤ AR W P x0 y0 i k ∧ AR W P x0 y0 i k ≤ W * H * M := by
  obtain ⟨h0, h1⟩ := AR_bd (W := W) (rd_bd (M := M) (by omega) hp.2.2) x0 y0 i k
  obtain ⟨a0, a1⟩ := mul_bd (x := M) (y := (i : Int)) (B := M) (C := W) (by omega) (by omega) (Int.le_refl _) hi
  obtain ⟨b0, b1⟩ := mul_bd (x := M * (i : Int)) (y := (k : Int)) (B := M * W) (C := H) a0 (by omega) a1 hk
  refine ⟨h0, ?_⟩
  rw [show W * H * M = M * W * H by rw [Int.mul_comm (W * H) M, Int.mul_assoc]]
  omega

theorem IP_len {W H : Int} (hW : 1 ≤ W) (hH : 1 ≤ H) (P : List Int) : ((IP W H P).length : Int) = W * H := by
  rw [rowsg_len, Int.natCast_mul, Int.toNat_of_nonneg (by omega), Int.toNat_of_nonneg (by omega), Int.mul_comm]

theorem IP_all {W H M : Int} {P : List Int} (hp : PV W H M P) : ∀ v ∈ IP W H P, 0 ≤ v ∧ v ≤ W * H * M := by
  intro v hv
  obtain ⟨i, j, h1, h2, h3⟩ := rowsg_mem _ _ hv
  rw [h3]
  simp only [Int.zero_add, Int.toNat_natCast]
  exact AR_le hp 0 0 (by omega) (by omega)

theorem small_whm {W H M : Int} {P : List Int} (hp : PV W H M P) (hW' : W ≤ 6) (hH' : H ≤ 5) (hM' : M ≤ 65535) : 1 ≤ W * H ∧ W * H ≤ 30 ∧ 1 ≤ W * H * M ∧ W * H * M ≤ 1966050 := by
  have hS := hp.1
  have h1 : 1 * 1 ≤ W * H := Int.mul_le_mul hS.1 hS.2.2.1 (by decide) (by omega)
  obtain ⟨a0, a1⟩ := mul_bd (x := W) (y := H) (B := 6) (C := 5) (by omega) (by omega) hW' hH'
  obtain ⟨b0, b1⟩ := mul_bd (x := W * H) (y := M) (B := 30) (C := 65535) a0 (by omega) a1 hM'
  have h2 : 1 * 1 ≤ W * H * M := Int.mul_le_mul (by omega) hS.2.2.2.2.2.1 (by decide) (by omega)
  omega

theorem whole_ok (K : Nat) (hK : 2000 ≤ K) {W H M : Int} {P : List Int} (hp : PV W H M P) (hW' : W ≤ 6) (hH' : H ≤ 5) (hM' : M ≤ 65535) : integral_Whole.f K W H M P = some (W, H, W * H * M, IP W H P, 0) := by
  have hS := hp.1
  obtain ⟨s1, s2, s3, s4⟩ := small_whm hp hW' hH' hM'
  have hPl : P.length ≤ 30 := by have := hp.2.1; omega
  unfold integral_Whole.f
  rw [check_ok _ hp hM' (by omega) (by omega), Option.bind_some, if_pos rfl, if_pos (show 0 ≤ H by omega), if_pos (show H.toNat ≤ 35184372088832 by omega), if_pos (show 0 ≤ W by omega), if_pos (show W.toNat ≤ 35184372088832 by omega),
    tile_go K hK (left := List.replicate H.toNat 0) (top := List.replicate W.toNat 0) hp hW' hH' hM' (x0 := 0) (y0 := 0) (x1 := W) (y1 := H) ⟨by omega, by omega, by omega, by omega, by omega, by omega⟩ (by rw [List.length_replicate]; omega) (by rw [List.length_replicate]; omega),
    if_pos ⟨⟨Int.le_refl 0, by omega⟩, fun v hv => by rw [(List.mem_replicate.1 hv).2]; omega, fun v hv => by rw [(List.mem_replicate.1 hv).2]; omega⟩]
  have e : rowsg (tg (List.replicate H.toNat 0) (List.replicate W.toNat 0) 0 W P 0 0) 0 (List.replicate W.toNat (0 : Int)).length (List.replicate H.toNat (0 : Int)).length 0 = IP W H P := by
    rw [List.length_replicate, List.length_replicate, show tg (List.replicate H.toNat 0) (List.replicate W.toNat 0) 0 W P 0 0 = (fun x y => AR W P 0 0 (x.toNat + 1) (y.toNat + 1)) from by
      funext x y
      rw [tg, rd_zeros, rd_zeros]
      omega]
  rw [e, if_pos (IP_all hp), List.length_replicate, List.length_replicate, Option.bind_some, Int.toNat_of_nonneg (by omega), Int.toNat_of_nonneg (by omega)]

theorem IP_PV {W H M : Int} {P : List Int} (hp : PV W H M P) (hW' : W ≤ 6) (hH' : H ≤ 5) (hM' : M ≤ 65535) : PV W H (W * H * M) (IP W H P) ∧ (IP W H P).length ≤ 30 := by
  obtain ⟨s1, s2, s3, s4⟩ := small_whm hp hW' hH' hM'
  have hl := IP_len hp.1.1 hp.1.2.2.1 P
  exact ⟨⟨⟨hp.1.1, hp.1.2.1, hp.1.2.2.1, hp.1.2.2.2.1, by omega, s3, by omega⟩, hl, IP_all hp⟩, by omega⟩

theorem IP_rd {W H : Int} (hW : 1 ≤ W) (hH : 1 ≤ H) (P : List Int) {x y : Int} (hx : 1 ≤ x) (hx' : x ≤ W) (hy : 1 ≤ y) (hy' : y ≤ H) : rd (IP W H P) ((y - 1) * W + x - 1) = AR W P 0 0 x.toNat y.toNat := by
  have h := rowsg_rd (fun x y => AR W P 0 0 (x.toNat + 1) (y.toNat + 1)) 0 W.toNat H.toNat 0 (y.toNat - 1) (x.toNat - 1) (by omega) (by omega)
  have e : (((y.toNat - 1) * W.toNat + (x.toNat - 1) : Nat) : Int) = (y - 1) * W + x - 1 := by
    rw [Int.natCast_add, Int.natCast_mul, Int.toNat_of_nonneg (show 0 ≤ W by omega), show ((y.toNat - 1 : Nat) : Int) = y - 1 by omega, show ((x.toNat - 1 : Nat) : Int) = x - 1 by omega]
    omega
  rw [e] at h
  rw [h]
  simp only [Int.zero_add, Int.toNat_natCast]
  rw [show x.toNat - 1 + 1 = x.toNat by omega, show y.toNat - 1 + 1 = y.toNat by omega]

theorem at_ok {W H : Int} (hW : 1 ≤ W) (hW' : W ≤ 6) (hH : 1 ≤ H) (hH' : H ≤ 5) (P : List Int) (M : Int) {x y : Int} (hx : 0 ≤ x) (hx' : x ≤ W) (hy : 0 ≤ y) (hy' : y ≤ H) : integral_Sum_1.f x y W H M (IP W H P) = some (AR W P 0 0 x.toNat y.toNat) := by
  unfold integral_Sum_1.f
  by_cases c1 : x = 0
  · rw [if_pos c1, c1, show (0 : Int).toNat = 0 from rfl, AR_zero]
  rw [if_neg c1]
  by_cases c2 : y = 0
  · rw [if_pos c2, c2]; rfl
  rw [if_neg c2]
  obtain ⟨a0, a1⟩ := row_in (y := y - 1) (W := W) (H := H) (by omega) (by omega) (by omega)
  have a2 := (mul_bd (x := W) (y := H) (B := 6) (C := 5) (by omega) (by omega) hW' hH').2
  rw [wrap_in (n := y - 1) (by omega) (by omega), wrap_in (n := (y - 1) * W) (by omega) (by omega), wrap_in (n := (y - 1) * W + x) (by omega) (by omega), wrap_in (n := (y - 1) * W + x - 1) (by omega) (by omega), if_pos (show 0 ≤ (y - 1) * W + x - 1 by omega),
    if_pos (show (y - 1) * W + x - 1 < ((IP W H P).length : Int) by rw [IP_len hW hH]; omega), IP_rd hW hH P (by omega) hx' (by omega) hy']

abbrev SM (W : Int) (P : List Int) (x0 y0 x1 y1 : Int) : Int := AR W P 0 0 x1.toNat y1.toNat - AR W P 0 0 x0.toNat y1.toNat - AR W P 0 0 x1.toNat y0.toNat + AR W P 0 0 x0.toNat y0.toNat

theorem sum_ok (K : Nat) (hK : 2000 ≤ K) {W H M : Int} {P : List Int} (hp : PV W H M P) (hW' : W ≤ 6) (hH' : H ≤ 5) (hM' : M ≤ 65535) {x0 y0 x1 y1 : Int} (hi : IN W H x0 y0 x1 y1) : integral_Sum.f K W H (W * H * M) (IP W H P) x0 y0 x1 y1 = some (SM W P x0 y0 x1 y1, 0) := by
  obtain ⟨hq, hql⟩ := IP_PV hp hW' hH' hM'
  obtain ⟨s1, s2, s3, s4⟩ := small_whm hp hW' hH' hM'
  have hS := hp.1
  have hne : ¬ (x0 = 0 ∧ y0 = 0 ∧ x1 = 0 ∧ y1 = 0) := by omega
  obtain ⟨k, rfl⟩ : ∃ n, K = n + 1 := ⟨K - 1, by omega⟩
  have b1 := AR_le hp 0 0 (i := x1.toNat) (k := y1.toNat) (by omega) (by omega)
  have b2 := AR_le hp 0 0 (i := x0.toNat) (k := y1.toNat) (by omega) (by omega)
  have b3 := AR_le hp 0 0 (i := x1.toNat) (k := y0.toNat) (by omega) (by omega)
  have b4 := AR_le hp 0 0 (i := x0.toNat) (k := y0.toNat) (by omega) (by omega)
  unfold integral_Sum.f
  rw [pvalid_spec (k + 1) W H _ (IP W H P) (by omega) (by omega), decide_eq_true hq, Option.bind_some, if_pos rfl, empty_eq, Option.bind_some, decide_eq_false hne, if_neg Bool.false_ne_true, inside_p _ hS.1 hS.2.1 hS.2.2.1 hS.2.2.2.1 hne, Option.bind_some, decide_eq_true hi,
    integral_Sum.j0, if_neg (show ¬ (!true) = true by decide), at_ok hS.1 hW' hS.2.2.1 hH' P _ (by omega) (by omega) (by omega) (by omega), Option.bind_some, at_ok hS.1 hW' hS.2.2.1 hH' P _ (by omega) (by omega) (by omega) (by omega), Option.bind_some,
    at_ok hS.1 hW' hS.2.2.1 hH' P _ (by omega) (by omega) (by omega) (by omega), Option.bind_some, at_ok hS.1 hW' hS.2.2.1 hH' P _ (by omega) (by omega) (by omega) (by omega), Option.bind_some]
  show _ = some (AR W P 0 0 x1.toNat y1.toNat - AR W P 0 0 x0.toNat y1.toNat - AR W P 0 0 x1.toNat y0.toNat + AR W P 0 0 x0.toNat y0.toNat, (0 : Int))
  generalize AR W P 0 0 x1.toNat y1.toNat = A at *
  generalize AR W P 0 0 x0.toNat y1.toNat = B at *
  generalize AR W P 0 0 x1.toNat y0.toNat = C at *
  generalize AR W P 0 0 x0.toNat y0.toNat = D at *
  rw [wrap_in (n := A - B) (by omega) (by omega), wrap_in (n := A - B - C) (by omega) (by omega), wrap_in (n := A - B - C + D) (by omega) (by omega)]

theorem same_loop (L : List Int) (hL : L.length ≤ 100000) (d : Nat) : ∀ (k i : Nat), i + d = L.length → d < k → tilefarmref4_Same.l0 k L L (i : Int) = some true := by
  induction d with
  | zero =>
    intro k i hi hk
    obtain ⟨k, rfl⟩ : ∃ m, k = m + 1 := ⟨k - 1, by omega⟩
    rw [tilefarmref4_Same.l0, if_neg (by omega)]
  | succ d ih =>
    intro k i hi hk
    obtain ⟨k, rfl⟩ : ∃ m, k = m + 1 := ⟨k - 1, by omega⟩
    rw [tilefarmref4_Same.l0, if_pos (by omega), if_pos (by omega), if_pos (by omega), if_pos rfl, wrap_in (n := (i : Int) + 1) (by omega) (by omega)]
    exact ih k (i + 1) (by omega) (by omega)

theorem same_eq (L : List Int) (hL : L.length ≤ 10000) (K : Nat) (hK : 20000 ≤ K) : tilefarmref4_Same.f K L L = some true := by
  unfold tilefarmref4_Same.f
  rw [if_pos rfl]
  exact same_loop L (by omega) L.length K 0 (by omega) (by omega)

theorem equal_eq (a b m : Int) (L : List Int) (hL : L.length ≤ 10000) (K : Nat) (hK : 20000 ≤ K) : tilefarmref4_Equal.f K a b m L a b m L = some true := by
  unfold tilefarmref4_Equal.f
  rw [if_pos rfl, if_pos rfl, if_pos rfl, same_eq L hL K hK]
  rfl


/-- a / b, rounded up. -/
def cd (a b : Int) : Int := if a % b > 0 then a / b + 1 else a / b

theorem cd_spec {a b : Int} (ha : 1 ≤ a) (hb : 1 ≤ b) : 1 ≤ cd a b ∧ cd a b ≤ a ∧ (cd a b - 1) * b < a ∧ a ≤ cd a b * b := by
  have e := Int.mul_ediv_add_emod a b
  have g1 := Int.emod_nonneg a (by omega : b ≠ 0)
  have g2 := Int.emod_lt_of_pos a (by omega : 0 < b)
  have g3 : 0 ≤ a / b := Int.ediv_nonneg (by omega) (by omega)
  have g4 : a / b * 1 ≤ a / b * b := Int.mul_le_mul_of_nonneg_left hb g3
  have c : b * (a / b) = a / b * b := Int.mul_comm ..
  unfold cd
  split
  · next h =>
    have e2 : (a / b + 1) * b = a / b * b + b := by rw [Int.add_mul, Int.one_mul]
    have e3 : (a / b + 1 - 1) * b = a / b * b := by rw [Int.add_sub_cancel]
    refine ⟨by omega, ?_, by omega, by omega⟩
    by_cases q : b = 1
    · subst q; omega
    · have : a / b * 2 ≤ a / b * b := Int.mul_le_mul_of_nonneg_left (by omega) g3
      omega
  · next h =>
    have e3 : (a / b - 1) * b = a / b * b - b := by rw [Int.sub_mul, Int.one_mul]
    refine ⟨?_, by omega, by omega, by omega⟩
    rcases Int.lt_or_le (a / b) 1 with q | q
    · have : a / b = 0 := by omega
      rw [this] at e; omega
    · exact q

theorem ceil_eq {k : Nat} (hk : 0 < k) {a b : Int} (ha : 1 ≤ a) (ha2 : a ≤ 128) (hb : 1 ≤ b) : extent_Ceil.f k a b = some (cd a b) := by
  obtain ⟨k, rfl⟩ : ∃ n, k = n + 1 := ⟨k - 1, by omega⟩
  have hs := cd_spec ha hb
  have h1 : 0 ≤ a / b := Int.ediv_nonneg (by omega) (by omega)
  have h2 : a / b ≤ a := Int.ediv_le_self b (by omega)
  unfold extent_Ceil.f cd
  rw [if_neg (by omega), decide_eq_false (by omega)]
  simp only [extent_Ceil.j0, if_neg Bool.false_ne_true]
  rw [if_neg (by omega), Int.tmod_eq_emod_of_nonneg (by omega), Int.tdiv_eq_ediv_of_nonneg (by omega), wrap_in (n := a / b) (by omega) (by omega), wrap_in (n := a / b + 1) (by omega) (by omega)]
  split <;> rfl

abbrev Fine (w h tw th : Int) : Prop := 1 ≤ w ∧ w ≤ 128 ∧ 1 ≤ h ∧ h ≤ 128 ∧ 1 ≤ tw ∧ tw ≤ 64 ∧ 1 ≤ th ∧ th ≤ 64

theorem between_eq (a b : Int) : grid_between.f a b = some (decide (1 ≤ a ∧ a ≤ b)) := by
  unfold grid_between.f
  split
  · exact sd_iff (by omega)
  · exact sd_false (by omega)

theorem count_eq {k : Nat} (hk : 1 < k) (w h tw th : Int) : grid_Count.f k w h tw th = some (if Fine w h tw th then (cd w tw, cd h th) else (0, 0)) := by
  obtain ⟨k, rfl⟩ : ∃ n, k = n + 1 := ⟨k - 1, by omega⟩
  have hj : grid_Count.j0 (k + 1) w h tw th true = some (0, 0) := by simp only [grid_Count.j0, if_true]
  unfold grid_Count.f
  simp only [between_eq, Option.bind_some, decide_eq_true_eq]
  by_cases h1 : 1 ≤ w ∧ w ≤ 128
  · rw [if_pos h1]
    by_cases h2 : 1 ≤ h ∧ h ≤ 128
    · rw [if_pos h2]
      by_cases h3 : 1 ≤ tw ∧ tw ≤ 64
      · rw [if_pos h3]
        by_cases h4 : 1 ≤ th ∧ th ≤ 64
        · rw [decide_eq_true h4, if_pos ⟨h1.1, h1.2, h2.1, h2.2, h3.1, h3.2, h4⟩]
          simp only [grid_Count.j0, Bool.not_true, if_neg Bool.false_ne_true]
          rw [ceil_eq (by omega) h1.1 h1.2 h3.1, ceil_eq (by omega) h2.1 h2.2 h4.1]
          rfl
        · rw [decide_eq_false h4, if_neg (fun h => h4 h.2.2.2.2.2.2)]
          exact hj
      · rw [if_neg h3, if_neg (fun h => h3 ⟨h.2.2.2.2.1, h.2.2.2.2.2.1⟩)]
        exact hj
    · rw [if_neg h2, if_neg (fun h => h2 ⟨h.2.2.1, h.2.2.2.1⟩)]
      exact hj
  · rw [if_neg h1, if_neg (fun h => h1 ⟨h.1, h.2.1⟩)]
    exact hj

/-- A quotient within the count. -/
theorem div_lt_cd {x a b : Int} (ha : 1 ≤ a) (hb : 1 ≤ b) (h0 : 0 ≤ x) (h : x < a) : 0 ≤ x / b ∧ x / b < cd a b := by
  have hs := cd_spec ha hb
  refine ⟨Int.ediv_nonneg h0 (by omega), ?_⟩
  rw [Int.ediv_lt_iff_lt_mul (by omega)]
  omega

theorem mul_small {x y B C : Int} (hx : 0 ≤ x) (hy : 0 ≤ y) (hxB : x ≤ B) (hyB : y ≤ C) : 0 ≤ x * y ∧ x * y ≤ B * C := mul_bd hx hy hxB hyB

/-- Row and column of a tile. -/
theorem row_col {i n m : Int} (hn : 1 ≤ n) (h0 : 0 ≤ i) (h : i < n * m) : 0 ≤ i % n ∧ i % n < n ∧ 0 ≤ i / n ∧ i / n < m :=
  ⟨Int.emod_nonneg i (by omega), Int.emod_lt_of_pos i (by omega), Int.ediv_nonneg h0 (by omega), by rw [Int.ediv_lt_iff_lt_mul (by omega), Int.mul_comm]; exact h⟩

/-- A tile begins inside of the plane. -/
theorem begin_lt {q a b : Int} (ha : 1 ≤ a) (hb : 1 ≤ b) (h0 : 0 ≤ q) (h : q < cd a b) : 0 ≤ q * b ∧ q * b < a := by
  have hs := cd_spec ha hb
  refine ⟨Int.mul_nonneg h0 (by omega), ?_⟩
  have : q * b ≤ (cd a b - 1) * b := Int.mul_le_mul_of_nonneg_right (by omega) (by omega)
  omega

theorem tile_eq {k : Nat} (hk : 1 < k) {w h tw th i : Int} (hf : Fine w h tw th) (h0 : 0 ≤ i) (hi : i < cd w tw * cd h th) :
    grid_Tile.f k w h tw th i = some (i % cd w tw * tw, i / cd w tw * th, min (i % cd w tw * tw + tw) w, min (i / cd w tw * th + th) h, true) := by
  have hc := cd_spec hf.1 hf.2.2.2.2.1
  have hr := cd_spec hf.2.2.1 hf.2.2.2.2.2.2.1
  have hm := mul_bd (x := cd w tw) (y := cd h th) (B := 128) (C := 128) (by omega) (by omega) (by omega) (by omega)
  obtain ⟨r1, r2, r3, r4⟩ := row_col hc.1 h0 hi
  have b1 := begin_lt hf.1 hf.2.2.2.2.1 r1 r2
  have b2 := begin_lt hf.2.2.1 hf.2.2.2.2.2.2.1 r3 r4
  unfold grid_Tile.f
  rw [count_eq hk, if_pos hf]
  simp only [Option.bind_some]
  rw [if_neg (by omega), wrap_in (n := cd w tw * cd h th) (by omega) (by omega), if_neg (by omega), if_neg (by omega), Int.tmod_eq_emod_of_nonneg h0, Int.tdiv_eq_ediv_of_nonneg h0,
    wrap_in (n := i / cd w tw) (by omega) (by omega), wrap_in (n := i % cd w tw * tw) (by omega) (by omega), wrap_in (n := i / cd w tw * th) (by omega) (by omega), wrap_in (n := i % cd w tw * tw + tw) (by omega) (by omega), wrap_in (n := i / cd w tw * th + th) (by omega) (by omega), mn_min, mn_min]

theorem sane_eq : tilefarmlaw13_sane.f 60 = some true := by decide +kernel

theorem RS_add (W : Int) (P : List Int) (y : Int) (a : Nat) : ∀ i : Nat, RS W P 0 y (a + i) = RS W P 0 y a + RS W P (a : Int) y i
  | 0 => by rw [Nat.add_zero, show RS W P (a : Int) y 0 = 0 from rfl, Int.add_zero]
  | i + 1 => by
    rw [← Nat.add_assoc, RS, RS_add W P y a i, RS, Int.natCast_add, show y * W + 0 + ((a : Int) + (i : Int)) = y * W + (a : Int) + (i : Int) by omega]
    omega

theorem AR_add (W : Int) (P : List Int) (a b i : Nat) : ∀ k : Nat, AR W P 0 0 a (b + k) + AR W P 0 0 (a + i) b - AR W P 0 0 a b + AR W P (a : Int) (b : Int) i k = AR W P 0 0 (a + i) (b + k)
  | 0 => by rw [Nat.add_zero, show AR W P (a : Int) (b : Int) i 0 = 0 from rfl]; omega
  | k + 1 => by
    have h := AR_add W P a b i k
    have h2 := RS_add W P ((b : Int) + (k : Int)) a i
    rw [← Nat.add_assoc, AR, AR, AR, Int.natCast_add, Int.zero_add, h2, ← h]
    omega

/-- The integral plane at a place, 0 at -1. -/
abbrev GG (W : Int) (P : List Int) (u v : Int) : Int := AR W P 0 0 (u + 1).toNat (v + 1).toNat
abbrev IDX (W tw th u v : Int) : Int := v / th * cd W tw + u / tw

theorem gg_add (W : Int) (P : List Int) {x0 y0 i j : Int} (hx : 0 ≤ x0) (hy : 0 ≤ y0) (hi : 0 ≤ i) (hj : 0 ≤ j) : GG W P (x0 - 1) (y0 + j) + GG W P (x0 + i) (y0 - 1) - GG W P (x0 - 1) (y0 - 1) + AR W P x0 y0 (i.toNat + 1) (j.toNat + 1) = GG W P (x0 + i) (y0 + j) := by
  have h := AR_add W P x0.toNat y0.toNat (i.toNat + 1) (j.toNat + 1)
  rw [Int.toNat_of_nonneg hx, Int.toNat_of_nonneg hy] at h
  show AR W P 0 0 (x0 - 1 + 1).toNat (y0 + j + 1).toNat + AR W P 0 0 (x0 + i + 1).toNat (y0 - 1 + 1).toNat - AR W P 0 0 (x0 - 1 + 1).toNat (y0 - 1 + 1).toNat + _ = AR W P 0 0 (x0 + i + 1).toNat (y0 + j + 1).toNat
  rw [show (x0 - 1 + 1).toNat = x0.toNat by omega, show (y0 - 1 + 1).toNat = y0.toNat by omega, show (x0 + i + 1).toNat = x0.toNat + (i.toNat + 1) by omega, show (y0 + j + 1).toNat = y0.toNat + (j.toNat + 1) by omega]
  exact h

structure GH (W H M tw th : Int) (P : List Int) : Prop where
  pv : PV W H M P
  w6 : W ≤ 6
  h5 : H ≤ 5
  m6 : M ≤ 65535
  tw1 : 1 ≤ tw
  tw3 : tw ≤ 3
  th1 : 1 ≤ th
  th3 : th ≤ 3

structure OI (W H tw th : Int) (P : List Int) (i : Int) (own : List Int) : Prop where
  len : (own.length : Int) = W * H
  rd : ∀ u v : Int, 0 ≤ u → u < W → 0 ≤ v → v < H → rd own (v * W + u) = if IDX W tw th u v < i then GG W P u v else 0

/-- A tile: its number, column, row and rectangle. -/
structure TI (W H tw th i cx cy x0 y0 : Int) (w d : Nat) : Prop where
  hi : i = cy * cd W tw + cx
  cx0 : 0 ≤ cx
  cx1 : cx < cd W tw
  cy0 : 0 ≤ cy
  hx : x0 = cx * tw
  hy : y0 = cy * th
  x00 : 0 ≤ x0
  y00 : 0 ≤ y0
  hw : x0 + (w : Int) = min (x0 + tw) W
  hd : y0 + (d : Int) = min (y0 + th) H
  w1 : 1 ≤ w
  d1 : 1 ≤ d

section
variable {W H M tw th : Int} {P : List Int} {i cx cy x0 y0 : Int} {w d : Nat} {own : List Int}

theorem ti_of (g : GH W H M tw th P) (h0 : 0 ≤ i) (hi : i < cd W tw * cd H th) : ∃ w d : Nat, TI W H tw th i (i % cd W tw) (i / cd W tw) (i % cd W tw * tw) (i / cd W tw * th) w d := by
  have hS := g.pv.1
  have t1 := g.tw1
  have t2 := g.th1
  have hc := cd_spec (a := W) (b := tw) hS.1 t1
  obtain ⟨r1, r2, r3, r4⟩ := row_col hc.1 h0 hi
  have b1 := begin_lt hS.1 t1 r1 r2
  have b2 := begin_lt hS.2.2.1 t2 r3 r4
  have e := Int.mul_ediv_add_emod i (cd W tw)
  rw [Int.mul_comm] at e
  exact ⟨(min (i % cd W tw * tw + tw) W - i % cd W tw * tw).toNat, (min (i / cd W tw * th + th) H - i / cd W tw * th).toNat, ⟨e.symm, r1, r2, r3, rfl, rfl, b1.1, b2.1, by omega, by omega, by omega, by omega⟩⟩

theorem ti_IN (g : GH W H M tw th P) (t : TI W H tw th i cx cy x0 y0 w d) : IN W H x0 y0 (x0 + (w : Int)) (y0 + (d : Int)) :=
  ⟨t.x00, by have := t.w1; omega, by have := t.hw; omega, t.y00, by have := t.d1; omega, by have := t.hd; omega⟩

theorem idx_bd (g : GH W H M tw th P) {u v : Int} (hu : 0 ≤ u) (hu' : u < W) (hv : 0 ≤ v) (hv' : v < H) : 0 ≤ u / tw ∧ u / tw < cd W tw ∧ 0 ≤ v / th ∧ v / th < cd H th :=
  ⟨(div_lt_cd g.pv.1.1 g.tw1 hu hu').1, (div_lt_cd g.pv.1.1 g.tw1 hu hu').2, (div_lt_cd g.pv.1.2.2.1 g.th1 hv hv').1, (div_lt_cd g.pv.1.2.2.1 g.th1 hv hv').2⟩

theorem div_iff {a b p : Int} (hb : 1 ≤ b) : (p * b ≤ a ∧ a < p * b + b) ↔ a / b = p := by
  refine ⟨fun ⟨g1, g2⟩ => ?_, fun g => ?_⟩
  · rw [show a = (a - p * b) + b * p by rw [Int.mul_comm]; omega, Int.add_mul_ediv_left _ _ (by omega), Int.ediv_eq_zero_of_lt (by omega) (by omega), Int.zero_add]
  · have k1 := Int.mul_ediv_add_emod a b
    have k2 := Int.emod_nonneg a (show b ≠ 0 by omega)
    have k3 := Int.emod_lt_of_pos a (show 0 < b by omega)
    rw [← g, Int.mul_comm]
    omega

theorem lex_lt {a b c e n : Int} (hn : 0 ≤ n) (h : a < c) (hb : b < n) (he : 0 ≤ e) : a * n + b < c * n + e := by
  have := Int.mul_le_mul_of_nonneg_right (show a + 1 ≤ c by omega) hn
  rw [Int.add_mul, Int.one_mul] at this
  omega

theorem idx_in (g : GH W H M tw th P) (t : TI W H tw th i cx cy x0 y0 w d) {u v : Int} (hu : 0 ≤ u) (hu' : u < W) (hv : 0 ≤ v) (hv' : v < H) : IDX W tw th u v = i ↔ (y0 ≤ v ∧ v < y0 + (d : Int) ∧ x0 ≤ u ∧ u < x0 + (w : Int)) := by
  obtain ⟨b1, b2, b3, b4⟩ := idx_bd g hu hu' hv hv'
  have kx := div_iff (a := u) (b := tw) (p := cx) g.tw1
  have ky := div_iff (a := v) (b := th) (p := cy) g.th1
  have e1 := t.hx
  have e2 := t.hy
  have e3 := t.hw
  have e4 := t.hd
  have e5 := t.hi
  have e6 := t.cx0
  have e7 := t.cx1
  rw [← e1] at kx
  rw [← e2] at ky
  show v / th * cd W tw + u / tw = i ↔ _
  constructor
  · intro h
    have q2 : u / tw = cx := by
      have h2 : (u / tw + v / th * cd W tw) % cd W tw = (cx + cy * cd W tw) % cd W tw := by rw [Int.add_comm, h, e5, Int.add_comm]
      rwa [Int.add_mul_emod_self_right, Int.add_mul_emod_self_right, Int.emod_eq_of_lt b1 b2, Int.emod_eq_of_lt e6 e7] at h2
    have q1 : v / th = cy := by
      have h2 : (u / tw + v / th * cd W tw) / cd W tw = (cx + cy * cd W tw) / cd W tw := by rw [Int.add_comm, h, e5, Int.add_comm]
      rwa [Int.add_mul_ediv_right _ _ (by omega), Int.add_mul_ediv_right _ _ (by omega), Int.ediv_eq_zero_of_lt b1 b2, Int.ediv_eq_zero_of_lt e6 e7, Int.zero_add, Int.zero_add] at h2
    have k1 := kx.2 q2
    have k2 := ky.2 q1
    omega
  · rintro ⟨h1, h2, h3, h4⟩
    rw [kx.1 ⟨h3, by omega⟩, ky.1 ⟨h1, by omega⟩, e5]

theorem idx_lt (g : GH W H M tw th P) (t : TI W H tw th i cx cy x0 y0 w d) {u v : Int} (hu : 0 ≤ u) (hu' : u < W) (hv : 0 ≤ v) (hv' : v < H) (h : v < y0 ∨ (v < y0 + (d : Int) ∧ u < x0)) : IDX W tw th u v < i := by
  obtain ⟨b1, b2, b3, b4⟩ := idx_bd g hu hu' hv hv'
  have kx := div_iff (a := u) (b := tw) (p := u / tw) g.tw1
  have ky := div_iff (a := v) (b := th) (p := v / th) g.th1
  have kx := kx.2 rfl
  have ky := ky.2 rfl
  have e1 := t.hx
  have e2 := t.hy
  have e4 := t.hd
  have e5 := t.hi
  have e6 := t.cx0
  have e7 := t.cx1
  have t1 := g.tw1
  have t2 := g.th1
  show v / th * cd W tw + u / tw < i
  rw [e5]
  have low : ∀ {a b n : Int}, 1 ≤ n → a * n < b * n → a < b := fun {a b n} hn h => Int.lt_of_mul_lt_mul_right h (by omega)
  rcases h with h | ⟨h1, h2⟩
  · exact lex_lt (by omega) (low t2 (show v / th * th < cy * th by omega)) b2 e6
  · have q : v / th < cy + 1 := low t2 (show v / th * th < (cy + 1) * th by rw [Int.add_mul, Int.one_mul]; omega)
    have q2 : u / tw < cx := low t1 (show u / tw * tw < cx * tw by omega)
    by_cases c : v / th = cy
    · rw [c]; omega
    · exact lex_lt (by omega) (show v / th < cy by omega) b2 e6

theorem gg_left (W : Int) (P : List Int) (v : Int) : GG W P (-1) v = 0 := AR_zero W P 0 0 _
theorem gg_top (W : Int) (P : List Int) (u : Int) : GG W P u (-1) = 0 := rfl

theorem gg_bd (g : GH W H M tw th P) {u v : Int} (hu : u < W) (hv : v < H) (hu' : -1 ≤ u) (hv' : -1 ≤ v) : 0 ≤ GG W P u v ∧ GG W P u v ≤ W * H * M := AR_le g.pv 0 0 (by omega) (by omega)

theorem at_gg (g : GH W H M tw th P) (t : TI W H tw th i cx cy x0 y0 w d) (o : OI W H tw th P i own) (L : Int) {u v : Int} (hu : -1 ≤ u) (hu' : u < W) (hv : -1 ≤ v) (hv' : v < H) (h : v < y0 ∨ (v < y0 + (d : Int) ∧ u < x0)) : tilefarmlaw13_at.f W H L own u v = some (GG W P u v) := by
  have w6 := g.w6
  have h5 := g.h5
  unfold tilefarmlaw13_at.f
  by_cases c1 : u < 0
  · rw [show u = -1 by omega, gg_left]; simp
  by_cases c2 : v < 0
  · rw [show v = -1 by omega, gg_top]; simp
  have a := cell_in (i := u) (j := v) (W := W) (H := H) (by omega) hu' (by omega) hv'
  have a2 := (mul_bd (x := W) (y := H) (B := 6) (C := 5) (by have := g.pv.1; omega) (by have := g.pv.1; omega) w6 h5).2
  have r := o.rd u v (by omega) hu' (by omega) hv'
  rw [if_pos (idx_lt g t (by omega) hu' (by omega) hv' h)] at r
  have hl := o.len
  rw [if_neg c1, if_neg c2, wrap_in (n := v * W) (by omega) (by omega), wrap_in (n := v * W + u) (by omega) (by omega), if_pos (show 0 ≤ v * W + u by omega), if_pos (show v * W + u < (own.length : Int) by omega), r]

theorem oi_bd (g : GH W H M tw th P) (o : OI W H tw th P i own) : ∀ v ∈ own, 0 ≤ v ∧ v ≤ W * H * M := by
  intro v hv
  obtain ⟨s1, s2, s3, s4⟩ := small_whm g.pv g.w6 g.h5 g.m6
  obtain ⟨k, hk, e⟩ := List.mem_iff_getElem.1 hv
  have hW := g.pv.1.1
  have hl := o.len
  have e2 : rd own (k : Int) = v := by simp [rd, hk, e]
  have h1 := Int.emod_nonneg (k : Int) (show W ≠ 0 by omega)
  have h2 := Int.emod_lt_of_pos (k : Int) (show 0 < W by omega)
  have h3 : 0 ≤ (k : Int) / W := Int.ediv_nonneg (Int.natCast_nonneg k) (by omega)
  have h4 : (k : Int) / W < H := by rw [Int.ediv_lt_iff_lt_mul (by omega), Int.mul_comm]; omega
  have h5 := Int.mul_ediv_add_emod (k : Int) W
  rw [Int.mul_comm] at h5
  have r := o.rd _ _ h1 h2 h3 h4
  rw [h5, e2] at r
  rw [r]
  by_cases c : IDX W tw th ((k : Int) % W) ((k : Int) / W) < i
  · rw [if_pos c]; exact gg_bd g h2 h4 (by omega) (by omega)
  · rw [if_neg c]; omega

theorem rowg_rd (q : Int → Int → Int) (y : Int) (n : Nat) (x : Int) (j : Nat) (hj : j < n) : rd (rowg q y n x) (j : Int) = q (x + (j : Int)) y := by
  simp only [rd, Int.toNat_natCast, List.getD_eq_getElem?_getD]
  rw [rowg_get q y n x j hj]
  rfl

theorem grow1 (g : GH W H M tw th P) (t : TI W H tw th i cx cy x0 y0 w d) (o : OI W H tw th P i own) (L e C R n0 : Int) (want : List Int) (w0 w1 w2 : Int) (K : Nat) : ∀ (n k : Nat) (l : List Int), k + n = d → l.length + n ≤ 1000 →
    tilefarmlaw13_IntegralGrows.l1 (K + n + 1) tw th e C R n0 l (y0 + (k : Int)) W H M P w0 w1 w2 want W H L own x0 y0 (x0 + (w : Int)) (y0 + (d : Int)) =
      tilefarmlaw13_IntegralGrows.l2 K tw th e C R n0 (l ++ rowg (fun a b => GG W P b a) (x0 - 1) n (y0 + (k : Int))) [] x0 W H M P w0 w1 w2 want W H L own x0 y0 (x0 + (w : Int)) (y0 + (d : Int))
  | 0, k, l, hk, hl => by
    have hk' : k = d := hk
    rw [hk', tilefarmlaw13_IntegralGrows.l1, if_neg (Int.lt_irrefl _)]
    simp only [rowg, List.append_nil]
  | n + 1, k, l, hk, hl => by
    have b := ti_IN g t
    have w6 := g.w6
    have h5 := g.h5
    have ih := grow1 g t o L e C R n0 want w0 w1 w2 K n (k + 1) (l ++ [GG W P (x0 - 1) (y0 + (k : Int))]) (by omega) (by rw [List.length_append, List.length_singleton]; omega)
    rw [show K + (n + 1) + 1 = (K + n + 1) + 1 from rfl, tilefarmlaw13_IntegralGrows.l1, if_pos (show y0 + (k : Int) < y0 + (d : Int) by omega), wrap_in (n := x0 - 1) (by omega) (by omega), at_gg g t o L (by omega) (by omega) (by omega) (by omega) (.inr ⟨by omega, by omega⟩), Option.bind_some, if_pos (show l.length < 17592186044416 by omega), wrap_in (n := y0 + (k : Int) + 1) (by omega) (by omega)]
    rw [show y0 + (k : Int) + 1 = y0 + ((k + 1 : Nat) : Int) by omega, ih, List.append_assoc, rowg, show y0 + (k : Int) + 1 = y0 + ((k + 1 : Nat) : Int) by omega]
    rfl

theorem grow2 (g : GH W H M tw th P) (t : TI W H tw th i cx cy x0 y0 w d) (o : OI W H tw th P i own) (L e C R n0 : Int) (want left : List Int) (w0 w1 w2 : Int) (K : Nat) : ∀ (n k : Nat) (l : List Int), k + n = w → l.length + n ≤ 1000 →
    tilefarmlaw13_IntegralGrows.l2 (K + n + 1) tw th e C R n0 left l (x0 + (k : Int)) W H M P w0 w1 w2 want W H L own x0 y0 (x0 + (w : Int)) (y0 + (d : Int)) =
      tilefarmlaw13_IntegralGrows.l2 (K + 1) tw th e C R n0 left (l ++ rowg (GG W P) (y0 - 1) n (x0 + (k : Int))) (x0 + (w : Int)) W H M P w0 w1 w2 want W H L own x0 y0 (x0 + (w : Int)) (y0 + (d : Int))
  | 0, k, l, hk, hl => by
    have hk' : k = w := hk
    rw [hk']
    simp only [rowg, List.append_nil]
  | n + 1, k, l, hk, hl => by
    have b := ti_IN g t
    have w6 := g.w6
    have h5 := g.h5
    have ih := grow2 g t o L e C R n0 want left w0 w1 w2 K n (k + 1) (l ++ [GG W P (x0 + (k : Int)) (y0 - 1)]) (by omega) (by rw [List.length_append, List.length_singleton]; omega)
    rw [show K + (n + 1) + 1 = (K + n + 1) + 1 from rfl, tilefarmlaw13_IntegralGrows.l2, if_pos (show x0 + (k : Int) < x0 + (w : Int) by omega), wrap_in (n := y0 - 1) (by omega) (by omega), at_gg g t o L (by omega) (by omega) (by omega) (by omega) (.inl (by omega)), Option.bind_some, if_pos (show l.length < 17592186044416 by omega), wrap_in (n := x0 + (k : Int) + 1) (by omega) (by omega)]
    rw [show x0 + (k : Int) + 1 = x0 + ((k + 1 : Nat) : Int) by omega, ih, List.append_assoc, rowg, show x0 + (k : Int) + 1 = x0 + ((k + 1 : Nat) : Int) by omega]
    rfl

/-- The tile between its neighbours. -/
theorem tile_grow (g : GH W H M tw th P) (t : TI W H tw th i cx cy x0 y0 w d) (K : Nat) (hK : 2000 ≤ K) :
    ∃ Q, integral_Tile.f K W H M P x0 y0 (x0 + (w : Int)) (y0 + (d : Int)) (rowg (fun a b => GG W P b a) (x0 - 1) d y0) (rowg (GG W P) (y0 - 1) w x0) (GG W P (x0 - 1) (y0 - 1)) = some ((w : Int), (d : Int), W * H * M, Q, 0) ∧
      PV (w : Int) (d : Int) (W * H * M) Q ∧ ∀ j k : Nat, j < w → k < d → rd Q ((k * w + j : Nat) : Int) = GG W P (x0 + (j : Int)) (y0 + (k : Int)) := by
  have b := ti_IN g t
  have w6 := g.w6
  have h5 := g.h5
  have hd1 := t.d1
  have hw1 := t.w1
  obtain ⟨s1, s2, s3, s4⟩ := small_whm g.pv g.w6 g.h5 g.m6
  have hll : (rowg (fun a b => GG W P b a) (x0 - 1) d y0).length = d := rowg_len _ _ _ _
  have htl : (rowg (GG W P) (y0 - 1) w x0).length = w := rowg_len _ _ _ _
  have hT := tile_go K hK (c := GG W P (x0 - 1) (y0 - 1)) (left := rowg (fun a b => GG W P b a) (x0 - 1) d y0) (top := rowg (GG W P) (y0 - 1) w x0) g.pv w6 h5 g.m6 b (by omega) (by omega)
  have v1 : ∀ v ∈ rowg (fun a b => GG W P b a) (x0 - 1) d y0, 0 ≤ v ∧ v ≤ W * H * M := fun v hv => by
    obtain ⟨j, h1, h2⟩ := rowg_mem _ _ hv
    rw [h2]
    exact gg_bd g (by omega) (by omega) (by omega) (by omega)
  have v2 : ∀ v ∈ rowg (GG W P) (y0 - 1) w x0, 0 ≤ v ∧ v ≤ W * H * M := fun v hv => by
    obtain ⟨j, h1, h2⟩ := rowg_mem _ _ hv
    rw [h2]
    exact gg_bd g (by omega) (by omega) (by omega) (by omega)
  have ev : ∀ j k : Nat, j < w → k < d → tg (rowg (fun a b => GG W P b a) (x0 - 1) d y0) (rowg (GG W P) (y0 - 1) w x0) (GG W P (x0 - 1) (y0 - 1)) W P x0 y0 (0 + (j : Int)) (0 + (k : Int)) = GG W P (x0 + (j : Int)) (y0 + (k : Int)) := fun j k hj hk => by
    rw [Int.zero_add, Int.zero_add, tg, rowg_rd _ _ _ _ _ hk, rowg_rd _ _ _ _ _ hj]
    exact gg_add W P b.1 b.2.2.2.1 (Int.natCast_nonneg j) (Int.natCast_nonneg k)
  have v3 : ∀ v ∈ rowsg (tg (rowg (fun a b => GG W P b a) (x0 - 1) d y0) (rowg (GG W P) (y0 - 1) w x0) (GG W P (x0 - 1) (y0 - 1)) W P x0 y0) 0 w d 0, 0 ≤ v ∧ v ≤ W * H * M := fun v hv => by
    obtain ⟨j, k, h1, h2, h3⟩ := rowsg_mem _ _ hv
    rw [h3, ev j k h1 h2]
    exact gg_bd g (by omega) (by omega) (by omega) (by omega)
  rw [hll, htl, if_pos ⟨gg_bd g (by omega) (by omega) (by omega) (by omega), v1, v2⟩, if_pos v3] at hT
  have hwd : (w : Int) * (d : Int) ≤ W * H := Int.mul_le_mul (by omega) (by omega) (by omega) (by omega)
  refine ⟨_, hT, ⟨⟨by omega, by omega, by omega, by omega, by omega, by omega, by omega⟩, ?_, v3⟩, fun j k hj hk => ?_⟩
  · rw [rowsg_len, Int.natCast_mul, Int.mul_comm]
  · rw [rowsg_rd _ _ _ _ _ _ _ hk hj, ev j k hj hk]

theorem oi_step (g : GH W H M tw th P) (t : TI W H tw th i cx cy x0 y0 w d) (o : OI W H tw th P i own) {Q own' : List Int} (hQ : ∀ j k : Nat, j < w → k < d → rd Q ((k * w + j : Nat) : Int) = GG W P (x0 + (j : Int)) (y0 + (k : Int))) (hb : BL W H own x0 y0 w Q own' d) : OI W H tw th P (i + 1) own' := by
  refine ⟨by rw [hb.len]; exact o.len, fun u v hu hu' hv hv' => ?_⟩
  have hi := idx_in g t hu hu' hv hv'
  rw [hb.rd u v hu hu' hv hv']
  by_cases c : y0 ≤ v ∧ v < y0 + (d : Int) ∧ x0 ≤ u ∧ u < x0 + (w : Int)
  · have hi2 := hi.2 c
    obtain ⟨c1, c2, c3, c4⟩ := c
    rw [if_pos ⟨c1, c2, c3, c4⟩, if_pos (show IDX W tw th u v < i + 1 by omega)]
    have h := hQ (u - x0).toNat (v - y0).toNat (by omega) (by omega)
    rw [Int.natCast_add, Int.natCast_mul, Int.toNat_of_nonneg (by omega), Int.toNat_of_nonneg (by omega), show x0 + (u - x0) = u by omega, show y0 + (v - y0) = v by omega] at h
    exact h
  · have hne : IDX W tw th u v ≠ i := fun h => c (hi.1 h)
    rw [if_neg c, o.rd u v hu hu' hv hv']
    by_cases c2 : IDX W tw th u v < i
    · rw [if_pos c2, if_pos (by omega)]
    · rw [if_neg c2, if_neg (by omega)]

theorem oi_end (g : GH W H M tw th P) (o : OI W H tw th P (cd W tw * cd H th) own) : own = IP W H P := by
  have hS := g.pv.1
  have hIl := IP_len hS.1 hS.2.2.1 P
  have hl := o.len
  refine rd_ext (by omega) (fun k hk => ?_)
  have hW := hS.1
  have h1 := Int.emod_nonneg (k : Int) (show W ≠ 0 by omega)
  have h2 := Int.emod_lt_of_pos (k : Int) (show 0 < W by omega)
  have h3 : 0 ≤ (k : Int) / W := Int.ediv_nonneg (Int.natCast_nonneg k) (by omega)
  have h4 : (k : Int) / W < H := by rw [Int.ediv_lt_iff_lt_mul (by omega), Int.mul_comm]; omega
  have h5 := Int.mul_ediv_add_emod (k : Int) W
  rw [Int.mul_comm] at h5
  have r := o.rd _ _ h1 h2 h3 h4
  obtain ⟨b1, b2, b3, b4⟩ := idx_bd g h1 h2 h3 h4
  have hlt : IDX W tw th ((k : Int) % W) ((k : Int) / W) < cd W tw * cd H th := by
    have h := lex_lt (n := cd W tw) (e := 0) (by omega) b4 b2 (Int.le_refl 0)
    rw [Int.add_zero, Int.mul_comm (cd H th)] at h
    exact h
  rw [if_pos hlt, h5] at r
  have e := IP_rd hS.1 hS.2.2.1 P (x := (k : Int) % W + 1) (y := (k : Int) / W + 1) (by omega) (by omega) (by omega) (by omega)
  rw [show (k : Int) / W + 1 - 1 = (k : Int) / W by omega, show (k : Int) / W * W + ((k : Int) % W + 1) - 1 = (k : Int) by omega] at e
  rw [r, e]

theorem idx_sz (g : GH W H M tw th P) : 1 ≤ cd W tw ∧ 1 ≤ cd H th ∧ cd W tw ≤ 6 ∧ cd H th ≤ 5 ∧ 0 ≤ cd W tw * cd H th ∧ cd W tw * cd H th ≤ 30 := by
  have hS := g.pv.1
  have w6 := g.w6
  have h5 := g.h5
  have c1 := cd_spec (a := W) (b := tw) hS.1 g.tw1
  have c2 := cd_spec (a := H) (b := th) hS.2.2.1 g.th1
  have := mul_bd (x := cd W tw) (y := cd H th) (B := 6) (C := 5) (by omega) (by omega) (by omega) (by omega)
  omega

theorem grow0 (g : GH W H M tw th P) : ∀ (n : Nat) (i : Int) (K : Nat) (own : List Int), 0 ≤ i → i + (n : Int) = cd W tw * cd H th → 30000 ≤ K → OI W H tw th P i own →
    tilefarmlaw13_IntegralGrows.l0 (K + 30 * n) tw th 0 (cd W tw) (cd H th) i W H M P W H (W * H * M) (IP W H P) W H (W * H * M) own = some true
  | 0, i, K, own, h0, hi, hK, o => by
    have hi' : i = cd W tw * cd H th := by omega
    have hc := idx_sz g
    rw [hi'] at o ⊢
    rw [oi_end g o]
    obtain ⟨s1, s2, s3, s4⟩ := small_whm g.pv g.w6 g.h5 g.m6
    have hl := IP_len g.pv.1.1 g.pv.1.2.2.1 P
    obtain ⟨k, rfl⟩ : ∃ k, K = k + 1 + 1 := ⟨K - 2, by omega⟩
    have hsane : tilefarmlaw13_sane.f k = some true := at_rounds tilefarmlaw13_sane.mono (by omega) sane_eq
    rw [Nat.mul_zero, Nat.add_zero, tilefarmlaw13_IntegralGrows.l0, wrap_in (n := cd W tw * cd H th) (by omega) (by omega), if_neg (Int.lt_irrefl _), tilefarmlaw13_IntegralGrows.j1, if_neg Bool.false_ne_true, if_pos rfl, equal_eq W H _ _ (by omega) k (by omega), Option.bind_some, if_pos rfl, hsane]
    rfl
  | n + 1, i, K, own, h0, hi, hK, o => by
    have hc := idx_sz g
    obtain ⟨w, d, t⟩ := ti_of g h0 (show i < cd W tw * cd H th by omega)
    obtain ⟨s1, s2, s3, s4⟩ := small_whm g.pv g.w6 g.h5 g.m6
    have b := ti_IN g t
    have hS := g.pv.1
    have w6 := g.w6
    have h5 := g.h5
    have tw1 := g.tw1
    have tw3 := g.tw3
    have th1 := g.th1
    have th3 := g.th3
    have hw1 := t.w1
    have hd1 := t.d1
    have ew := t.hw
    have ed := t.hd
    have htile := tile_eq (k := K + 30 * n + 28) (by omega) (w := W) (h := H) (tw := tw) (th := th) (i := i) ⟨hS.1, hS.2.1, hS.2.2.1, hS.2.2.2.1, by omega, by omega, by omega, by omega⟩ h0 (by omega)
    rw [← ew, ← ed] at htile
    generalize i % cd W tw * tw = x0 at *
    generalize i / cd W tw * th = y0 at *
    have ho : PV W H (W * H * M) own := ⟨⟨hS.1, hS.2.1, hS.2.2.1, hS.2.2.2.1, by omega, s3, by omega⟩, o.len, oi_bd g o⟩
    have hr : RC W H own x0 y0 w d := ⟨b.1, b.2.2.1, b.2.2.2.1, b.2.2.2.2.2, by omega, by omega, by omega, o.len, hw1, hd1, by omega, by omega⟩
    obtain ⟨m, hm⟩ : ∃ m, K + 30 * n + 28 = (m + w + 1) + d + 1 := ⟨K + 30 * n + 28 - w - d - 2, by omega⟩
    have hm' : m = (m - 30 * n) + 30 * n := by omega
    obtain ⟨Q, q1, q2, q3⟩ := tile_grow g t m (by omega)
    obtain ⟨own', r1, r2⟩ := blit_p ho hr q2 (fun v hv => (q2.2.2 v hv).2) m (by omega)
    have o' := oi_step g t o q3 r2
    have ih := grow0 g n (i + 1) (m - 30 * n) own' (by omega) (by omega) (by omega) o'
    rw [← hm'] at ih
    have g1 := grow1 g t o (W * H * M) 0 (cd W tw) (cd H th) i (IP W H P) W H (W * H * M) (m + w + 1) d 0 [] (Nat.zero_add d) (by rw [List.length_nil]; omega)
    have g2 := grow2 g t o (W * H * M) 0 (cd W tw) (cd H th) i (IP W H P) (rowg (fun a b => GG W P b a) (x0 - 1) d y0) W H (W * H * M) m w 0 [] (Nat.zero_add w) (by rw [List.length_nil]; omega)
    rw [show y0 + ((0 : Nat) : Int) = y0 from Int.add_zero y0, List.nil_append] at g1
    rw [show x0 + ((0 : Nat) : Int) = x0 from Int.add_zero x0, List.nil_append] at g2
    rw [show K + 30 * (n + 1) = (K + 30 * n + 28) + 1 + 1 by omega, tilefarmlaw13_IntegralGrows.l0, wrap_in (n := cd W tw * cd H th) (by omega) (by omega), if_pos (show i < cd W tw * cd H th by omega), tilefarmlaw13_IntegralGrows.j1, beq_self_eq_true, if_pos rfl, htile, Option.bind_some, hm]
    refine g1.trans (g2.trans ?_)
    rw [tilefarmlaw13_IntegralGrows.l2, if_neg (Int.lt_irrefl _), wrap_in (n := x0 - 1) (by omega) (by omega), wrap_in (n := y0 - 1) (by omega) (by omega), at_gg g t o (W * H * M) (by omega) (by omega) (by omega) (by omega) (.inl (by omega)), Option.bind_some, q1, Option.bind_some, r1, Option.bind_some, if_pos rfl, if_pos rfl, wrap_in (n := i + 1) (by omega) (by omega)]
    exact ih

end

theorem IntegralGrows : tilefarmlaw13_IntegralGrows.Pure := by
  intro t _ hl _
  have ht : t.length ≤ 4611686018427387904 := by omega
  obtain ⟨K, hK⟩ : ∃ K : Nat, 40000 ≤ K := ⟨40000, Nat.le_refl _⟩
  refine ⟨K, ?_⟩
  unfold tilefarmlaw13_IntegralGrows.f tilefarmgen_New.f
  rw [Option.bind_some]
  obtain ⟨p, p1, p2, p3, p4, p5, p6, p7, p8, p9, p10⟩ := plane_spec K (by omega) t ht 0 (Int.le_refl _)
  obtain ⟨hPV, hPl⟩ := plane_PV p2 p3 p4 p5 p6 p7 p8 p9
  obtain ⟨a, a1, a2, a3, a4⟩ := next_o t p.2.2.2.2 3 p10 ht (by omega) (by omega)
  obtain ⟨b, b1, b2, b3, b4⟩ := next_o t a.2 3 a4 ht (by omega) (by omega)
  have g : GH p.1 p.2.1 p.2.2.1 (1 + a.1) (1 + b.1) p.2.2.2.1 := ⟨hPV, by omega, by omega, p7, by omega, by omega, by omega, by omega⟩
  obtain ⟨s1, s2, s3, s4⟩ := small_whm hPV (by omega) (by omega) p7
  have hS := hPV.1
  have hz := idx_sz g
  rw [p1, Option.bind_some, a1, Option.bind_some, b1, Option.bind_some, whole_ok K (by omega) hPV (by omega) (by omega) p7, Option.bind_some, wrap_in (n := p.1 * p.2.1) (by omega) (by omega), if_pos (show 0 ≤ p.1 * p.2.1 by omega), if_pos (show (p.1 * p.2.1).toNat ≤ 35184372088832 by omega), wrap_in (n := 1 + a.1) (by omega) (by omega), wrap_in (n := 1 + b.1) (by omega) (by omega), count_eq (by omega), if_pos (show Fine p.1 p.2.1 (1 + a.1) (1 + b.1) from ⟨hS.1, hS.2.1, hS.2.2.1, hS.2.2.2.1, by omega, by omega, by omega, by omega⟩), Option.bind_some]
  have o : OI p.1 p.2.1 (1 + a.1) (1 + b.1) p.2.2.2.1 0 (List.replicate (p.1 * p.2.1).toNat 0) := ⟨by rw [List.length_replicate, Int.toNat_of_nonneg (by omega)], fun u v hu hu' hv hv' => by
    obtain ⟨e1, e2, e3, e4⟩ := idx_bd g hu hu' hv hv'
    have := Int.mul_nonneg e3 (show 0 ≤ cd p.1 (1 + a.1) by omega)
    rw [rd_zeros, if_neg (by show ¬ _ + _ < _; omega)]⟩
  have h := grow0 g (cd p.1 (1 + a.1) * cd p.2.1 (1 + b.1)).toNat 0 (K - 30 * (cd p.1 (1 + a.1) * cd p.2.1 (1 + b.1)).toNat) _ (Int.le_refl 0) (by omega) (by omega) o
  rw [show K - 30 * (cd p.1 (1 + a.1) * cd p.2.1 (1 + b.1)).toNat + 30 * (cd p.1 (1 + a.1) * cd p.2.1 (1 + b.1)).toNat = K by omega] at h
  exact h


end Go.Proofs.Ytkipnpgcpohlcaa.Pure
namespace Go.Proofs.Ytkipnpgcpohlcaa
open Go.ChangeShapes Go.WideShapes
/-- The print's own word, under the name that the printed row uses. -/
theorem PrintWords.sized_ints {H : Type} {enc : TypeId × Value → H} {P : Program} {W : World} {base : Nat} {spare : Nat → Bool} {held : Bool} {t e : TypeId} {k : IntKind} {a : Option Addr} {len cap : Nat} {d : DataW H} {ps : List MemPlace} {ts : List TypeId} {ds : List (DataW H)} {j : Nat}
    (hsz : (DataW.weightsEach P ts ds).all (· ≤ reachBytes) = true) (ht : ts[j]? = some t) (hd : ds[j]? = some d) (hu : P.underlying t = some (.slice e)) (he : P.underlying e = some (.int k)) (hc : P.cellsOf e = 1) {B : Nat} (hB : P.bytesOf e = B)
    (h : DataW.Trod enc P W base spare held t (.slice a len cap) d ps) : len * B ≤ 140737488351232 :=
  Go.Proofs.YtkipnpgcpohlcaaW.PrintWords.sized_ints hsz ht hd hu he hc hB h
end Go.Proofs.Ytkipnpgcpohlcaa

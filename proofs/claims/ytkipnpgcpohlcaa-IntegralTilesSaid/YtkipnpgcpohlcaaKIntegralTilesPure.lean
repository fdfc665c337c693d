/- Tiles of integral planes from their neighbours, or the error, are those of the reference, also for neighbours that do not fit: for every tape, every two lists and every corner. -/
import Derived.Test.YtkipnpgcpohlcaaKIntegralTilesx13
import Derived.Test.YtkipnpgcpohlcaaKIntegralTilesa
namespace Go.Proofs.Ytkipnpgcpohlcaa.Pure
open Go.RowKit Go.Proofs.Ytkipnpgcpohlcaa.PIntegralTiles Go.Proofs.YtkipnpgcpohlcaaW.PrintWords Go.Proofs.YtkipnpgcpohlcaaW.PrintLast Go.Proofs.YtkipnpgcpohlcaaW.PrintMore
set_option linter.unusedVariables false
set_option linter.unusedSimpArgs false

theorem wrap_in {n : Int} (h : -9223372036854775808 ≤ n) (h' : n ≤ 9223372036854775807) : wrap64 n = n := by unfold wrap64; omega

theorem tmod_emod (a n : Int) (h : 0 < n) : (0 ≤ Int.tmod a n ∧ Int.tmod a n = a % n) ∨ (Int.tmod a n < 0 ∧ Int.tmod a n + n = a % n) := by
  have h1 := Int.tmod_eq_emod (a := a) (b := n)
  have h2 := Int.emod_nonneg a (by omega : n ≠ 0)
  have h3 := Int.emod_lt_of_pos a h
  split at h1 <;> omega

theorem mod_eq (a n : Int) (h : 0 < n) (hn : n ≤ 4611686018427387904) : tilefarmgen_Mod.f a n = some (a % n) := by
  have h2 := Int.emod_nonneg a (by omega : n ≠ 0)
  have h3 := Int.emod_lt_of_pos a h
  unfold tilefarmgen_Mod.f
  rw [if_neg (by omega)]
  rcases tmod_emod a n h with ⟨h4, h5⟩ | ⟨h4, h5⟩
  · rw [if_neg (by omega), h5]
  · rw [if_pos h4, wrap_in (by omega) (by omega), h5]

theorem sd_true {p : Prop} [Decidable p] (h : p) : some true = some (decide p) := by rw [decide_eq_true h]
theorem sd_false {p : Prop} [Decidable p] (h : ¬ p) : some false = some (decide p) := by rw [decide_eq_false h]
theorem sd_iff {p q : Prop} [Decidable p] [Decidable q] (h : q ↔ p) : some (decide q) = some (decide p) := by rw [decide_eq_decide.2 h]

theorem mx_max (a b : Int) : mx a b = max a b := by unfold mx; omega
theorem mn_min (a b : Int) : mn a b = min a b := by unfold mn; omega

theorem mul_bd {x y B C : Int} (hx : 0 ≤ x) (hy : 0 ≤ y) (hxB : x ≤ B) (hyB : y ≤ C) : 0 ≤ x * y ∧ x * y ≤ B * C :=
  ⟨Int.mul_nonneg hx hy, Int.mul_le_mul hxB hyB hy (by omega)⟩

theorem dec_iff {p q : Prop} [Decidable p] [Decidable q] (h : p ↔ q) : decide p = decide q := decide_eq_decide.2 h
theorem and_not_dec (p q : Prop) [Decidable p] [Decidable q] : (decide p && !decide q) = decide (p ∧ ¬ q) := by
  by_cases hp : p <;> by_cases hq : q <;> simp [hp, hq]

theorem wrap64_range (n : Int) : -9223372036854775808 ≤ wrap64 n ∧ wrap64 n ≤ 9223372036854775807 := by unfold wrap64; omega

theorem wf_range {n : Int} (h : (Lit.int .i64 n).wf = true) : -9223372036854775808 ≤ n ∧ n ≤ 9223372036854775807 := by
  simp only [Lit.wf, IntKind.min, IntKind.max, IntKind.signed, IntKind.bits, Bool.and_eq_true, decide_eq_true_eq, if_true] at h
  omega


theorem next_spec (l : List Int) (s n : Int) (hs : 0 ≤ s) (hl : l.length ≤ 4611686018427387904) (h : 0 < n) (hn : n ≤ 4611686018427387904) :
    ∃ r s', tilefarmgen_Tape_Next.f l s n = some (r, s') ∧ 0 ≤ r ∧ r < n ∧ 0 ≤ s' := by
  unfold tilefarmgen_Tape_Next.f
  rw [if_neg (by omega)]
  by_cases h1 : s ≥ (l.length : Int)
  · rw [if_pos h1]; exact ⟨_, _, rfl, by omega, by omega, hs⟩
  · have e1 : wrap64 (s + 1) = s + 1 := wrap_in (by omega) (by omega)
    have e2 : wrap64 (s + 1 - 1) = s := by rw [wrap_in (by omega) (by omega)]; omega
    rw [if_neg h1]
    simp only [e1, e2]
    rw [if_pos hs, if_pos (by omega), mod_eq _ _ h hn]
    exact ⟨_, _, rfl, Int.emod_nonneg _ (by omega), Int.emod_lt_of_pos _ h, by omega⟩


theorem rd_mem (l : List Int) (i : Nat) (h : i < l.length) : rd l (i : Int) ∈ l := by
  simp [rd, h]

theorem rd_drop (l : List Int) (i : Nat) (h : i < l.length) : l.drop i = rd l (i : Int) :: l.drop (i + 1) := by
  rw [List.drop_eq_getElem_cons h]
  simp [rd, h]

theorem next_o (l : List Int) (s n : Int) (hs : 0 ≤ s) (hl : l.length ≤ 4611686018427387904) (h : 0 < n) (hn : n ≤ 4611686018427387904) :
    ∃ bt, tilefarmgen_Tape_Next.f l s n = some bt ∧ 0 ≤ bt.1 ∧ bt.1 < n ∧ 0 ≤ bt.2 := by
  obtain ⟨r, s', h1, h2, h3, h4⟩ := next_spec l s n hs hl h hn
  exact ⟨(r, s'), h1, h2, h3, h4⟩

theorem pick_o (l : List Int) (s : Int) (xs : List Int) (hs : 0 ≤ s) (hl : l.length ≤ 4611686018427387904) (h : 0 < xs.length) (hx : xs.length ≤ 100) :
    ∃ bt, tilefarmgen_Tape_Pick.f l s xs = some bt ∧ bt.1 ∈ xs ∧ 0 ≤ bt.2 := by
  obtain ⟨r, s', h1, h2, h3, h4⟩ := next_spec l s (xs.length : Int) hs hl (by omega) (by omega)
  refine ⟨(rd xs r, s'), ?_, ?_, h4⟩
  · unfold tilefarmgen_Tape_Pick.f
    rw [h1, Option.bind_some, if_pos h2, if_pos h3]
  · obtain ⟨n, rfl⟩ := Int.eq_ofNat_of_zero_le h2
    exact rd_mem xs n (by omega)


/-! The pixels of a rectangle. -/
def rowg (g : Int → Int → Int) (y : Int) : Nat → Int → List Int
  | 0, _ => []
  | d + 1, x => g x y :: rowg g y d (x + 1)

def rowsg (g : Int → Int → Int) (x0 : Int) (w : Nat) : Nat → Int → List Int
  | 0, _ => []
  | d + 1, y => rowg g y w x0 ++ rowsg g x0 w d (y + 1)

theorem rowg_len (g : Int → Int → Int) (y : Int) : ∀ (d : Nat) (x : Int), (rowg g y d x).length = d
  | 0, _ => rfl
  | d + 1, x => by simp only [rowg]; rw [List.length_cons, rowg_len g y d (x + 1)]

theorem rowsg_len (g : Int → Int → Int) (x0 : Int) (w : Nat) : ∀ (d : Nat) (y : Int), (rowsg g x0 w d y).length = d * w
  | 0, _ => by simp [rowsg]
  | d + 1, y => by simp only [rowsg]; rw [List.length_append, rowg_len, rowsg_len g x0 w d (y + 1), Nat.add_mul]; omega

theorem rowg_get (g : Int → Int → Int) (y : Int) : ∀ (d : Nat) (x : Int) (i : Nat), i < d → (rowg g y d x)[i]? = some (g (x + (i : Int)) y)
  | 0, _, i, h => by omega
  | d + 1, x, 0, h => by simp [rowg]
  | d + 1, x, i + 1, h => by
    simp only [rowg, List.getElem?_cons_succ]
    rw [rowg_get g y d (x + 1) i (by omega), show x + 1 + (i : Int) = x + ((i + 1 : Nat) : Int) by omega]

theorem rowsg_get (g : Int → Int → Int) (x0 : Int) (w : Nat) : ∀ (d : Nat) (y : Int) (j i : Nat), j < d → i < w → (rowsg g x0 w d y)[j * w + i]? = some (g (x0 + (i : Int)) (y + (j : Int)))
  | 0, _, j, i, h, _ => by omega
  | d + 1, y, 0, i, h, hi => by
    simp only [rowsg]
    rw [List.getElem?_append_left (by rw [rowg_len]; omega), Nat.zero_mul, Nat.zero_add, rowg_get g y w x0 i hi]
    simp
  | d + 1, y, j + 1, i, h, hi => by
    simp only [rowsg]
    rw [List.getElem?_append_right (by rw [rowg_len, Nat.add_mul]; omega), rowg_len, show (j + 1) * w + i - w = j * w + i by rw [Nat.add_mul]; omega, rowsg_get g x0 w d (y + 1) j i (by omega) hi, show y + 1 + (j : Int) = y + ((j + 1 : Nat) : Int) by omega]

theorem rowsg_rd (g : Int → Int → Int) (x0 : Int) (w d : Nat) (y : Int) (j i : Nat) (hj : j < d) (hi : i < w) : rd (rowsg g x0 w d y) ((j * w + i : Nat) : Int) = g (x0 + (i : Int)) (y + (j : Int)) := by
  simp only [rd, Int.toNat_natCast, List.getD_eq_getElem?_getD]
  rw [rowsg_get g x0 w d y j i hj hi]
  rfl

theorem rowg_all (Q : Int → Prop) (g : Int → Int → Int) (h : ∀ x y, Q (g x y)) (y : Int) : ∀ (d : Nat) (x : Int), ∀ v ∈ rowg g y d x, Q v
  | 0, _, v, hv => by simp [rowg] at hv
  | d + 1, x, v, hv => by
    simp only [rowg, List.mem_cons] at hv
    rcases hv with hv | hv
    · rw [hv]; exact h _ _
    · exact rowg_all Q g h y d (x + 1) v hv

theorem rowsg_all (Q : Int → Prop) (g : Int → Int → Int) (h : ∀ x y, Q (g x y)) (x0 : Int) (w : Nat) : ∀ (d : Nat) (y : Int), ∀ v ∈ rowsg g x0 w d y, Q v
  | 0, _, v, hv => by simp [rowsg] at hv
  | d + 1, y, v, hv => by
    simp only [rowsg, List.mem_append] at hv
    rcases hv with hv | hv
    · exact rowg_all Q g h y w x0 v hv
    · exact rowsg_all Q g h x0 w d (y + 1) v hv


abbrev V (a b c d : Int) : Prop := (a = 0 ∧ b = 0 ∧ c = 0 ∧ d = 0) ∨ (-1048576 ≤ a ∧ a ≤ 1048576 ∧ -1048576 ≤ b ∧ b ≤ 1048576 ∧ -1048576 ≤ c ∧ c ≤ 1048576 ∧ -1048576 ≤ d ∧ d ≤ 1048576 ∧ a < c ∧ b < d)

theorem empty_eq (a b c d : Int) : rect_Empty.f a b c d = some (decide (a = 0 ∧ b = 0 ∧ c = 0 ∧ d = 0)) := by
  unfold rect_Empty.f
  congr 1
  rw [Bool.eq_iff_iff]
  simp

theorem coord_eq (a : Int) : rect_coord.f a = some (decide (-1048576 ≤ a ∧ a ≤ 1048576)) := by
  unfold rect_coord.f
  split <;> congr 1 <;> rw [Bool.eq_iff_iff] <;> simp <;> omega

theorem valid_eq (a b c d : Int) : rect_Valid.f a b c d = some (decide (V a b c d)) := by
  unfold rect_Valid.f
  simp only [empty_eq, coord_eq, Option.bind_some, decide_eq_true_eq]
  repeat' split
  all_goals first | (refine sd_iff ?_; omega) | (refine sd_true ?_; omega) | (refine sd_false ?_; omega)

theorem ref_coord_eq (a : Int) : tilefarmref2_coord.f a = some (decide (-1048576 ≤ a ∧ a ≤ 1048576)) := by
  unfold tilefarmref2_coord.f
  split <;> congr 1 <;> rw [Bool.eq_iff_iff] <;> simp <;> omega

theorem ref_valid_eq (a b c d : Int) : tilefarmref2_Valid.f a b c d = some (decide (V a b c d)) := by
  unfold tilefarmref2_Valid.f
  simp only [ref_coord_eq, Option.bind_some, decide_eq_true_eq, V, Bool.and_eq_true, beq_iff_eq]
  repeat' split
  all_goals first | (refine sd_iff ?_; omega) | (refine sd_true ?_; omega) | (refine sd_false ?_; omega)

def ix (a0 a1 a2 a3 b0 b1 b2 b3 : Int) : Int × Int × Int × Int :=
  if V a0 a1 a2 a3 ∧ V b0 b1 b2 b3 ∧ mx a0 b0 < mn a2 b2 ∧ mx a1 b1 < mn a3 b3 then (mx a0 b0, mx a1 b1, mn a2 b2, mn a3 b3) else (0, 0, 0, 0)

theorem intersect_eq (k : Nat) (a0 a1 a2 a3 b0 b1 b2 b3 : Int) : rect_Intersect.f (k + 1) a0 a1 a2 a3 b0 b1 b2 b3 = some (ix a0 a1 a2 a3 b0 b1 b2 b3) := by
  unfold rect_Intersect.f ix
  simp only [valid_eq, Option.bind_some, rect_Intersect.j0, decide_eq_true_eq, Bool.not_eq_true', decide_eq_false_iff_not, if_true]
  by_cases h1 : V a0 a1 a2 a3
  · by_cases h2 : V b0 b1 b2 b3
    · rw [if_pos h1, if_neg (fun h => h h2)]
      by_cases h3 : mx a0 b0 < mn a2 b2
      · by_cases h4 : mx a1 b1 < mn a3 b3
        · rw [if_neg (by omega), if_neg (by omega), if_pos ⟨h1, h2, h3, h4⟩]
        · rw [if_neg (by omega), if_pos (by omega), if_neg (fun h => h4 h.2.2.2)]
      · rw [if_pos (by omega), if_neg (fun h => h3 h.2.2.1)]
    · rw [if_pos h1, if_pos h2, if_neg (fun h => h2 h.2.1)]
  · rw [if_neg h1, if_neg (fun h => h1 h.1)]

theorem ix_spec {a0 a1 a2 a3 b0 b1 b2 b3 c0 c1 c2 c3 : Int} (hc : ix a0 a1 a2 a3 b0 b1 b2 b3 = (c0, c1, c2, c3)) (ha : V a0 a1 a2 a3) (hb : V b0 b1 b2 b3) :
    (c0 = 0 ∧ c1 = 0 ∧ c2 = 0 ∧ c3 = 0 ∧ (min a2 b2 ≤ max a0 b0 ∨ min a3 b3 ≤ max a1 b1)) ∨ (c0 = max a0 b0 ∧ c1 = max a1 b1 ∧ c2 = min a2 b2 ∧ c3 = min a3 b3 ∧ c0 < c2 ∧ c1 < c3) := by
  simp only [ix, mx_max, mn_min] at hc
  split at hc
  · next h =>
    simp only [Prod.mk.injEq] at hc
    exact .inr (by omega)
  · next h =>
    simp only [Prod.mk.injEq] at hc
    refine .inl ?_
    have : ¬ (max a0 b0 < min a2 b2 ∧ max a1 b1 < min a3 b3) := fun h' => h ⟨ha, hb, h'⟩
    omega

theorem ix_inside {a0 a1 a2 a3 b0 b1 b2 b3 c0 c1 c2 c3 : Int} (h : (c0 = 0 ∧ c1 = 0 ∧ c2 = 0 ∧ c3 = 0 ∧ (min a2 b2 ≤ max a0 b0 ∨ min a3 b3 ≤ max a1 b1)) ∨ (c0 = max a0 b0 ∧ c1 = max a1 b1 ∧ c2 = min a2 b2 ∧ c3 = min a3 b3 ∧ c0 < c2 ∧ c1 < c3))
    (hy : ¬ (c0 = 0 ∧ c1 = 0 ∧ c2 = 0 ∧ c3 = 0)) : a0 ≤ c0 ∧ c0 < c2 ∧ c2 ≤ a2 ∧ a1 ≤ c1 ∧ c1 < c3 ∧ c3 ≤ a3 := by
  rcases h with h | h
  · exact absurd ⟨h.1, h.2.1, h.2.2.1, h.2.2.2.1⟩ hy
  · omega

theorem V_range {a b c d : Int} (h : V a b c d) : -1048576 ≤ a ∧ c ≤ 1048576 ∧ -1048576 ≤ b ∧ d ≤ 1048576 := by omega
theorem V_mono {a b c d : Int} (h : V a b c d) : a ≤ c ∧ b ≤ d := by omega


theorem mul_some (a b c : Int) : ∃ p, extent_Mul.f a b c = some p := by
  unfold extent_Mul.f
  by_cases c1 : a < 0
  · rw [if_pos c1]; exact ⟨_, rfl⟩
  · rw [if_neg c1]
    by_cases c2 : b < 0
    · rw [if_pos c2]; exact ⟨_, rfl⟩
    · rw [if_neg c2]
      by_cases c3 : c < 0
      · rw [if_pos c3]; exact ⟨_, rfl⟩
      · rw [if_neg c3]
        by_cases c4 : a = 0
        · rw [if_pos c4]; exact ⟨_, rfl⟩
        · rw [if_neg c4]
          by_cases c5 : b > wrap64 (Int.tdiv c a)
          · rw [if_pos c5]; exact ⟨_, rfl⟩
          · rw [if_neg c5]; exact ⟨_, rfl⟩

/-- Which sizes a plane can have. -/
abbrev SZ (a b m : Int) : Prop := 1 ≤ a ∧ a ≤ 128 ∧ 1 ≤ b ∧ b ≤ 128 ∧ a * b ≤ 4096 ∧ 1 ≤ m ∧ m ≤ 4294967296

theorem size_no {a b m : Int} (h : ¬ SZ a b m) : some false = some (decide (SZ a b m)) := by rw [decide_eq_false h]

theorem size_val (a b m : Int) : plane_size.f a b m = some (decide (SZ a b m)) := by
  unfold plane_size.f
  by_cases c1 : a ≥ 1
  · by_cases c2 : a ≤ 128
    · by_cases c3 : b ≥ 1
      · by_cases c4 : b ≤ 128
        · obtain ⟨b0, b1⟩ := mul_bd (x := a) (y := b) (B := 128) (C := 128) (by omega) (by omega) c2 c4
          have hq : b ≤ 4096 / a ↔ b * a ≤ 4096 := Int.le_ediv_iff_mul_le (by omega)
          have q0 : 0 ≤ 4096 / a := Int.ediv_nonneg (by decide) (by omega)
          have q1 : 4096 / a ≤ 4096 := Int.ediv_le_self _ (by decide)
          rw [Int.mul_comm b a] at hq
          unfold extent_Mul.f
          rw [if_neg (show ¬ a < 0 by omega), if_neg (show ¬ b < 0 by omega), if_neg (show ¬ (4096 : Int) < 0 by decide), if_neg (show ¬ a = 0 by omega), Int.tdiv_eq_ediv_of_nonneg (by decide), wrap_in (n := 4096 / a) (by omega) (by omega), wrap_in (n := a * b) (by omega) (by omega)]
          by_cases c5 : b > 4096 / a
          · rw [if_pos c5]
            exact size_no (fun h => by have := hq.2 h.2.2.2.2.1; omega)
          · rw [if_neg c5, Option.bind_some]
            simp only [if_pos c1, if_pos c2, if_pos c3, if_pos c4, if_true]
            by_cases c6 : m ≥ 1
            · rw [if_pos c6]
              have := hq.1 (by omega)
              exact congrArg some (decide_eq_decide.2 ⟨fun h => ⟨c1, c2, c3, c4, this, c6, h⟩, fun h => h.2.2.2.2.2.2⟩)
            · rw [if_neg c6]
              exact size_no (fun h => c6 h.2.2.2.2.2.1)
        · obtain ⟨p, hp⟩ := mul_some a b 4096
          rw [hp, Option.bind_some]
          simp only [if_pos c1, if_pos c2, if_pos c3, if_neg c4, ite_self]
          exact size_no (fun h => c4 h.2.2.2.1)
      · obtain ⟨p, hp⟩ := mul_some a b 4096
        rw [hp, Option.bind_some]
        simp only [if_pos c1, if_pos c2, if_neg c3, ite_self]
        exact size_no (fun h => c3 h.2.2.1)
    · obtain ⟨p, hp⟩ := mul_some a b 4096
      rw [hp, Option.bind_some]
      simp only [if_pos c1, if_neg c2, ite_self]
      exact size_no (fun h => c2 h.2.1)
  · obtain ⟨p, hp⟩ := mul_some a b 4096
    rw [hp, Option.bind_some]
    simp only [if_neg c1, ite_self]
    exact size_no (fun h => c1 h.1)

/-- Which planes are valid. -/
abbrev PV (a b m : Int) (l : List Int) : Prop := SZ a b m ∧ (l.length : Int) = a * b ∧ ∀ v ∈ l, 0 ≤ v ∧ v ≤ m

theorem vloop_spec (a b m : Int) (l : List Int) (hl : l.length ≤ 4611686018427387904) : ∀ (d k i : Nat), i + d = l.length → d < k →
    plane_Valid.l0 k l (l.length : Int) (i : Int) a b m l = some (decide (∀ v ∈ l.drop i, 0 ≤ v ∧ v ≤ m))
  | 0, k, i, hi, hk => by
    obtain ⟨k, rfl⟩ : ∃ n, k = n + 1 := ⟨k - 1, by omega⟩
    rw [plane_Valid.l0, if_neg (show ¬ (i : Int) < (l.length : Int) by omega), List.drop_eq_nil_of_le (by omega)]
    simp
  | d + 1, k, i, hi, hk => by
    obtain ⟨k, rfl⟩ : ∃ n, k = n + 1 := ⟨k - 1, by omega⟩
    rw [plane_Valid.l0, rd_drop l i (by omega)]
    simp only [if_pos (show (i : Int) < (l.length : Int) by omega), if_pos (show 0 ≤ (i : Int) by omega), List.mem_cons, forall_eq_or_imp]
    rw [wrap_in (n := (i : Int) + 1) (by omega) (by omega), show ((i : Int) + 1) = ((i + 1 : Nat) : Int) from rfl, vloop_spec a b m l hl d k (i + 1) (by omega) (by omega)]
    by_cases c1 : rd l (i : Int) < 0
    · rw [if_pos c1]
      exact sd_false (fun h => by omega)
    · rw [if_neg c1]
      by_cases c2 : rd l (i : Int) > m
      · rw [if_pos c2]
        exact sd_false (fun h => by omega)
      · rw [if_neg c2]
        exact sd_iff ⟨fun h => ⟨by omega, h⟩, fun h => h.2⟩

theorem pvalid_spec (k : Nat) (a b m : Int) (l : List Int) (hl : l.length ≤ 4611686018427387904) (hk : l.length + 1 < k) : plane_Valid.f k a b m l = some (decide (PV a b m l)) := by
  obtain ⟨k, rfl⟩ : ∃ n, k = n + 1 := ⟨k - 1, by omega⟩
  unfold plane_Valid.f
  rw [size_val, Option.bind_some]
  by_cases c1 : SZ a b m
  · rw [decide_eq_true c1, if_pos rfl]
    obtain ⟨b0, b1⟩ := mul_bd (x := a) (y := b) (B := 128) (C := 128) (by omega) (by omega) c1.2.1 c1.2.2.2.1
    simp only [plane_Valid.j0]
    rw [wrap_in (n := a * b) (by omega) (by omega)]
    by_cases c2 : (l.length : Int) = a * b
    · rw [bne_eq_false_iff_eq.2 c2, if_neg Bool.false_ne_true]
      have hv := vloop_spec a b m l hl l.length k 0 (by omega) (by omega)
      rw [List.drop_zero] at hv
      exact hv.trans (sd_iff ⟨fun h => ⟨c1, c2, h⟩, fun h => h.2.2⟩)
    · rw [bne_iff_ne.2 c2, if_pos rfl]
      exact sd_false (fun h => c2 h.2.1)
  · rw [decide_eq_false c1, if_neg Bool.false_ne_true]
    exact sd_false (fun h => c1 h.1)


theorem set_all (P : Int → Prop) (l : List Int) (i : Nat) (v : Int) (h : ∀ x ∈ l, P x) (hv : P v) : ∀ x ∈ l.set i v, P x := by
  intro x hx
  rcases List.mem_or_eq_of_mem_set hx with hx | hx
  · exact h x hx
  · rw [hx]; exact hv

theorem sized_loop (t : List Int) (ht : t.length ≤ 4611686018427387904) (a b m : Int) (hm : 1 ≤ m) (hm' : m ≤ 4294967296) : ∀ (d k i : Nat) (s : Int) (l : List Int), 0 ≤ s → i + d = l.length → l.length ≤ 100000 → d < k →
    (∀ v ∈ l, 0 ≤ v ∧ v ≤ m) → ∃ bt, tilefarmgen_Tape_Sized.l0 k (i : Int) t s a b m l = some bt ∧ bt.1 = a ∧ bt.2.1 = b ∧ bt.2.2.1 = m ∧ bt.2.2.2.1.length = l.length ∧ (∀ v ∈ bt.2.2.2.1, 0 ≤ v ∧ v ≤ m) ∧ 0 ≤ bt.2.2.2.2
  | 0, k, i, s, l, hs, hi, hl, hk, hv => by
    obtain ⟨k, rfl⟩ : ∃ n, k = n + 1 := ⟨k - 1, by omega⟩
    rw [tilefarmgen_Tape_Sized.l0, if_neg (show ¬ (i : Int) < (l.length : Int) by omega)]
    exact ⟨_, rfl, rfl, rfl, rfl, rfl, hv, hs⟩
  | d + 1, k, i, s, l, hs, hi, hl, hk, hv => by
    obtain ⟨k, rfl⟩ : ∃ n, k = n + 1 := ⟨k - 1, by omega⟩
    rw [tilefarmgen_Tape_Sized.l0, if_pos (show (i : Int) < (l.length : Int) by omega), wrap_in (n := m + 1) (by omega) (by omega)]
    obtain ⟨r1, h1, h1a, h1b, h1c⟩ := next_o t s (m + 1) hs ht (by omega) (by omega)
    obtain ⟨r2, h2, h2a, h2b, h2c⟩ := next_o t r1.2 (m + 1) h1c ht (by omega) (by omega)
    obtain ⟨r3, h3, h3a, h3b⟩ := pick_o t r2.2 [r1.1, r2.1, m, 0] h2c ht (by simp) (by simp)
    rw [h1, Option.bind_some, h2, Option.bind_some, h3, Option.bind_some, if_pos (show 0 ≤ (i : Int) by omega), wrap_in (n := (i : Int) + 1) (by omega) (by omega)]
    have hr : 0 ≤ r3.1 ∧ r3.1 ≤ m := by
      simp only [List.mem_cons, List.not_mem_nil, or_false] at h3a
      clear h1 h2 h3 hv
      omega
    obtain ⟨bt, g1, g2, g3, g4, g5, g6, g7⟩ := sized_loop t ht a b m hm hm' d k (i + 1) r3.2 (l.set (i : Int).toNat r3.1) h3b (by rw [List.length_set]; omega) (by rw [List.length_set]; omega) (by omega) (set_all _ l _ _ hv hr)
    exact ⟨bt, g1, g2, g3, g4, by rw [g5, List.length_set], g6, g7⟩

theorem sized_spec (K : Nat) (hK : 2000 ≤ K) (t : List Int) (ht : t.length ≤ 4611686018427387904) (s a b : Int) (hs : 0 ≤ s) (ha : 1 ≤ a) (ha' : a ≤ 30) (hb : 1 ≤ b) (hb' : b ≤ 30) :
    ∃ bt, tilefarmgen_Tape_Sized.f K t s a b = some bt ∧ bt.1 = a ∧ bt.2.1 = b ∧ 1 ≤ bt.2.2.1 ∧ bt.2.2.1 ≤ 65535 ∧ (bt.2.2.2.1.length : Int) = a * b ∧ (∀ v ∈ bt.2.2.2.1, 0 ≤ v ∧ v ≤ bt.2.2.1) ∧ 0 ≤ bt.2.2.2.2 := by
  obtain ⟨r, h1, h1a, h1b⟩ := pick_o t s [255, 255, 65535, 1, 7] hs ht (by simp) (by simp)
  have hr : 1 ≤ r.1 ∧ r.1 ≤ 65535 := by
    simp only [List.mem_cons, List.not_mem_nil, or_false] at h1a
    clear h1
    omega
  obtain ⟨m0, m1⟩ := mul_bd (x := a) (y := b) (B := 30) (C := 30) (by omega) (by omega) ha' hb'
  unfold tilefarmgen_Tape_Sized.f
  rw [h1, Option.bind_some, wrap_in (n := a * b) (by omega) (by omega), if_pos m0, if_pos (show (a * b : Int).toNat ≤ 35184372088832 by omega)]
  obtain ⟨bt, g1, g2, g3, g4, g5, g6, g7⟩ := sized_loop t ht a b r.1 hr.1 (by omega) (a * b : Int).toNat K 0 r.2 (List.replicate (a * b : Int).toNat 0) h1b (by rw [List.length_replicate]; omega) (by rw [List.length_replicate]; omega) (by omega) (fun v hv => by rw [List.eq_of_mem_replicate hv]; omega)
  rw [List.length_replicate] at g5
  exact ⟨bt, g1, g2, g3, by rw [g4]; exact hr.1, by rw [g4]; exact hr.2, by rw [g5]; omega, by rw [g4]; exact g6, g7⟩


theorem plane_spec (K : Nat) (hK : 2000 ≤ K) (t : List Int) (ht : t.length ≤ 4611686018427387904) (s : Int) (hs : 0 ≤ s) :
    ∃ bt, tilefarmgen_Tape_Plane.f K t s = some bt ∧ 1 ≤ bt.1 ∧ bt.1 ≤ 6 ∧ 1 ≤ bt.2.1 ∧ bt.2.1 ≤ 5 ∧ 1 ≤ bt.2.2.1 ∧ bt.2.2.1 ≤ 65535 ∧ (bt.2.2.2.1.length : Int) = bt.1 * bt.2.1 ∧ (∀ v ∈ bt.2.2.2.1, 0 ≤ v ∧ v ≤ bt.2.2.1) ∧ 0 ≤ bt.2.2.2.2 := by
  obtain ⟨r1, h1, h1a, h1b, h1c⟩ := next_o t s 6 hs ht (by omega) (by omega)
  obtain ⟨r2, h2, h2a, h2b, h2c⟩ := next_o t r1.2 5 h1c ht (by omega) (by omega)
  obtain ⟨bt, g1, g2, g3, g4, g5, g6, g7, g8⟩ := sized_spec K hK t ht r2.2 (1 + r1.1) (1 + r2.1) h2c (by omega) (by omega) (by omega) (by omega)
  refine ⟨bt, ?_, by omega, by omega, by omega, by omega, g4, g5, by rw [g6, g2, g3], g7, g8⟩
  unfold tilefarmgen_Tape_Plane.f
  rw [h1, Option.bind_some, h2, Option.bind_some, wrap_in (n := 1 + r1.1) (by omega) (by omega), wrap_in (n := 1 + r2.1) (by omega) (by omega), g1, Option.bind_some]

theorem plane_PV {a b m : Int} {l : List Int} (h1 : 1 ≤ a) (h2 : a ≤ 6) (h3 : 1 ≤ b) (h4 : b ≤ 5) (h5 : 1 ≤ m) (h6 : m ≤ 65535) (h7 : (l.length : Int) = a * b) (h8 : ∀ v ∈ l, 0 ≤ v ∧ v ≤ m) : PV a b m l ∧ l.length ≤ 30 := by
  obtain ⟨m0, m1⟩ := mul_bd (x := a) (y := b) (B := 6) (C := 5) (by omega) (by omega) h2 h4
  exact ⟨⟨⟨h1, by omega, h3, by omega, by omega, h5, by omega⟩, h7, h8⟩, by omega⟩


theorem within_spec (l : List Int) (s w h : Int) (hs : 0 ≤ s) (hl : l.length ≤ 4611686018427387904) (hw : 0 < w) (hw2 : w ≤ 1000000) (hh : 0 < h) (hh2 : h ≤ 1000000) :
    ∃ a b c d s', tilefarmgen_Tape_Within.f l s w h = some (a, b, c, d, s') ∧ 0 ≤ s' ∧ 0 ≤ a ∧ a < c ∧ c ≤ w ∧ 0 ≤ b ∧ b < d ∧ d ≤ h := by
  obtain ⟨r1, s1, h1, h1a, h1b, h1c⟩ := next_spec l s w hs hl (by omega) (by omega)
  obtain ⟨r2, s2, h2, h2a, h2b, h2c⟩ := next_spec l s1 h h1c hl (by omega) (by omega)
  obtain ⟨r3, s3, h3, h3a, h3b, h3c⟩ := next_spec l s2 (w - r1) h2c hl (by omega) (by omega)
  obtain ⟨r4, s4, h4, h4a, h4b, h4c⟩ := next_spec l s3 (h - r2) h3c hl (by omega) (by omega)
  refine ⟨r1, r2, r1 + 1 + r3, r2 + 1 + r4, s4, ?_, h4c, h1a, by omega, by omega, h2a, by omega, by omega⟩
  unfold tilefarmgen_Tape_Within.f
  simp only [h1, h2, Option.bind_some]
  rw [wrap_in (n := w - r1) (by omega) (by omega), h3]
  simp only [Option.bind_some]
  rw [wrap_in (n := h - r2) (by omega) (by omega), h4]
  simp only [Option.bind_some]
  rw [wrap_in (n := r1 + 1) (by omega) (by omega), wrap_in (n := r1 + 1 + r3) (by omega) (by omega), wrap_in (n := r2 + 1) (by omega) (by omega), wrap_in (n := r2 + 1 + r4) (by omega) (by omega)]


/-- The rectangle is full and in the plane. -/
abbrev IN (W H x0 y0 x1 y1 : Int) : Prop := 0 ≤ x0 ∧ x0 < x1 ∧ x1 ≤ W ∧ 0 ≤ y0 ∧ y0 < y1 ∧ y1 ≤ H

theorem inside_p (k : Nat) {W H : Int} (hW : 1 ≤ W) (hW' : W ≤ 128) (hH : 1 ≤ H) (hH' : H ≤ 128) {a b c d : Int} (hz : ¬ (a = 0 ∧ b = 0 ∧ c = 0 ∧ d = 0)) : rect_Inside.f (k + 1) a b c d 0 0 W H = some (decide (IN W H a b c d)) := by
  have hb : V 0 0 W H := .inr (by omega)
  unfold rect_Inside.f
  rw [valid_eq, Option.bind_some]
  by_cases ha : V a b c d
  · rw [decide_eq_true ha, if_pos rfl, valid_eq, Option.bind_some, decide_eq_true hb, if_pos rfl, intersect_eq, Option.bind_some]
    simp only [ix, mx_max, mn_min]
    by_cases h : max a 0 < min c W ∧ max b 0 < min d H
    · rw [if_pos ⟨ha, hb, h.1, h.2⟩]
      congr 1
      rw [Bool.eq_iff_iff]
      simp only [Bool.and_eq_true, beq_iff_eq, decide_eq_true_eq]
      omega
    · rw [if_neg (fun g => h g.2.2)]
      congr 1
      rw [Bool.eq_iff_iff]
      simp only [Bool.and_eq_true, beq_iff_eq, decide_eq_true_eq]
      omega
  · rw [decide_eq_false ha, if_neg Bool.false_ne_true]
    exact sd_false (fun g => ha (.inr (by omega)))


/-- The pixels of a row of a rectangle. -/
def rowl (W : Int) (P : List Int) (x0 x1 y : Int) : List Int := (P.take (y * W + x1).toNat).drop (y * W + x0).toNat
/-- The pixels of some rows of a rectangle. -/
def rowsl (W : Int) (P : List Int) (x0 x1 : Int) : Nat → Int → List Int
  | 0, _ => []
  | d + 1, y => rowl W P x0 x1 y ++ rowsl W P x0 x1 d (y + 1)

theorem rowl_len {W : Int} {P : List Int} {x0 x1 y : Int} (h0 : 0 ≤ y * W) (h1 : 0 ≤ x0) (h2 : x0 ≤ x1) (h3 : y * W + x1 ≤ (P.length : Int)) : (rowl W P x0 x1 y).length = (x1 - x0).toNat := by
  unfold rowl
  rw [List.length_drop, List.length_take]
  omega

theorem rowl_mem {W : Int} {P : List Int} {x0 x1 y v : Int} (h : v ∈ rowl W P x0 x1 y) : v ∈ P := List.mem_of_mem_take (List.mem_of_mem_drop h)

theorem rowsl_mem {W : Int} {P : List Int} {x0 x1 v : Int} : ∀ (d : Nat) (y : Int), v ∈ rowsl W P x0 x1 d y → v ∈ P
  | 0, _, h => by simp [rowsl] at h
  | d + 1, y, h => by
    rcases List.mem_append.1 h with h | h
    · exact rowl_mem h
    · exact rowsl_mem d (y + 1) h

theorem row_in {y W H : Int} (h0 : 0 ≤ y) (h1 : y < H) (hW : 0 ≤ W) : 0 ≤ y * W ∧ y * W + W ≤ W * H := by
  refine ⟨Int.mul_nonneg h0 hW, ?_⟩
  have := Int.mul_le_mul_of_nonneg_right (show y + 1 ≤ H by omega) hW
  rw [Int.add_mul, Int.one_mul, Int.mul_comm H W] at this
  exact this


/-! Sums of pixels: of a row, of rows, from a corner. -/
def RS (W : Int) (P : List Int) (x0 y : Int) : Nat → Int
  | 0 => 0
  | i + 1 => RS W P x0 y i + rd P (y * W + x0 + (i : Int))
def AR (W : Int) (P : List Int) (x0 y0 : Int) (i : Nat) : Nat → Int
  | 0 => 0
  | k + 1 => AR W P x0 y0 i k + RS W P x0 (y0 + (k : Int)) i

theorem rd_bd {P : List Int} {M : Int} (hM : 0 ≤ M) (h : ∀ v ∈ P, 0 ≤ v ∧ v ≤ M) (j : Int) : 0 ≤ rd P j ∧ rd P j ≤ M := by
  simp only [rd, List.getD_eq_getElem?_getD]
  cases e : P[j.toNat]? with
  | none => exact ⟨Int.le_refl 0, hM⟩
  | some v => exact h v (List.mem_of_getElem? e)

theorem mul_succ_i (B : Int) (k : Nat) : B * ((k + 1 : Nat) : Int) = B * (k : Int) + B := by rw [Int.natCast_succ, Int.mul_add, Int.mul_one]

theorem RS_bd {W : Int} {P : List Int} {M : Int} (hP : ∀ j, 0 ≤ rd P j ∧ rd P j ≤ M) (x0 y : Int) : ∀ i : Nat, 0 ≤ RS W P x0 y i ∧ RS W P x0 y i ≤ M * (i : Int)
  | 0 => by simp [RS]
  | i + 1 => by
    have h1 := RS_bd (W := W) hP x0 y i
    have h2 := hP (y * W + x0 + (i : Int))
    rw [RS, mul_succ_i]
    omega

theorem AR_bd {W : Int} {P : List Int} {M : Int} (hP : ∀ j, 0 ≤ rd P j ∧ rd P j ≤ M) (x0 y0 : Int) (i : Nat) : ∀ k : Nat, 0 ≤ AR W P x0 y0 i k ∧ AR W P x0 y0 i k ≤ M * (i : Int) * (k : Int)
  | 0 => by simp [AR]
  | k + 1 => by
    have h1 := AR_bd (W := W) hP x0 y0 i k
    have h2 := RS_bd (W := W) hP x0 (y0 + (k : Int)) i
    rw [AR, mul_succ_i]
    omega

theorem AR_small {W : Int} {P : List Int} {M : Int} (hP : ∀ j, 0 ≤ rd P j ∧ rd P j ≤ M) (hM : 0 ≤ M) (hM' : M ≤ 65535) (x0 y0 : Int) {i k : Nat} (hi : i ≤ 6) (hk : k ≤ 5) : 0 ≤ AR W P x0 y0 i k ∧ AR W P x0 y0 i k ≤ 1966050 := by
  obtain ⟨h0, h1⟩ := AR_bd (W := W) hP x0 y0 i k
  obtain ⟨a0, a1⟩ := mul_bd (x := M) (y := (i : Int)) (B := 65535) (C := 6) hM (by omega) hM' (by omega)
  obtain ⟨b0, b1⟩ := mul_bd (x := M * (i : Int)) (y := (k : Int)) (B := 65535 * 6) (C := 5) a0 (by omega) a1 (by omega)
  exact ⟨h0, by omega⟩

/-! integral.most, Check, check on small planes. -/
theorem mul_ok {a b c : Int} (ha : 1 ≤ a) (hb : 1 ≤ b) (ha' : a ≤ 4294967296) (hab : a * b ≤ c) (hc : c ≤ 4294967296) (hb' : b ≤ 4294967296) : extent_Mul.f a b c = some (a * b, true) := by
  have h0 : 0 ≤ a * b := Int.mul_nonneg (by omega) (by omega)
  have hq : 0 ≤ c / a := Int.ediv_nonneg (by omega) (by omega)
  have hq' : c / a ≤ c := Int.ediv_le_self a (by omega)
  have hle : b ≤ c / a := (Int.le_ediv_iff_mul_le (by omega)).2 (by rw [Int.mul_comm]; exact hab)
  unfold extent_Mul.f
  rw [if_neg (show ¬ a < 0 by omega), if_neg (show ¬ b < 0 by omega), if_neg (show ¬ c < 0 by omega), if_neg (show ¬ a = 0 by omega), Int.tdiv_eq_ediv_of_nonneg (show 0 ≤ c by omega), wrap_in (n := c / a) (by omega) (by omega), if_neg (show ¬ b > c / a by omega), wrap_in (n := a * b) (by omega) (by omega)]

theorem most_ok (k : Nat) {W H M : Int} (hW : 1 ≤ W) (hW' : W ≤ 128) (hH : 1 ≤ H) (hH' : H ≤ 128) (hM : 1 ≤ M) (hM' : M ≤ 65535) : integral_most.f (k + 1) W H M = some (W * H * M, true) := by
  obtain ⟨a0, a1⟩ := mul_bd (x := W) (y := H) (B := 128) (C := 128) (by omega) (by omega) hW' hH'
  obtain ⟨b0, b1⟩ := mul_bd (x := W * H) (y := M) (B := 16384) (C := 65535) a0 (by omega) a1 hM'
  have h1 : 1 * 1 ≤ W * H := Int.mul_le_mul hW hH (by decide) (by omega)
  unfold integral_most.f
  rw [if_neg (show ¬ W < 1 by omega), if_neg (show ¬ H < 1 by omega), decide_eq_false (show ¬ M < 1 by omega), integral_most.j0, if_neg Bool.false_ne_true, mul_ok hW hH (by omega) (by omega) (by decide) (by omega), Option.bind_some, if_pos rfl,
    mul_ok (show 1 ≤ W * H by omega) hM (by omega) (by omega) (by decide) (by omega), Option.bind_some]

theorem check_ok (k : Nat) {W H M : Int} {P : List Int} (hp : PV W H M P) (hM' : M ≤ 65535) (hl : P.length ≤ 100000) (hk : P.length + 1 < k) : integral_check.f k W H M P = some 0 := by
  obtain ⟨k, rfl⟩ : ∃ n, k = n + 1 := ⟨k - 1, by omega⟩
  unfold integral_check.f integral_shape.f integral_Check.f
  rw [pvalid_spec (k + 1) W H M P (by omega) hk, decide_eq_true hp, Option.bind_some, if_pos rfl, Option.bind_some]
  show ((integral_most.f (k + 1) W H M).bind fun bt => (if bt.2 = true then (some 0) else (some 11))).bind (fun t => some t) = some 0
  rw [most_ok k hp.1.1 hp.1.2.1 hp.1.2.2.1 hp.1.2.2.2.1 hp.1.2.2.2.2.2.1 hM']
  rfl

theorem in_loop (L : Int) (l : List Int) (hl : l.length ≤ 4611686018427387904) : ∀ (d k i : Nat), i + d = l.length → d < k →
    integral_Tile_1.l0 k l (l.length : Int) (i : Int) L = some (decide (∀ v ∈ l.drop i, 0 ≤ v ∧ v ≤ L))
  | 0, k, i, hi, hk => by
    obtain ⟨k, rfl⟩ : ∃ n, k = n + 1 := ⟨k - 1, by omega⟩
    rw [integral_Tile_1.l0, if_neg (show ¬ (i : Int) < (l.length : Int) by omega), List.drop_eq_nil_of_le (by omega)]
    simp
  | d + 1, k, i, hi, hk => by
    obtain ⟨k, rfl⟩ : ∃ n, k = n + 1 := ⟨k - 1, by omega⟩
    rw [integral_Tile_1.l0, rd_drop l i (by omega)]
    simp only [if_pos (show (i : Int) < (l.length : Int) by omega), if_pos (show 0 ≤ (i : Int) by omega), List.mem_cons, forall_eq_or_imp]
    rw [wrap_in (n := (i : Int) + 1) (by omega) (by omega), show ((i : Int) + 1) = ((i + 1 : Nat) : Int) from rfl, in_loop L l hl d k (i + 1) (by omega) (by omega)]
    by_cases c1 : rd l (i : Int) < 0
    · rw [if_pos c1]
      exact sd_false (fun h => by omega)
    · rw [if_neg c1]
      by_cases c2 : rd l (i : Int) > L
      · rw [if_pos c2]
        exact sd_false (fun h => by omega)
      · rw [if_neg c2]
        exact sd_iff ⟨fun h => ⟨by omega, h⟩, fun h => h.2⟩

theorem in_spec (k : Nat) (l : List Int) (L : Int) (hl : l.length ≤ 4611686018427387904) (hk : l.length < k) : integral_Tile_1.f k l L = some (decide (∀ v ∈ l, 0 ≤ v ∧ v ≤ L)) := by
  unfold integral_Tile_1.f
  have h := in_loop L l hl l.length k 0 (Nat.zero_add _) hk
  rw [List.drop_zero] at h
  exact h

/-! integral.Tile on small planes. -/
theorem rd_setn {o : List Int} {i b : Nat} {x : Int} (hi : i < o.length) : rd (o.set (i : Int).toNat x) (b : Int) = if i = b then x else rd o (b : Int) := by
  simp only [rd, Int.toNat_natCast, List.getD_eq_getElem?_getD, List.getElem?_set]
  by_cases h : i = b
  · rw [if_pos h, if_pos h, if_pos hi]; rfl
  · rw [if_neg h, if_neg h]

def tg (left top : List Int) (c W : Int) (P : List Int) (x0 y0 x y : Int) : Int := rd left y + rd top x - c + AR W P x0 y0 (x.toNat + 1) (y.toNat + 1)

theorem tidx {y0 W x0 : Int} {kk i : Nat} (hy : 0 ≤ y0) (hy' : y0 ≤ 5) (hx : 0 ≤ x0) (hx' : x0 ≤ 6) (hW : 1 ≤ W) (hW' : W ≤ 6) (hk : kk ≤ 5) (hi : i ≤ 6) :
    wrap64 ((wrap64 ((wrap64 ((wrap64 (y0 + (kk : Int))) * W)) + x0)) + (i : Int)) = (y0 + (kk : Int)) * W + x0 + (i : Int) := by
  obtain ⟨a0, a1⟩ := mul_bd (x := y0 + (kk : Int)) (y := W) (B := 10) (C := 6) (by omega) (by omega) (by omega) hW'
  rw [wrap_in (n := y0 + (kk : Int)) (by omega) (by omega), wrap_in (n := (y0 + (kk : Int)) * W) (by omega) (by omega), wrap_in (n := (y0 + (kk : Int)) * W + x0) (by omega) (by omega), wrap_in (by omega) (by omega)]

theorem wsum4 {a b c d : Int} (ha : 0 ≤ a ∧ a ≤ 2000000) (hb : 0 ≤ b ∧ b ≤ 2000000) (hc : 0 ≤ c ∧ c ≤ 2000000) (hd : 0 ≤ d ∧ d ≤ 2000000) : wrap64 ((wrap64 ((wrap64 (a + b)) - c)) + d) = a + b - c + d := by
  rw [wrap_in (n := a + b) (by omega) (by omega), wrap_in (n := a + b - c) (by omega) (by omega), wrap_in (by omega) (by omega)]

theorem t1 (K : Nat) {W H M L c x0 y0 x1 y1 : Int} {P left top : List Int} {n h kk : Nat} (hn : top.length = n) (hh : left.length = h) (hkk : kk < h) (hh5 : h ≤ 5) (hn6 : n ≤ 6)
    (hin : ∀ i : Nat, i < n → 0 ≤ (y0 + (kk : Int)) * W + x0 + (i : Int) ∧ (y0 + (kk : Int)) * W + x0 + (i : Int) < (P.length : Int)) (hy : 0 ≤ y0) (hy' : y0 ≤ 5) (hx : 0 ≤ x0) (hx' : x0 ≤ 6) (hW : 1 ≤ W) (hW' : W ≤ 6)
    (hPv : ∀ j, 0 ≤ rd P j ∧ rd P j ≤ M) (hM : 0 ≤ M) (hM' : M ≤ 65535) (hl : ∀ j, 0 ≤ rd left j ∧ rd left j ≤ 2000000) (ht : ∀ j, 0 ≤ rd top j ∧ rd top j ≤ 2000000) (hc : 0 ≤ c ∧ c ≤ 2000000) (q0 q1 q2 : Int) :
    ∀ (d i : Nat) (above pix : List Int), i + d = n → above.length = n → (∀ j : Nat, j < n → rd above (j : Int) = AR W P x0 y0 (j + 1) (if j < i then kk + 1 else kk)) → pix.length + d ≤ 1000 →
    ∃ above', above'.length = n ∧ (∀ j : Nat, j < n → rd above' (j : Int) = AR W P x0 y0 (j + 1) (kk + 1)) ∧
      integral_Tile.l1 (K + d + 1) left top c above (kk : Int) (RS W P x0 (y0 + (kk : Int)) i) (h : Int) (kk : Int) (n : Int) (i : Int) W H M P x0 y0 x1 y1 L q0 q1 q2 pix =
        integral_Tile.l0 K left top c above' (h : Int) ((kk + 1 : Nat) : Int) W H M P x0 y0 x1 y1 L q0 q1 q2 (pix ++ rowg (tg left top c W P x0 y0) (kk : Int) d (i : Int))
  | 0, i, above, pix, hi, ha, hr, hp => by
    have hin' : i = n := hi
    refine ⟨above, ha, fun j hj => by rw [hr j hj, if_pos (by omega)], ?_⟩
    rw [hin', integral_Tile.l1, if_neg (Int.lt_irrefl _), wrap_in (n := (kk : Int) + 1) (by omega) (by omega)]
    simp only [rowg, List.append_nil]
    rfl
  | d + 1, i, above, pix, hi, ha, hr, hp => by
    have hi' : i < n := by omega
    obtain ⟨g0, g1⟩ := hin i hi'
    have hb := AR_small (W := W) hPv hM hM' x0 y0 (i := i + 1) (k := kk + 1) (by omega) (by omega)
    have hb0 := AR_small (W := W) hPv hM hM' x0 y0 (i := i + 1) (k := kk) (by omega) (by omega)
    have hrs := RS_bd (W := W) hPv x0 (y0 + (kk : Int)) (i + 1)
    have hrs2 : M * ((i + 1 : Nat) : Int) ≤ 65535 * 6 := (mul_bd hM (by omega) hM' (by omega)).2
    have hav := hr i hi'
    rw [if_neg (Nat.lt_irrefl i)] at hav
    have e1 : wrap64 (RS W P x0 (y0 + (kk : Int)) i + rd P ((y0 + (kk : Int)) * W + x0 + (i : Int))) = RS W P x0 (y0 + (kk : Int)) (i + 1) := by
      rw [show RS W P x0 (y0 + (kk : Int)) i + rd P ((y0 + (kk : Int)) * W + x0 + (i : Int)) = RS W P x0 (y0 + (kk : Int)) (i + 1) from rfl]
      exact wrap_in (by omega) (by omega)
    have e2 : wrap64 (rd above (i : Int) + RS W P x0 (y0 + (kk : Int)) (i + 1)) = AR W P x0 y0 (i + 1) (kk + 1) := by
      rw [hav, show AR W P x0 y0 (i + 1) kk + RS W P x0 (y0 + (kk : Int)) (i + 1) = AR W P x0 y0 (i + 1) (kk + 1) from rfl]
      exact wrap_in (by omega) (by omega)
    have e3 : wrap64 ((wrap64 ((wrap64 (rd left (kk : Int) + rd top (i : Int))) - c)) + AR W P x0 y0 (i + 1) (kk + 1)) = tg left top c W P x0 y0 (i : Int) (kk : Int) := wsum4 (hl _) (ht _) hc ⟨hb.1, by omega⟩
    obtain ⟨above', h1, h2, h3⟩ := t1 K (x1 := x1) (y1 := y1) (H := H) (L := L) hn hh hkk hh5 hn6 hin hy hy' hx hx' hW hW' hPv hM hM' hl ht hc q0 q1 q2 d (i + 1) (above.set (i : Int).toNat (AR W P x0 y0 (i + 1) (kk + 1))) (pix ++ [tg left top c W P x0 y0 (i : Int) (kk : Int)])
      (by omega) (by rw [List.length_set]; exact ha) (fun j hj => by
        rw [rd_setn (by omega)]
        by_cases hij : i = j
        · rw [if_pos hij, ← hij, if_pos (by omega)]
        · rw [if_neg hij, hr j hj]
          by_cases hji : j < i
          · rw [if_pos hji, if_pos (by omega)]
          · rw [if_neg hji, if_neg (by omega)]) (by rw [List.length_append, List.length_singleton]; omega)
    refine ⟨above', h1, h2, ?_⟩
    rw [show K + (d + 1) + 1 = (K + d + 1) + 1 from rfl, integral_Tile.l1, if_pos (Int.ofNat_lt.2 hi'), tidx hy hy' hx hx' hW hW' (by omega) (by omega), if_pos g0, if_pos g1, if_pos (Int.natCast_nonneg i), if_pos (show (i : Int) < (above.length : Int) by omega), e1, e2, Option.bind_some,
      if_pos (Int.natCast_nonneg kk), if_pos (show (kk : Int) < (left.length : Int) by omega), if_pos (show (i : Int) < (top.length : Int) by omega), if_pos (show pix.length < 17592186044416 by omega), rd_setn (show i < above.length by omega), if_pos rfl, e3, wrap_in (n := (i : Int) + 1) (by omega) (by omega)]
    refine Eq.trans h3 ?_
    rw [List.append_assoc]
    rfl

theorem t0 {W H M L c x0 y0 x1 y1 : Int} {P left top : List Int} {n h : Nat} (hn : top.length = n) (hh : left.length = h) (hh5 : h ≤ 5) (hn6 : n ≤ 6)
    (hin : ∀ k i : Nat, k < h → i < n → 0 ≤ (y0 + (k : Int)) * W + x0 + (i : Int) ∧ (y0 + (k : Int)) * W + x0 + (i : Int) < (P.length : Int)) (hy : 0 ≤ y0) (hy' : y0 ≤ 5) (hx : 0 ≤ x0) (hx' : x0 ≤ 6) (hW : 1 ≤ W) (hW' : W ≤ 6)
    (hPv : ∀ j, 0 ≤ rd P j ∧ rd P j ≤ M) (hM : 0 ≤ M) (hM' : M ≤ 65535) (hl : ∀ j, 0 ≤ rd left j ∧ rd left j ≤ 2000000) (ht : ∀ j, 0 ≤ rd top j ∧ rd top j ≤ 2000000) (hc : 0 ≤ c ∧ c ≤ 2000000) (q1 q2 : Int) :
    ∀ (d K kk : Nat) (above pix : List Int), kk + d = h → above.length = n → (∀ j : Nat, j < n → rd above (j : Int) = AR W P x0 y0 (j + 1) kk) → pix.length + d * n ≤ 500 → 501 ≤ K →
      integral_Tile.l0 (K + d * (n + 2) + 1) left top c above (h : Int) (kk : Int) W H M P x0 y0 x1 y1 L (n : Int) q1 q2 pix =
        if ∀ v ∈ pix ++ rowsg (tg left top c W P x0 y0) 0 n d (kk : Int), 0 ≤ v ∧ v ≤ L then some ((n : Int), q1, q2, pix ++ rowsg (tg left top c W P x0 y0) 0 n d (kk : Int), 0) else some (0, 0, 0, ([] : List Int), 2)
  | 0, K, kk, above, pix, hk, ha, hr, hp, hK => by
    have hkk : kk = h := hk
    rw [hkk, Nat.zero_mul, Nat.add_zero, integral_Tile.l0, if_neg (Int.lt_irrefl _)]
    simp only [rowsg, List.append_nil]
    rw [in_spec K pix L (by omega) (by omega), Option.bind_some]
    by_cases g : ∀ v ∈ pix, 0 ≤ v ∧ v ≤ L
    · rw [decide_eq_true g, if_pos rfl, if_pos g]
    · rw [decide_eq_false g, if_neg Bool.false_ne_true, if_neg g]
  | d + 1, K, kk, above, pix, hk, ha, hr, hp, hK => by
    have hd : (d + 1) * n = d * n + n := Nat.succ_mul d n
    obtain ⟨above', h1, h2, h3⟩ := t1 (K + d * (n + 2) + 1) (x1 := x1) (y1 := y1) (H := H) (L := L) hn hh (show kk < h by omega) hh5 hn6 (hin kk · (by omega)) hy hy' hx hx' hW hW' hPv hM hM' hl ht hc (n : Int) q1 q2 n 0 above pix (Nat.zero_add n) ha (fun j hj => by rw [hr j hj, if_neg (Nat.not_lt_zero j)]) (by omega)
    have ih := t0 (x1 := x1) (y1 := y1) (H := H) (L := L) hn hh hh5 hn6 hin hy hy' hx hx' hW hW' hPv hM hM' hl ht hc q1 q2 d K (kk + 1) above' (pix ++ rowg (tg left top c W P x0 y0) (kk : Int) n 0) (by omega) h1 h2 (by rw [List.length_append, rowg_len]; omega) hK
    rw [show K + (d + 1) * (n + 2) + 1 = (K + d * (n + 2) + 1 + n + 1) + 1 by rw [Nat.succ_mul]; omega, integral_Tile.l0, if_pos (show (kk : Int) < (h : Int) by omega)]
    refine Eq.trans h3 (Eq.trans ih ?_)
    rw [List.append_assoc]
    rfl

theorem row_idx {W H x0 y0 x1 y1 : Int} {L : Nat} (hL : (L : Int) = W * H) (hW : 1 ≤ W) (hi : IN W H x0 y0 x1 y1) {k i : Nat} (hk : (k : Int) < y1 - y0) (hx : (i : Int) < x1 - x0) : 0 ≤ (y0 + (k : Int)) * W + x0 + (i : Int) ∧ (y0 + (k : Int)) * W + x0 + (i : Int) < (L : Int) := by
  obtain ⟨a0, a1⟩ := row_in (y := y0 + (k : Int)) (W := W) (H := H) (by omega) (by omega) (by omega)
  rw [hL]
  omega

/-- integral.Tile: behind the checks. -/
theorem tile_go (K : Nat) (hK : 2000 ≤ K) {W H M c x0 y0 x1 y1 : Int} {P left top : List Int} (hp : PV W H M P) (hW' : W ≤ 6) (hH' : H ≤ 5) (hM' : M ≤ 65535) (hi : IN W H x0 y0 x1 y1) (hl : (left.length : Int) = y1 - y0) (ht : (top.length : Int) = x1 - x0) :
    integral_Tile.f K W H M P x0 y0 x1 y1 left top c = if (0 ≤ c ∧ c ≤ W * H * M) ∧ (∀ v ∈ left, 0 ≤ v ∧ v ≤ W * H * M) ∧ (∀ v ∈ top, 0 ≤ v ∧ v ≤ W * H * M) then
      (if ∀ v ∈ rowsg (tg left top c W P x0 y0) 0 top.length left.length 0, 0 ≤ v ∧ v ≤ W * H * M then some ((top.length : Int), (left.length : Int), W * H * M, rowsg (tg left top c W P x0 y0) 0 top.length left.length 0, 0) else some (0, 0, 0, ([] : List Int), 2))
      else some (0, 0, 0, ([] : List Int), 2) := by
  have hS := hp.1
  have hPl : P.length ≤ 30 := by
    have := (mul_bd (x := W) (y := H) (B := 6) (C := 5) (by omega) (by omega) hW' hH').2
    have := hp.2.1
    omega
  obtain ⟨a0, a1⟩ := mul_bd (x := W) (y := H) (B := 6) (C := 5) (by omega) (by omega) hW' hH'
  obtain ⟨b0, b1⟩ := mul_bd (x := W * H) (y := M) (B := 30) (C := 65535) a0 (by omega) a1 hM'
  have hne : ¬ (x0 = 0 ∧ y0 = 0 ∧ x1 = 0 ∧ y1 = 0) := by omega
  obtain ⟨k, rfl⟩ : ∃ n, K = n + 1 + 1 + 1 + 1 := ⟨K - 4, by omega⟩
  unfold integral_Tile.f
  rw [check_ok _ hp hM' (by omega) (by omega), Option.bind_some, if_pos rfl, empty_eq, Option.bind_some, decide_eq_false hne, if_neg Bool.false_ne_true, inside_p _ hS.1 hS.2.1 hS.2.2.1 hS.2.2.2.1 hne, Option.bind_some, decide_eq_true hi, if_pos rfl,
    wrap_in (n := y1 - y0) (by omega) (by omega), if_pos hl, wrap_in (n := x1 - x0) (by omega) (by omega), bne_eq_false_iff_eq.2 ht, integral_Tile.j0, if_neg Bool.false_ne_true]
  unfold integral_shape.f
  rw [Option.bind_some]
  show ((integral_most.f (k + 1 + 1 + 1) W H M).bind _) = _
  rw [most_ok _ hS.1 hS.2.1 hS.2.2.1 hS.2.2.2.1 hS.2.2.2.2.2.1 hM', Option.bind_some, in_spec _ _ _ (by simp) (by simp only [List.length_singleton]; omega), Option.bind_some]
  simp only [List.mem_singleton, forall_eq]
  by_cases c1 : 0 ≤ c ∧ c ≤ W * H * M
  · rw [decide_eq_true c1, if_pos rfl, in_spec _ left _ (by omega) (by omega), Option.bind_some]
    by_cases c2 : ∀ v ∈ left, 0 ≤ v ∧ v ≤ W * H * M
    · rw [decide_eq_true c2, if_pos rfl, in_spec _ top _ (by omega) (by omega), Option.bind_some]
      by_cases c3 : ∀ v ∈ top, 0 ≤ v ∧ v ≤ W * H * M
      · have hn : top.length * left.length ≤ 6 * 5 := Nat.mul_le_mul (by omega) (by omega)
        have hn2 : left.length * (top.length + 2) ≤ 5 * 8 := Nat.mul_le_mul (by omega) (by omega)
        rw [decide_eq_true c3, integral_Tile.j1, if_neg (show ¬ (!true) = true by decide), if_pos (Int.natCast_nonneg _), if_pos (show ((top.length : Int) : Int).toNat ≤ 35184372088832 by omega), if_pos ⟨c1, c2, c3⟩, Int.toNat_natCast,
          show k + 1 + 1 = (k + 1 - left.length * (top.length + 2)) + left.length * (top.length + 2) + 1 by omega]
        refine (t0 (x1 := x1) (y1 := y1) (H := H) (L := W * H * M) rfl rfl (by omega) (by omega) (fun k i hk hx => row_idx hp.2.1 hS.1 hi (by omega) (by omega)) (by omega) (by omega) (by omega) (by omega) hS.1 hW' (rd_bd (by omega) hp.2.2) (by omega) hM'
          (fun j => by have := rd_bd b0 c2 j; omega) (fun j => by have := rd_bd b0 c3 j; omega) (by omega) (left.length : Int) (W * H * M) left.length _ 0 (List.replicate top.length 0) [] (Nat.zero_add _) List.length_replicate (fun j hj => ?_) (by rw [List.length_nil, Nat.mul_comm]; omega) (by omega)).trans ?_
        · simp only [rd, Int.toNat_natCast, List.getD_eq_getElem?_getD, List.getElem?_replicate, if_pos hj]
          rfl
        · rw [List.nil_append]; rfl
      · rw [decide_eq_false c3, integral_Tile.j1, if_pos (show (!false) = true by decide), if_neg (fun h => c3 h.2.2)]
    · rw [decide_eq_false c2, if_neg Bool.false_ne_true, integral_Tile.j1, if_pos rfl, if_neg (fun h => c2 h.2.1)]
  · rw [decide_eq_false c1, if_neg Bool.false_ne_true, integral_Tile.j1, if_pos rfl, if_neg (fun h => c1 h.1)]

theorem vloop_eq : ∀ (k : Nat) (l : List Int) (i a b m : Int), plane_Valid.l0 k l (l.length : Int) i a b m l = tilefarmref4_Valid.l0 k i a b m l
  | 0, _, _, _, _, _ => rfl
  | k + 1, l, i, a, b, m => by
    simp only [plane_Valid.l0, tilefarmref4_Valid.l0]
    by_cases c1 : i < (l.length : Int)
    · by_cases c2 : 0 ≤ i
      · simp only [if_pos c1, if_pos c2, vloop_eq k]
      · simp only [if_pos c1, if_neg c2]
    · simp only [if_neg c1]

theorem rsize_no {a b m : Int} (h : ¬ SZ a b m) : some false = some (decide (SZ a b m)) := by rw [decide_eq_false h]

theorem rsize_val (a b m : Int) : tilefarmref4_Size.f a b m = some (decide (SZ a b m)) := by
  unfold tilefarmref4_Size.f
  by_cases c1 : a ≥ 1
  · rw [if_pos c1]
    by_cases c2 : a ≤ 128
    · rw [if_pos c2]
      by_cases c3 : b ≥ 1
      · rw [if_pos c3]
        by_cases c4 : b ≤ 128
        · obtain ⟨b0, b1⟩ := mul_bd (x := a) (y := b) (B := 128) (C := 128) (by omega) (by omega) c2 c4
          rw [if_pos c4, wrap_in (n := a * b) (by omega) (by omega)]
          by_cases c5 : a * b ≤ 4096
          · rw [if_pos c5]
            by_cases c6 : m ≥ 1
            · rw [if_pos c6]
              exact congrArg some (decide_eq_decide.2 ⟨fun h => ⟨c1, c2, c3, c4, c5, c6, h⟩, fun h => h.2.2.2.2.2.2⟩)
            · rw [if_neg c6]; exact rsize_no (fun h => c6 h.2.2.2.2.2.1)
          · rw [if_neg c5]; exact rsize_no (fun h => c5 h.2.2.2.2.1)
        · rw [if_neg c4]; exact rsize_no (fun h => c4 h.2.2.2.1)
      · rw [if_neg c3]; exact rsize_no (fun h => c3 h.2.2.1)
    · rw [if_neg c2]; exact rsize_no (fun h => c2 h.2.1)
  · rw [if_neg c1]; exact rsize_no (fun h => c1 h.1)

theorem rvalid_same (k : Nat) (a b m : Int) (l : List Int) : tilefarmref4_Valid.f k a b m l = plane_Valid.f k a b m l := by
  have hj : ∀ k t, plane_Valid.j0 k t a b m l = tilefarmref4_Valid.j0 k t a b m l := by
    intro k t
    cases k with
    | zero => rfl
    | succ k => simp only [plane_Valid.j0, tilefarmref4_Valid.j0, vloop_eq k]
  unfold plane_Valid.f tilefarmref4_Valid.f
  rw [size_val, rsize_val]
  simp only [hj]


theorem same_loop (L : List Int) (hL : L.length ≤ 100000) (d : Nat) : ∀ (k i : Nat), i + d = L.length → d < k → tilefarmref4_Same.l0 k L L (i : Int) = some true := by
  induction d with
  | zero =>
    intro k i hi hk
    obtain ⟨k, rfl⟩ : ∃ m, k = m + 1 := ⟨k - 1, by omega⟩
    rw [tilefarmref4_Same.l0, if_neg (by omega)]
  | succ d ih =>
    intro k i hi hk
    obtain ⟨k, rfl⟩ : ∃ m, k = m + 1 := ⟨k - 1, by omega⟩
    rw [tilefarmref4_Same.l0, if_pos (by omega), if_pos (by omega), if_pos (by omega), if_pos rfl, wrap_in (n := (i : Int) + 1) (by omega) (by omega)]
    exact ih k (i + 1) (by omega) (by omega)

theorem same_eq (L : List Int) (hL : L.length ≤ 10000) (K : Nat) (hK : 20000 ≤ K) : tilefarmref4_Same.f K L L = some true := by
  unfold tilefarmref4_Same.f
  rw [if_pos rfl]
  exact same_loop L (by omega) L.length K 0 (by omega) (by omega)

theorem equal_eq (a b m : Int) (L : List Int) (hL : L.length ≤ 10000) (K : Nat) (hK : 20000 ≤ K) : tilefarmref4_Equal.f K a b m L a b m L = some true := by
  unfold tilefarmref4_Equal.f
  rw [if_pos rfl, if_pos rfl, if_pos rfl, same_eq L hL K hK]
  rfl


theorem inside_r {W H : Int} (hW : 1 ≤ W) (hW' : W ≤ 128) (hH : 1 ≤ H) (hH' : H ≤ 128) {a b c d : Int} (ha : V a b c d) (hz : ¬ (a = 0 ∧ b = 0 ∧ c = 0 ∧ d = 0)) : tilefarmref2_Inside.f a b c d 0 0 W H = some (decide (IN W H a b c d)) := by
  have hb : V 0 0 W H := .inr (by omega)
  unfold tilefarmref2_Inside.f tilefarmref2_Empty.f
  rw [ref_valid_eq, Option.bind_some, decide_eq_true ha, if_pos rfl, ref_valid_eq, Option.bind_some, decide_eq_true hb, if_pos rfl, Option.bind_some, if_neg (show ¬ (a == 0 && (b == 0 && (c == 0 && d == 0))) = true by simp only [Bool.and_eq_true, beq_iff_eq]; exact hz)]
  by_cases c1 : a ≥ 0
  · rw [if_pos c1]
    by_cases c2 : b ≥ 0
    · rw [if_pos c2]
      by_cases c3 : c ≤ W
      · rw [if_pos c3]; exact sd_iff ⟨fun h => by omega, fun h => by omega⟩
      · rw [if_neg c3]; exact sd_false (fun h => by omega)
    · rw [if_neg c2]; exact sd_false (fun h => by omega)
  · rw [if_neg c1]; exact sd_false (fun h => by omega)


theorem sane_eq : tilefarmlaw13_sane.f 60 = some true := by decide +kernel

/-! With enough rounds, a function answers r. -/
def EV {α : Type} (f : Nat → Option α) (r : α) : Prop := ∃ N, ∀ K, N ≤ K → f K = some r

theorem EV.step {α : Type} {f g : Nat → Option α} {r : α} (N : Nat) (h : ∀ K, N ≤ K → f (K + 1) = g K) : EV g r → EV f r := by
  rintro ⟨M, hM⟩
  refine ⟨max M N + 1, fun K hK => ?_⟩
  obtain ⟨k, rfl⟩ : ∃ k, K = k + 1 := ⟨K - 1, by omega⟩
  rw [h k (by omega)]
  exact hM k (by omega)

theorem EV.same {α : Type} {f g : Nat → Option α} {r : α} (N : Nat) (h : ∀ K, N ≤ K → f K = g K) : EV g r → EV f r := by
  rintro ⟨M, hM⟩
  refine ⟨max M N, fun K hK => ?_⟩
  rw [h K (by omega)]
  exact hM K (by omega)

theorem EV.now {α : Type} {f : Nat → Option α} {r : α} (N : Nat) (h : ∀ K, N ≤ K → f K = some r) : EV f r := ⟨N, h⟩

theorem rd_set {o : List Int} {i b : Int} {x : Int} (hi : 0 ≤ i) (hi' : i < (o.length : Int)) (hb : 0 ≤ b) : rd (o.set i.toNat x) b = if i = b then x else rd o b := by
  simp only [rd, List.getD_eq_getElem?_getD, List.getElem?_set]
  by_cases h : i = b
  · rw [if_pos (show i.toNat = b.toNat by omega), if_pos (show i.toNat < o.length by omega), if_pos h]
    rfl
  · rw [if_neg (show ¬ i.toNat = b.toNat by omega), if_neg h]

theorem rd_ext {a b : List Int} (hl : a.length = b.length) (h : ∀ i : Nat, i < a.length → rd a (i : Int) = rd b (i : Int)) : a = b := by
  refine List.ext_getElem hl (fun i h1 h2 => ?_)
  have := h i h1
  simpa [rd, h1, h2] using this

/-- The first c places of the plane are those of T, and are in the range. -/
structure AG (G T : List Int) (L : Int) (c : Nat) : Prop where
  len : G.length = T.length
  same : ∀ i : Nat, i < c → rd G (i : Int) = rd T (i : Int)
  ok : ∀ i : Nat, i < c → 0 ≤ rd T (i : Int) ∧ rd T (i : Int) ≤ L

theorem ag_step {G T : List Int} {L : Int} {c : Nat} (h : AG G T L c) (hc : c < T.length) (hv : 0 ≤ rd T (c : Int) ∧ rd T (c : Int) ≤ L) : AG (G.set ((c : Nat) : Int).toNat (rd T (c : Int))) T L (c + 1) := by
  refine ⟨by rw [List.length_set]; exact h.len, fun i hi => ?_, fun i hi => ?_⟩
  · rw [rd_set (by omega) (by rw [h.len]; omega) (by omega)]
    by_cases q : (c : Int) = (i : Int)
    · rw [if_pos q, q]
    · rw [if_neg q]; exact h.same i (by omega)
  · by_cases q : i = c
    · rw [q]; exact hv
    · exact h.ok i (by omega)

theorem ag_end {G T : List Int} {L : Int} (h : AG G T L T.length) : G = T ∧ ∀ v ∈ T, 0 ≤ v ∧ v ≤ L := by
  refine ⟨rd_ext h.len (fun i hi => h.same i (by rw [← h.len]; exact hi)), fun v hv => ?_⟩
  obtain ⟨i, hi, e⟩ := List.mem_iff_getElem.1 hv
  have := h.ok i hi
  rw [show rd T (i : Int) = v by simp [rd, hi, e]] at this
  exact this

theorem rd_in {T : List Int} {i : Nat} (hi : i < T.length) : rd T (i : Int) ∈ T := by
  have : rd T (i : Int) = T[i] := by simp [rd, hi]
  rw [this]
  exact List.getElem_mem hi

abbrev Er (c : Int) : Int × Int × Int × List Int × Int := (0, 0, 0, ([] : List Int), c)

/-- What is known of a tile's arguments. -/
structure TA (W H M c x0 y0 : Int) (P left top : List Int) (n h : Nat) : Prop where
  pv : PV W H M P
  w6 : W ≤ 6
  h5 : H ≤ 5
  m6 : M ≤ 65535
  hi : IN W H x0 y0 (x0 + (n : Int)) (y0 + (h : Int))
  ll : left.length = h
  tl : top.length = n
  c0 : 0 ≤ c ∧ c ≤ W * H * M
  l0 : ∀ v ∈ left, 0 ≤ v ∧ v ≤ W * H * M
  t0 : ∀ v ∈ top, 0 ≤ v ∧ v ≤ W * H * M

section
variable {W H M c x0 y0 x1 y1 : Int} {P left top : List Int} {n h : Nat}

theorem ta_nums (a : TA W H M c x0 y0 P left top n h) : n ≤ 6 ∧ h ≤ 5 ∧ 0 ≤ W * H * M ∧ W * H * M ≤ 1966050 ∧ 0 ≤ x0 ∧ x0 ≤ 6 ∧ 0 ≤ y0 ∧ y0 ≤ 5 ∧ 1 ≤ W ∧ 1 ≤ n ∧ 1 ≤ h := by
  have b := a.hi
  have w6 := a.w6
  have h5 := a.h5
  have hS := a.pv.1
  obtain ⟨a0, a1⟩ := mul_bd (x := W) (y := H) (B := 6) (C := 5) (by omega) (by omega) w6 h5
  obtain ⟨b0, b1⟩ := mul_bd (x := W * H) (y := M) (B := 30) (C := 65535) a0 (by omega) a1 a.m6
  omega

theorem tg_bd (a : TA W H M c x0 y0 P left top n h) (x y : Nat) : -10000000 ≤ rd left (y : Int) + rd top (x : Int) - c ∧ rd left (y : Int) + rd top (x : Int) - c ≤ 10000000 := by
  obtain ⟨z1, z2, z3, z4, -⟩ := ta_nums a
  have b1 := rd_bd z3 a.l0 (y : Int)
  have b2 := rd_bd z3 a.t0 (x : Int)
  have b3 := a.c0
  omega

theorem t4 (a : TA W H M c x0 y0 P left top n h) (L q2 : Int) (G : List Int) (x y j : Nat) (hx : x < n) (hy : y < h) (hj : j ≤ y) (s0 : Int) (hs : -20000000 ≤ s0 ∧ s0 ≤ 20000000) {r} (hnext : EV (fun K => tilefarmref13_Tile.l3 K left top c L (y : Int) (x : Int) (s0 + RS W P x0 (y0 + (j : Int)) (x + 1)) ((j + 1 : Nat) : Int) W H M P x0 y0 x1 y1 (n : Int) (h : Int) q2 G) r) :
    ∀ (d i : Nat), i + d = x + 1 → EV (fun K => tilefarmref13_Tile.l4 K left top c L (y : Int) (x : Int) (s0 + RS W P x0 (y0 + (j : Int)) i) (j : Int) (i : Int) W H M P x0 y0 x1 y1 (n : Int) (h : Int) q2 G) r
  | 0, i, hi => by
    have hi' : i = x + 1 := hi
    obtain ⟨z1, z2, -⟩ := ta_nums a
    refine EV.step 0 (fun K _ => ?_) hnext
    rw [hi', tilefarmref13_Tile.l4, if_neg (show ¬ ((x + 1 : Nat) : Int) ≤ (x : Int) by omega), wrap_in (n := (j : Int) + 1) (by omega) (by omega)]
    rfl
  | d + 1, i, hi => by
    obtain ⟨z1, z2, z3, z4, z5, z6, z7, z8, z9, z10, z11⟩ := ta_nums a
    have hM := a.pv.1
    have hPv := rd_bd (P := P) (M := M) (by omega) a.pv.2.2
    have b := a.hi
    obtain ⟨g0, g1⟩ := row_idx (L := P.length) a.pv.2.1 z9 b (k := j) (i := i) (by omega) (by omega)
    have r1 := RS_bd (W := W) hPv x0 (y0 + (j : Int)) (i + 1)
    have r2 : M * ((i + 1 : Nat) : Int) ≤ 65535 * 6 := (mul_bd (by omega) (by omega) a.m6 (by omega)).2
    have e : wrap64 ((s0 + RS W P x0 (y0 + (j : Int)) i) + rd P ((y0 + (j : Int)) * W + x0 + (i : Int))) = s0 + RS W P x0 (y0 + (j : Int)) (i + 1) := by
      rw [show (s0 + RS W P x0 (y0 + (j : Int)) i) + rd P ((y0 + (j : Int)) * W + x0 + (i : Int)) = s0 + RS W P x0 (y0 + (j : Int)) (i + 1) by rw [RS]; omega]
      exact wrap_in (by omega) (by omega)
    refine EV.step 0 (fun K _ => ?_) (t4 a L q2 G x y j hx hy hj s0 hs hnext d (i + 1) (by omega))
    rw [tilefarmref13_Tile.l4, if_pos (show (i : Int) ≤ (x : Int) by omega), tidx z7 z8 z5 z6 z9 a.w6 (by omega) (by omega), if_pos g0, if_pos g1, e, wrap_in (n := (i : Int) + 1) (by omega) (by omega)]
    rfl

theorem t3 (a : TA W H M c x0 y0 P left top n h) (L q2 : Int) (G : List Int) (x y : Nat) (hx : x < n) (hy : y < h) {r} (hnext : EV (fun K => tilefarmref13_Tile.l3 K left top c L (y : Int) (x : Int) (tg left top c W P x0 y0 (x : Int) (y : Int)) ((y + 1 : Nat) : Int) W H M P x0 y0 x1 y1 (n : Int) (h : Int) q2 G) r) :
    ∀ (d j : Nat), j + d = y + 1 → EV (fun K => tilefarmref13_Tile.l3 K left top c L (y : Int) (x : Int) (rd left (y : Int) + rd top (x : Int) - c + AR W P x0 y0 (x + 1) j) (j : Int) W H M P x0 y0 x1 y1 (n : Int) (h : Int) q2 G) r
  | 0, j, hj => by
    have hj' : j = y + 1 := hj
    rw [hj']
    exact hnext
  | d + 1, j, hj => by
    obtain ⟨z1, z2, -⟩ := ta_nums a
    have hM := a.pv.1
    have hPv := rd_bd (P := P) (M := M) (by omega) a.pv.2.2
    have b1 := AR_small (W := W) hPv (by omega) a.m6 x0 y0 (i := x + 1) (k := j) (by omega) (by omega)
    have b2 := tg_bd a x y
    have ih := t3 a L q2 G x y hx hy hnext d (j + 1) (by omega)
    have e : rd left (y : Int) + rd top (x : Int) - c + AR W P x0 y0 (x + 1) (j + 1) = rd left (y : Int) + rd top (x : Int) - c + AR W P x0 y0 (x + 1) j + RS W P x0 (y0 + (j : Int)) (x + 1) := by rw [AR]; omega
    rw [e] at ih
    have l := t4 a L q2 G x y j hx hy (by omega) (rd left (y : Int) + rd top (x : Int) - c + AR W P x0 y0 (x + 1) j) (by omega) ih (x + 1) 0 (Nat.zero_add _)
    rw [show RS W P x0 (y0 + (j : Int)) 0 = 0 from rfl, Int.add_zero] at l
    refine EV.step 0 (fun K _ => ?_) l
    rw [tilefarmref13_Tile.l3, if_pos (show (j : Int) ≤ (y : Int) by omega)]
    rfl

theorem cell_nums {x y n h l : Nat} (hx : x < n) (hy : y < h) (z1 : n ≤ 6) (z2 : h ≤ 5) (hl : l = h * n) : y * n + x < l ∧ wrap64 ((wrap64 ((y : Int) * (n : Int))) + (x : Int)) = ((y * n + x : Nat) : Int) ∧ wrap64 ((x : Int) + 1) = ((x + 1 : Nat) : Int) ∧ ¬ ((y + 1 : Nat) : Int) ≤ (y : Int) := by
  have hyn : (y + 1) * n ≤ h * n := Nat.mul_le_mul_right n hy
  rw [Nat.succ_mul] at hyn
  have hyn2 : h * n ≤ 5 * 6 := Nat.mul_le_mul z2 z1
  refine ⟨by omega, ?_, by rw [wrap_in (by omega) (by omega)]; rfl, by omega⟩
  rw [← Int.natCast_mul, wrap_in (n := ((y * n : Nat) : Int)) (by omega) (by omega), wrap_in (by omega) (by omega)]
  omega

theorem sum_nums {p q c L : Int} (hL : L ≤ 1966050) (hp : 0 ≤ p ∧ p ≤ L) (hq : 0 ≤ q ∧ q ≤ L) (hc : 0 ≤ c ∧ c ≤ L) : wrap64 ((wrap64 (p + q)) - c) = p + q - c := by
  rw [wrap_in (n := p + q) (by omega) (by omega), wrap_in (by omega) (by omega)]

theorem t_cell (a : TA W H M c x0 y0 P left top n h) (L q2 : Int) {G T : List Int} (hT : T.length = h * n) (hTr : ∀ y x : Nat, y < h → x < n → rd T ((y * n + x : Nat) : Int) = tg left top c W P x0 y0 (x : Int) (y : Int)) (x y : Nat) (hx : x < n) (hy : y < h) {r} (hbad : ¬ (∀ v ∈ T, 0 ≤ v ∧ v ≤ L) → r = Er 2)
    (hg : AG G T L (y * n + x)) (hnext : ∀ G', AG G' T L (y * n + x + 1) → EV (fun K => tilefarmref13_Tile.l2 K left top c L (y : Int) ((x + 1 : Nat) : Int) W H M P x0 y0 x1 y1 (n : Int) (h : Int) q2 G') r) :
    EV (fun K => tilefarmref13_Tile.l2 K left top c L (y : Int) (x : Int) W H M P x0 y0 x1 y1 (n : Int) (h : Int) q2 G) r := by
  obtain ⟨z1, z2, z3, z4, -⟩ := ta_nums a
  obtain ⟨hlt, e2, e3, e4⟩ := cell_nums hx hy z1 z2 hT
  have hv := hTr y x hy hx
  have e1 := sum_nums z4 (rd_bd z3 a.l0 (y : Int)) (rd_bd z3 a.t0 (x : Int)) a.c0
  have hxl : (x : Int) < (top.length : Int) := by rw [a.tl]; exact Int.ofNat_lt.2 hx
  have hyl : (y : Int) < (left.length : Int) := by rw [a.ll]; exact Int.ofNat_lt.2 hy
  have hgl : ((y * n + x : Nat) : Int) < (G.length : Int) := by rw [hg.len]; exact Int.ofNat_lt.2 hlt
  refine EV.step 0 (fun K _ => ?_) (t3 (x1 := x1) (y1 := y1) a L q2 G x y hx hy (r := r) ?_ (y + 1) 0 (Nat.zero_add _))
  · rw [tilefarmref13_Tile.l2, if_pos (Int.ofNat_lt.2 hx), if_pos (Int.natCast_nonneg y), if_pos hyl, if_pos (Int.natCast_nonneg x), if_pos hxl, e1, show AR W P x0 y0 (x + 1) 0 = 0 from rfl, Int.add_zero]
    rfl
  · by_cases c1 : 0 ≤ tg left top c W P x0 y0 (x : Int) (y : Int) ∧ tg left top c W P x0 y0 (x : Int) (y : Int) ≤ L
    · have hn := hnext _ (ag_step hg hlt (by rw [hv]; exact c1))
      rw [hv] at hn
      refine EV.step 0 (fun K _ => ?_) hn
      rw [tilefarmref13_Tile.l3, if_neg e4, if_neg (Int.not_lt.2 c1.1), if_neg (Int.not_lt.2 c1.2), e2, if_pos (Int.natCast_nonneg _), if_pos hgl, e3]
    · have hb := hbad (fun q => c1 (by rw [← hv]; exact q _ (rd_in hlt)))
      refine EV.now 1 (fun K hK => ?_)
      obtain ⟨k, rfl⟩ : ∃ k, K = k + 1 := ⟨K - 1, by omega⟩
      rw [hb, tilefarmref13_Tile.l3, if_neg e4]
      by_cases c2 : tg left top c W P x0 y0 (x : Int) (y : Int) < 0
      · rw [if_pos c2]
      · rw [if_neg c2, if_pos (show tg left top c W P x0 y0 (x : Int) (y : Int) > L from Int.not_le.1 (fun q => c1 ⟨Int.not_lt.1 c2, q⟩))]

theorem t2 (a : TA W H M c x0 y0 P left top n h) (L q2 : Int) {T : List Int} (hT : T.length = h * n) (hTr : ∀ y x : Nat, y < h → x < n → rd T ((y * n + x : Nat) : Int) = tg left top c W P x0 y0 (x : Int) (y : Int)) (y : Nat) (hy : y < h) {r} (hbad : ¬ (∀ v ∈ T, 0 ≤ v ∧ v ≤ L) → r = Er 2)
    (hnext : ∀ G', AG G' T L ((y + 1) * n) → EV (fun K => tilefarmref13_Tile.l1 K left top c L ((y + 1 : Nat) : Int) W H M P x0 y0 x1 y1 (n : Int) (h : Int) q2 G') r) :
    ∀ (d x : Nat) (G : List Int), x + d = n → AG G T L (y * n + x) → EV (fun K => tilefarmref13_Tile.l2 K left top c L (y : Int) (x : Int) W H M P x0 y0 x1 y1 (n : Int) (h : Int) q2 G) r
  | 0, x, G, hx, hg => by
    have hx' : x = n := hx
    obtain ⟨z1, z2, -⟩ := ta_nums a
    rw [hx'] at hg ⊢
    refine EV.step 0 (fun K _ => ?_) (hnext G (by rw [Nat.succ_mul]; exact hg))
    rw [tilefarmref13_Tile.l2, if_neg (Int.lt_irrefl _), wrap_in (n := (y : Int) + 1) (by omega) (by omega)]
    rfl
  | d + 1, x, G, hx, hg => t_cell a L q2 hT hTr x y (by omega) hy hbad hg (fun G' hg' => t2 a L q2 hT hTr y hy hbad hnext d (x + 1) G' (by omega) hg')

theorem t1r (a : TA W H M c x0 y0 P left top n h) (L : Int) {T : List Int} (hT : T.length = h * n) (hTr : ∀ y x : Nat, y < h → x < n → rd T ((y * n + x : Nat) : Int) = tg left top c W P x0 y0 (x : Int) (y : Int)) {r} (hbad : ¬ (∀ v ∈ T, 0 ≤ v ∧ v ≤ L) → r = Er 2) (hgood : (∀ v ∈ T, 0 ≤ v ∧ v ≤ L) → r = ((n : Int), (h : Int), L, T, 0)) :
    ∀ (d y : Nat) (G : List Int), y + d = h → AG G T L (y * n) → EV (fun K => tilefarmref13_Tile.l1 K left top c L (y : Int) W H M P x0 y0 x1 y1 (n : Int) (h : Int) L G) r
  | 0, y, G, hy, hg => by
    have hy' : y = h := hy
    rw [hy', ← hT] at hg
    obtain ⟨e1, e2⟩ := ag_end hg
    refine EV.now 1 (fun K hK => ?_)
    obtain ⟨k, rfl⟩ : ∃ k, K = k + 1 := ⟨K - 1, by omega⟩
    rw [hy', hgood e2, e1, tilefarmref13_Tile.l1, if_neg (Int.lt_irrefl _)]
  | d + 1, y, G, hy, hg => by
    refine EV.step 0 (fun K _ => ?_) (t2 a L L hT hTr y (by omega) hbad (fun G' hg' => t1r a L hT hTr hbad hgood d (y + 1) G' (by omega) hg') n 0 G (Nat.zero_add _) (by rw [Nat.add_zero]; exact hg))
    rw [tilefarmref13_Tile.l1, if_pos (show (y : Int) < (h : Int) by omega)]
    rfl

/-! The checks in front. -/
theorem t0r (L : Int) (left top : List Int) (c : Int) (all : List Int) (hl : all.length ≤ 1000) {r} (hgood : (∀ v ∈ all, 0 ≤ v ∧ v ≤ L) → EV (fun K => (tilefarmref4_New.f (top.length : Int) (left.length : Int) L).bind fun bt342 => (tilefarmref13_Tile.l1 K left top c L 0 W H M P x0 y0 x1 y1 bt342.1 bt342.2.1 bt342.2.2.1 bt342.2.2.2.1)) r) (hbad : ¬ (∀ v ∈ all, 0 ≤ v ∧ v ≤ L) → r = Er 2) :
    ∀ (d i : Nat), i + d = all.length → (∀ j : Nat, j < i → 0 ≤ rd all (j : Int) ∧ rd all (j : Int) ≤ L) → EV (fun K => tilefarmref13_Tile.l0 K left top c L all (i : Int) W H M P x0 y0 x1 y1) r
  | 0, i, hi, hok => by
    have hi' : i = all.length := hi
    refine EV.step 0 (fun K _ => ?_) (hgood (fun v hv => by
      obtain ⟨j, hj, e⟩ := List.mem_iff_getElem.1 hv
      have := hok j (by omega)
      rw [show rd all (j : Int) = v by simp [rd, hj, e]] at this
      exact this))
    rw [hi', tilefarmref13_Tile.l0, if_neg (Int.lt_irrefl _)]
  | d + 1, i, hi, hok => by
    have hi' : i < all.length := by omega
    by_cases c1 : 0 ≤ rd all (i : Int) ∧ rd all (i : Int) ≤ L
    · refine EV.step 0 (fun K _ => ?_) (t0r L left top c all hl hgood hbad d (i + 1) (by omega) (fun j hj => by
        by_cases q : j = i
        · rw [q]; exact c1
        · exact hok j (by omega)))
      rw [tilefarmref13_Tile.l0, if_pos (Int.ofNat_lt.2 hi'), if_pos (Int.natCast_nonneg i), if_neg (Int.not_lt.2 c1.1), if_neg (Int.not_lt.2 c1.2), wrap_in (n := (i : Int) + 1) (by omega) (by omega)]
      rfl
    · have hb := hbad (fun q => c1 (q _ (rd_in hi')))
      refine EV.now 1 (fun K hK => ?_)
      obtain ⟨k, rfl⟩ : ∃ k, K = k + 1 := ⟨K - 1, by omega⟩
      rw [hb, tilefarmref13_Tile.l0, if_pos (Int.ofNat_lt.2 hi'), if_pos (Int.natCast_nonneg i)]
      by_cases c2 : rd all (i : Int) < 0
      · rw [if_pos c2]
      · rw [if_neg c2, if_pos (show rd all (i : Int) > L from Int.not_le.1 (fun q => c1 ⟨Int.not_lt.1 c2, q⟩))]

theorem rmul_ok {a b : Int} (ha : 1 ≤ a) (hb : 1 ≤ b) (hab : a * b ≤ 4294967296) : tilefarmref1_Mul.f a b 4294967296 = some (a * b, true) := by
  have h0 : 0 ≤ a * b := Int.mul_nonneg (by omega) (by omega)
  have hq : 0 ≤ 4294967296 / b := Int.ediv_nonneg (by omega) (by omega)
  have hq' : 4294967296 / b ≤ 4294967296 := Int.ediv_le_self b (by omega)
  have hle : a ≤ 4294967296 / b := (Int.le_ediv_iff_mul_le (by omega)).2 hab
  unfold tilefarmref1_Mul.f
  rw [if_neg (show ¬ a < 0 by omega), if_neg (show ¬ b < 0 by omega), if_neg (show ¬ (4294967296 : Int) < 0 by decide), if_pos (show b > 0 by omega), if_neg (show ¬ b = 0 by omega), Int.tdiv_eq_ediv_of_nonneg (by decide), wrap_in (n := 4294967296 / b) (by omega) (by omega), if_neg (show ¬ a > 4294967296 / b by omega), wrap_in (n := a * b) (by omega) (by omega)]

theorem rmost_ok {W H M : Int} (hW : 1 ≤ W) (hW' : W ≤ 6) (hH : 1 ≤ H) (hH' : H ≤ 5) (hM : 1 ≤ M) (hM' : M ≤ 65535) : tilefarmref13_Most.f W H M = some (W * H * M, true) := by
  obtain ⟨a0, a1⟩ := mul_bd (x := W) (y := H) (B := 6) (C := 5) (by omega) (by omega) hW' hH'
  obtain ⟨b0, b1⟩ := mul_bd (x := W * H) (y := M) (B := 30) (C := 65535) a0 (by omega) a1 hM'
  have h1 : 1 * 1 ≤ W * H := Int.mul_le_mul hW hH (by decide) (by omega)
  unfold tilefarmref13_Most.f
  rw [rmul_ok hW hH (by omega), Option.bind_some, if_pos rfl, if_neg (show ¬ W < 1 by omega), if_neg (show ¬ H < 1 by omega), if_neg (show ¬ M < 1 by omega), rmul_ok (show 1 ≤ W * H by omega) hM (by omega), Option.bind_some]

theorem rfull_eq (a b c d : Int) : tilefarmref2_Full.f a b c d = some (decide (V a b c d ∧ ¬ (a = 0 ∧ b = 0 ∧ c = 0 ∧ d = 0))) := by
  unfold tilefarmref2_Full.f tilefarmref2_Empty.f
  rw [ref_valid_eq, Option.bind_some]
  by_cases hV : V a b c d
  · rw [decide_eq_true hV, if_pos rfl, Option.bind_some]
    congr 1
    rw [Bool.eq_iff_iff]
    simp only [Bool.not_eq_true', Bool.and_eq_false_iff, beq_eq_false_iff_ne, decide_eq_true_eq]
    constructor
    · intro h; exact ⟨hV, by omega⟩
    · intro h; have := h.2; omega
  · rw [decide_eq_false hV, if_neg Bool.false_ne_true, decide_eq_false (fun h => hV h.1)]

theorem whm (hp : PV W H M P) (hW' : W ≤ 6) (hH' : H ≤ 5) (hM' : M ≤ 65535) : 1 ≤ W * H ∧ W * H ≤ 30 ∧ 0 ≤ W * H * M ∧ W * H * M ≤ 1966050 ∧ P.length ≤ 30 := by
  have hS := hp.1
  have h1 : 1 * 1 ≤ W * H := Int.mul_le_mul hS.1 hS.2.2.1 (by decide) (by omega)
  obtain ⟨a0, a1⟩ := mul_bd (x := W) (y := H) (B := 6) (C := 5) (by omega) (by omega) hW' hH'
  obtain ⟨b0, b1⟩ := mul_bd (x := W * H) (y := M) (B := 30) (C := 65535) a0 (by omega) a1 hM'
  have := hp.2.1
  omega

/-- What a tile is. -/
def TR (W H M c x0 y0 x1 y1 : Int) (P left top : List Int) : Int × Int × Int × List Int × Int :=
  if (left.length : Int) = y1 - y0 ∧ (top.length : Int) = x1 - x0 then
    (if (0 ≤ c ∧ c ≤ W * H * M) ∧ (∀ v ∈ left, 0 ≤ v ∧ v ≤ W * H * M) ∧ (∀ v ∈ top, 0 ≤ v ∧ v ≤ W * H * M) then
      (if ∀ v ∈ rowsg (tg left top c W P x0 y0) 0 top.length left.length 0, 0 ≤ v ∧ v ≤ W * H * M then ((top.length : Int), (left.length : Int), W * H * M, rowsg (tg left top c W P x0 y0) 0 top.length left.length 0, 0) else Er 2)
      else Er 2)
  else Er 8

theorem tile_p (hp : PV W H M P) (hW' : W ≤ 6) (hH' : H ≤ 5) (hM' : M ≤ 65535) (hi : IN W H x0 y0 x1 y1) : EV (fun K => integral_Tile.f K W H M P x0 y0 x1 y1 left top c) (TR W H M c x0 y0 x1 y1 P left top) := by
  by_cases hl : (left.length : Int) = y1 - y0 ∧ (top.length : Int) = x1 - x0
  · refine EV.now 2000 (fun K hK => ?_)
    rw [tile_go K hK hp hW' hH' hM' hi hl.1 hl.2]
    unfold TR
    rw [if_pos hl]
    by_cases c1 : (0 ≤ c ∧ c ≤ W * H * M) ∧ (∀ v ∈ left, 0 ≤ v ∧ v ≤ W * H * M) ∧ (∀ v ∈ top, 0 ≤ v ∧ v ≤ W * H * M)
    · rw [if_pos c1, if_pos c1]
      by_cases c2 : ∀ v ∈ rowsg (tg left top c W P x0 y0) 0 top.length left.length 0, 0 ≤ v ∧ v ≤ W * H * M
      · rw [if_pos c2, if_pos c2]
      · rw [if_neg c2, if_neg c2]
    · rw [if_neg c1, if_neg c1]
  · refine EV.now 2000 (fun K hK => ?_)
    obtain ⟨k, rfl⟩ : ∃ n, K = n + 1 + 1 + 1 + 1 := ⟨K - 4, by omega⟩
    have hS := hp.1
    obtain ⟨w1, w2, w3, w4, w5⟩ := whm hp hW' hH' hM'
    have hne : ¬ (x0 = 0 ∧ y0 = 0 ∧ x1 = 0 ∧ y1 = 0) := by omega
    unfold integral_Tile.f TR
    rw [if_neg hl, check_ok _ hp hM' (by omega) (by omega), Option.bind_some, if_pos rfl, empty_eq, Option.bind_some, decide_eq_false hne, if_neg Bool.false_ne_true, inside_p _ hS.1 hS.2.1 hS.2.2.1 hS.2.2.2.1 hne, Option.bind_some, decide_eq_true hi, if_pos rfl, wrap_in (n := y1 - y0) (by omega) (by omega)]
    by_cases c1 : (left.length : Int) = y1 - y0
    · rw [if_pos c1, wrap_in (n := x1 - x0) (by omega) (by omega), bne_iff_ne.2 (fun q => hl ⟨c1, q⟩), integral_Tile.j0, if_pos rfl]
    · rw [if_neg c1, integral_Tile.j0, if_pos rfl]

theorem new_ok {n h : Nat} (hn : 1 ≤ n) (hn' : n ≤ 6) (hh : 1 ≤ h) (hh' : h ≤ 5) {L : Int} (hL : 1 ≤ L) (hL' : L ≤ 4294967296) : tilefarmref4_New.f (n : Int) (h : Int) L = some ((n : Int), (h : Int), L, List.replicate (n * h) 0, true) := by
  have h1 : n * h ≤ 6 * 5 := Nat.mul_le_mul hn' hh'
  have hc : (n : Int) * (h : Int) = ((n * h : Nat) : Int) := (Int.natCast_mul n h).symm
  unfold tilefarmref4_New.f
  rw [rsize_val, decide_eq_true (show SZ (n : Int) (h : Int) L from ⟨by omega, by omega, by omega, by omega, by omega, hL, hL'⟩), Option.bind_some, if_pos rfl, hc, wrap_in (n := ((n * h : Nat) : Int)) (by omega) (by omega), if_pos (Int.natCast_nonneg _), Int.toNat_natCast, if_pos (show n * h ≤ 35184372088832 by omega)]

theorem all_iff {Q : Int → Prop} (c : Int) (left top : List Int) : (∀ v ∈ (([c] : List Int) ++ left) ++ top, Q v) ↔ (Q c ∧ (∀ v ∈ left, Q v) ∧ (∀ v ∈ top, Q v)) := by
  simp only [List.mem_append, List.mem_singleton]
  constructor
  · intro h
    exact ⟨h c (.inl (.inl rfl)), fun v hv => h v (.inl (.inr hv)), fun v hv => h v (.inr hv)⟩
  · rintro ⟨h1, h2, h3⟩ v ((h | h) | h)
    · rw [h]; exact h1
    · exact h2 v h
    · exact h3 v h

theorem tile_r (hp : PV W H M P) (hW' : W ≤ 6) (hH' : H ≤ 5) (hM' : M ≤ 65535) (hi : IN W H x0 y0 x1 y1) : EV (fun K => tilefarmref13_Tile.f K W H M P x0 y0 x1 y1 left top c) (TR W H M c x0 y0 x1 y1 P left top) := by
  have hS := hp.1
  obtain ⟨w1, w2, w3, w4, w5⟩ := whm hp hW' hH' hM'
  have hne : ¬ (x0 = 0 ∧ y0 = 0 ∧ x1 = 0 ∧ y1 = 0) := by omega
  have hV : V x0 y0 x1 y1 := .inr (by omega)
  have front : ∀ K, 100 ≤ K → tilefarmref13_Tile.f K W H M P x0 y0 x1 y1 left top c = (if (left.length : Int) = y1 - y0 then tilefarmref13_Tile.j0 K left top c (W * H * M) ((top.length : Int) != x1 - x0) W H M P x0 y0 x1 y1 else tilefarmref13_Tile.j0 K left top c (W * H * M) true W H M P x0 y0 x1 y1) := fun K hK => by
    unfold tilefarmref13_Tile.f tilefarmref13_check.f tilefarmref4_Cover.f
    rw [rvalid_same, pvalid_spec K W H M P (by omega) (by omega), decide_eq_true hp, Option.bind_some, if_pos rfl, rmost_ok hS.1 hW' hS.2.2.1 hH' hS.2.2.2.2.2.1 hM', Option.bind_some, if_pos rfl, Option.bind_some, if_pos rfl, rfull_eq, decide_eq_true (show V x0 y0 x1 y1 ∧ _ from ⟨hV, hne⟩), Option.bind_some, if_pos rfl, Option.bind_some, inside_r hS.1 hS.2.1 hS.2.2.1 hS.2.2.2.1 hV hne, Option.bind_some, decide_eq_true hi, if_pos rfl, wrap_in (n := y1 - y0) (by omega) (by omega), wrap_in (n := x1 - x0) (by omega) (by omega)]
  by_cases hl : (left.length : Int) = y1 - y0 ∧ (top.length : Int) = x1 - x0
  · obtain ⟨hl1, hl2⟩ := hl
    refine EV.same 100 (fun K hK => by rw [front K hK, if_pos hl1, bne_eq_false_iff_eq.2 hl2]) ?_
    have hall := all_iff (Q := fun v => 0 ≤ v ∧ v ≤ W * H * M) c left top
    refine EV.step 0 (fun K _ => ?_) (t0r (W := W) (H := H) (M := M) (P := P) (x0 := x0) (y0 := y0) (x1 := x1) (y1 := y1) (W * H * M) left top c ((([c] : List Int) ++ left) ++ top) (by simp only [List.length_append, List.length_singleton]; omega) (r := TR W H M c x0 y0 x1 y1 P left top) ?_ ?_ _ 0 (Nat.zero_add _) (fun j hj => absurd hj (Nat.not_lt_zero j)))
    · rw [tilefarmref13_Tile.j0, if_neg Bool.false_ne_true, Option.bind_some, if_pos (show ([c] : List Int).length + left.length < 17592186044416 by rw [List.length_singleton]; omega), Option.bind_some, if_pos (show (([c] : List Int) ++ left).length + top.length < 17592186044416 by rw [List.length_append, List.length_singleton]; omega)]
      rfl
    · intro hok
      obtain ⟨k1, k2, k3⟩ := hall.1 hok
      obtain ⟨n, hn⟩ : ∃ n, top.length = n := ⟨_, rfl⟩
      obtain ⟨h, hh⟩ : ∃ h, left.length = h := ⟨_, rfl⟩
      have e1 : x1 = x0 + (n : Int) := by omega
      have e2 : y1 = y0 + (h : Int) := by omega
      have hin : IN W H x0 y0 (x0 + (n : Int)) (y0 + (h : Int)) := by rw [← e1, ← e2]; exact hi
      have a : TA W H M c x0 y0 P left top n h := ⟨hp, hW', hH', hM', hin, hh, hn, k1, k2, k3⟩
      obtain ⟨z1, z2, -, -, -, -, -, -, -, z10, z11⟩ := ta_nums a
      have hM1 := hS.2.2.2.2.2.1
      have hL1 : 1 * 1 ≤ W * H * M := Int.mul_le_mul w1 hM1 (by decide) (by omega)
      have hTR : TR W H M c x0 y0 x1 y1 P left top = (if ∀ v ∈ rowsg (tg left top c W P x0 y0) 0 n h 0, 0 ≤ v ∧ v ≤ W * H * M then ((n : Int), (h : Int), W * H * M, rowsg (tg left top c W P x0 y0) 0 n h 0, 0) else Er 2) := by
        unfold TR
        rw [if_pos ⟨hl1, hl2⟩, if_pos ⟨k1, k2, k3⟩, hn, hh]
      rw [hTR, hn, hh]
      refine EV.same 0 (fun K _ => by rw [new_ok z10 z1 z11 z2 (by omega) (by omega), Option.bind_some]) ?_
      exact t1r a (W * H * M) (T := rowsg (tg left top c W P x0 y0) 0 n h 0) (rowsg_len _ _ _ _ _) (fun y x hy hx => by rw [rowsg_rd _ _ _ _ _ y x hy hx, Int.zero_add, Int.zero_add]) (fun q => if_neg q) (fun q => if_pos q) h 0 (List.replicate (n * h) 0) (Nat.zero_add _) ⟨by rw [List.length_replicate, rowsg_len, Nat.mul_comm], fun i hi => by omega, fun i hi => by omega⟩
    · intro hno
      unfold TR
      rw [if_pos ⟨hl1, hl2⟩, if_neg (fun q => hno (hall.2 ⟨q.1, q.2.1, q.2.2⟩))]
  · refine EV.same 100 (fun K hK => front K hK) ?_
    refine EV.now 1 (fun K hK => ?_)
    obtain ⟨k, rfl⟩ : ∃ k, K = k + 1 := ⟨K - 1, by omega⟩
    unfold TR
    rw [if_neg hl]
    by_cases c1 : (left.length : Int) = y1 - y0
    · rw [if_pos c1, bne_iff_ne.2 (fun q => hl ⟨c1, q⟩), tilefarmref13_Tile.j0, if_pos rfl]
    · rw [if_neg c1, tilefarmref13_Tile.j0, if_pos rfl]

theorem TR_len (hp : PV W H M P) (hW' : W ≤ 6) (hH' : H ≤ 5) (hM' : M ≤ 65535) (hi : IN W H x0 y0 x1 y1) : (TR W H M c x0 y0 x1 y1 P left top).2.2.2.1.length ≤ 10000 := by
  unfold TR
  by_cases hl : (left.length : Int) = y1 - y0 ∧ (top.length : Int) = x1 - x0
  · rw [if_pos hl]
    split
    · split
      · show (rowsg _ 0 top.length left.length 0).length ≤ 10000
        have : left.length * top.length ≤ 5 * 6 := Nat.mul_le_mul (by omega) (by omega)
        rw [rowsg_len]
        omega
      · exact Nat.zero_le _
    · exact Nat.zero_le _
  · rw [if_neg hl]; exact Nat.zero_le _

/-- The law's comparison of one tile, with enough rounds. -/
theorem cmp_ok (hp : PV W H M P) (hW' : W ≤ 6) (hH' : H ≤ 5) (hM' : M ≤ 65535) (hi : IN W H x0 y0 x1 y1) {g : Nat → Option Bool} {r : Bool} (hg : EV g r) :
    EV (fun K => (integral_Tile.f K W H M P x0 y0 x1 y1 left top c).bind fun bt390 => ((tilefarmref13_Tile.f K W H M P x0 y0 x1 y1 left top c).bind fun bt398 => ((tilefarmref4_Equal.f K bt390.1 bt390.2.1 bt390.2.2.1 bt390.2.2.2.1 bt398.1 bt398.2.1 bt398.2.2.1 bt398.2.2.2.1).bind fun t406 => (if t406 = true then (if bt390.2.2.2.2 = bt398.2.2.2.2 then g K else (some false)) else (some false))))) r := by
  obtain ⟨N1, h1⟩ := tile_p (left := left) (top := top) (c := c) hp hW' hH' hM' hi
  obtain ⟨N2, h2⟩ := tile_r (left := left) (top := top) (c := c) hp hW' hH' hM' hi
  refine EV.same (max (max N1 N2) 20000) (fun K hK => ?_) hg
  have e1 := h1 K (by omega)
  have e2 := h2 K (by omega)
  simp only at e1 e2
  rw [e1, Option.bind_some, e2, Option.bind_some, equal_eq _ _ _ _ (TR_len hp hW' hH' hM' hi) K (by omega), Option.bind_some, if_pos rfl, if_pos rfl]

/-! The law. -/
theorem ll2 (t : List Int) (ht : t.length ≤ 4611686018427387904) (hp : PV W H M P) (hW' : W ≤ 6) (hH' : H ≤ 5) (hM' : M ≤ 65535) (hi : IN W H x0 y0 x1 y1) (l1 l2 : List Int) (a3 i : Int) (i0 : 0 ≤ i) (i4 : i < 4) (hnext : ∀ s, 0 ≤ s → EV (fun K => tilefarmlaw13_IntegralTiles.l0 K l1 l2 a3 (i + 1) t s) true) (left : List Int) : ∀ (d : Nat) (x s : Int) (top : List Int), x + (d : Int) = x1 → 0 ≤ s → top.length + d ≤ 1000 →
    EV (fun K => tilefarmlaw13_IntegralTiles.l2 K l1 l2 a3 i left top x t s W H M P x0 y0 x1 y1) true
  | 0, x, s, top, hx, hs, htop => by
    obtain ⟨u, u1, u2, u3, u4⟩ := next_o t s 300 hs ht (by omega) (by omega)
    obtain ⟨v, v1, -, v3⟩ := pick_o t u.2 [0, u.1, (-1)] u4 ht (by simp) (by simp)
    by_cases c3 : i = 3
    · refine EV.step 0 (fun K _ => ?_) (cmp_ok (left := l1) (top := l2) (c := a3) hp hW' hH' hM' hi (hnext v.2 v3))
      rw [tilefarmlaw13_IntegralTiles.l2, if_neg (show ¬ x < x1 by omega), u1, Option.bind_some, v1, Option.bind_some, if_pos c3, wrap_in (n := i + 1) (by omega) (by omega)]
    · refine EV.step 0 (fun K _ => ?_) (cmp_ok (left := left) (top := top) (c := v.1) hp hW' hH' hM' hi (hnext v.2 v3))
      rw [tilefarmlaw13_IntegralTiles.l2, if_neg (show ¬ x < x1 by omega), u1, Option.bind_some, v1, Option.bind_some, if_neg c3, wrap_in (n := i + 1) (by omega) (by omega)]
  | d + 1, x, s, top, hx, hs, htop => by
    obtain ⟨u, u1, u2, u3, u4⟩ := next_o t s 600 hs ht (by omega) (by omega)
    refine EV.step 0 (fun K _ => ?_) (ll2 t ht hp hW' hH' hM' hi l1 l2 a3 i i0 i4 hnext left d (x + 1) u.2 (top ++ [u.1]) (by omega) u4 (by rw [List.length_append, List.length_singleton]; omega))
    rw [tilefarmlaw13_IntegralTiles.l2, if_pos (show x < x1 by omega), u1, Option.bind_some, if_pos (show top.length < 17592186044416 by omega), wrap_in (n := x + 1) (by omega) (by omega)]

theorem ll1 (t : List Int) (ht : t.length ≤ 4611686018427387904) (hp : PV W H M P) (hW' : W ≤ 6) (hH' : H ≤ 5) (hM' : M ≤ 65535) (hi : IN W H x0 y0 x1 y1) (l1 l2 : List Int) (a3 i : Int) (i0 : 0 ≤ i) (i4 : i < 4) (hnext : ∀ s, 0 ≤ s → EV (fun K => tilefarmlaw13_IntegralTiles.l0 K l1 l2 a3 (i + 1) t s) true) : ∀ (d : Nat) (y s : Int) (left : List Int), y + (d : Int) = y1 + 1 → 0 ≤ y → 0 ≤ s → left.length + d ≤ 1000 →
    EV (fun K => tilefarmlaw13_IntegralTiles.l1 K l1 l2 a3 i left y t s W H M P x0 y0 x1 y1) true
  | d, y, s, left, hy, hy0, hs, hleft => by
    obtain ⟨u, u1, u2, u3, u4⟩ := next_o t s 12 hs ht (by omega) (by omega)
    have q0 : 0 ≤ u.1 / 11 := Int.ediv_nonneg u2 (by decide)
    have q1 : u.1 / 11 ≤ 1 := by omega
    have eq : wrap64 (y1 + (wrap64 (Int.tdiv u.1 11))) = y1 + u.1 / 11 := by
      rw [Int.tdiv_eq_ediv_of_nonneg u2, wrap_in (n := u.1 / 11) (by omega) (by omega), wrap_in (by omega) (by omega)]
    by_cases c1 : y < y1 + u.1 / 11
    · cases d with
      | zero => omega
      | succ d =>
        obtain ⟨v, v1, v2, v3, v4⟩ := next_o t u.2 600 u4 ht (by omega) (by omega)
        refine EV.step 0 (fun K _ => ?_) (ll1 t ht hp hW' hH' hM' hi l1 l2 a3 i i0 i4 hnext d (y + 1) v.2 (left ++ [v.1]) (by omega) (by omega) v4 (by rw [List.length_append, List.length_singleton]; omega))
        rw [tilefarmlaw13_IntegralTiles.l1, u1, Option.bind_some, eq, if_pos c1, v1, Option.bind_some, if_pos (show left.length < 17592186044416 by omega), wrap_in (n := y + 1) (by omega) (by omega)]
    · refine EV.step 0 (fun K _ => ?_) (ll2 t ht hp hW' hH' hM' hi l1 l2 a3 i i0 i4 hnext left (x1 - x0).toNat x0 u.2 [] (by omega) u4 (by rw [List.length_nil]; omega))
      rw [tilefarmlaw13_IntegralTiles.l1, u1, Option.bind_some, eq, if_neg c1]
end

theorem ll0 (t : List Int) (ht : t.length ≤ 4611686018427387904) (l1 l2 : List Int) (a3 : Int) : ∀ (d : Nat) (i s : Int), i + (d : Int) = 4 → 0 ≤ i → 0 ≤ s → EV (fun K => tilefarmlaw13_IntegralTiles.l0 K l1 l2 a3 i t s) true
  | 0, i, s, hi, i0, hs => by
    refine EV.now 101 (fun K hK => ?_)
    obtain ⟨k, rfl⟩ : ∃ k, K = k + 1 := ⟨K - 1, by omega⟩
    have hsane : tilefarmlaw13_sane.f k = some true := at_rounds tilefarmlaw13_sane.mono (by omega) sane_eq
    rw [tilefarmlaw13_IntegralTiles.l0, if_neg (show ¬ i < 4 by omega), hsane, Option.bind_some]
  | d + 1, i, s, hi, i0, hs => by
    obtain ⟨p, p1, p2, p3, p4, p5, p6, p7, p8, p9, p10⟩ := plane_spec 2000 (by omega) t ht s hs
    obtain ⟨hPV, hPl⟩ := plane_PV p2 p3 p4 p5 p6 p7 p8 p9
    obtain ⟨a, b, c, e, s', w1, w2, w3, w4, w5, w6, w7, w8⟩ := within_spec t p.2.2.2.2 p.1 p.2.1 p10 ht (by omega) (by omega) (by omega) (by omega)
    have hin : IN p.1 p.2.1 a b c e := ⟨w3, w4, w5, w6, w7, w8⟩
    refine EV.step 2000 (fun K hK => ?_) (ll1 t ht hPV (by omega) (by omega) p7 hin l1 l2 a3 i i0 (by omega) (fun s' hs' => ll0 t ht l1 l2 a3 d (i + 1) s' (by omega) (by omega) hs') (e - b + 1).toNat b s' [] (by omega) w6 w2 (by rw [List.length_nil]; omega))
    have q1 := at_rounds (tilefarmgen_Tape_Plane.mono t s) hK p1
    rw [tilefarmlaw13_IntegralTiles.l0, if_pos (show i < 4 by omega), q1, Option.bind_some, w1, Option.bind_some]

theorem IntegralTiles : tilefarmlaw13_IntegralTiles.Pure := by
  intro t l1 l2 a3 _ hl _ _ _ _ _ _ _ _
  obtain ⟨N, hN⟩ := ll0 t (by omega) l1 l2 a3 4 0 0 (by decide) (by decide) (by decide)
  refine ⟨N, ?_⟩
  unfold tilefarmlaw13_IntegralTiles.f tilefarmgen_New.f
  rw [Option.bind_some]
  exact hN N (Nat.le_refl N)


end Go.Proofs.Ytkipnpgcpohlcaa.Pure
namespace Go.Proofs.Ytkipnpgcpohlcaa
open Go.ChangeShapes Go.WideShapes
/-- The print's own word, under the name that the printed row uses. -/
theorem PrintWords.sized_ints {H : Type} {enc : TypeId × Value → H} {P : Program} {W : World} {base : Nat} {spare : Nat → Bool} {held : Bool} {t e : TypeId} {k : IntKind} {a : Option Addr} {len cap : Nat} {d : DataW H} {ps : List MemPlace} {ts : List TypeId} {ds : List (DataW H)} {j : Nat}
    (hsz : (DataW.weightsEach P ts ds).all (· ≤ reachBytes) = true) (ht : ts[j]? = some t) (hd : ds[j]? = some d) (hu : P.underlying t = some (.slice e)) (he : P.underlying e = some (.int k)) (hc : P.cellsOf e = 1) {B : Nat} (hB : P.bytesOf e = B)
    (h : DataW.Trod enc P W base spare held t (.slice a len cap) d ps) : len * B ≤ 140737488351232 :=
  Go.Proofs.YtkipnpgcpohlcaaW.PrintWords.sized_ints hsz ht hd hu he hc hB h
end Go.Proofs.Ytkipnpgcpohlcaa

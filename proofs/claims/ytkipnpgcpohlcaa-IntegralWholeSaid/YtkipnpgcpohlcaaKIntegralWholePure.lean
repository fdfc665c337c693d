/- Integral planes, sums and checks, or the error, are those of the reference: for every tape, every shape and every rectangle. -/
import Derived.Test.YtkipnpgcpohlcaaKIntegralWholex16
import Derived.Test.YtkipnpgcpohlcaaKIntegralWholea
namespace Go.Proofs.Ytkipnpgcpohlcaa.Pure
open Go.RowKit Go.Proofs.Ytkipnpgcpohlcaa.PIntegralWhole Go.Proofs.YtkipnpgcpohlcaaW.PrintWords Go.Proofs.YtkipnpgcpohlcaaW.PrintLast Go.Proofs.YtkipnpgcpohlcaaW.PrintMore
set_option linter.unusedVariables false
set_option linter.unusedSimpArgs false
theorem wrap_in {n : Int} (h : -9223372036854775808 ≤ n) (h' : n ≤ 9223372036854775807) : wrap64 n = n := by unfold wrap64; omega
theorem tmod_emod (a n : Int) (h : 0 < n) : (0 ≤ Int.tmod a n ∧ Int.tmod a n = a % n) ∨ (Int.tmod a n < 0 ∧ Int.tmod a n + n = a % n) := by
 have h1 := Int.tmod_eq_emod (a := a) (b := n)
 have h2 := Int.emod_nonneg a (by omega : n ≠ 0)
 have h3 := Int.emod_lt_of_pos a h
 split at h1 <;> omega
theorem mod_eq (a n : Int) (h : 0 < n) (hn : n ≤ 4611686018427387904) : tilefarmgen_Mod.f a n = some (a % n) := by
 have h2 := Int.emod_nonneg a (by omega : n ≠ 0)
 have h3 := Int.emod_lt_of_pos a h
 unfold tilefarmgen_Mod.f
 rw [if_neg (by omega)]
 rcases tmod_emod a n h with ⟨h4, h5⟩ | ⟨h4, h5⟩
 ·rw [if_neg (by omega), h5]
 ·rw [if_pos h4, wrap_in (by omega) (by omega), h5]
theorem sd_true {p : Prop} [Decidable p] (h : p) : some true = some (decide p) := by rw [decide_eq_true h]
theorem sd_false {p : Prop} [Decidable p] (h : ¬ p) : some false = some (decide p) := by rw [decide_eq_false h]
theorem sd_iff {p q : Prop} [Decidable p] [Decidable q] (h : q ↔ p) : some (decide q) = some (decide p) := by rw [decide_eq_decide.2 h]
theorem mx_max (a b : Int) : mx a b = max a b := by unfold mx; omega
theorem mn_min (a b : Int) : mn a b = min a b := by unfold mn; omega
theorem mul_bd {x y B C : Int} (hx : 0 ≤ x) (hy : 0 ≤ y) (hxB : x ≤ B) (hyB : y ≤ C) : 0 ≤ x * y ∧ x * y ≤ B * C :=
 ⟨Int.mul_nonneg hx hy, Int.mul_le_mul hxB hyB hy (by omega)⟩
theorem next_spec (l : List Int) (s n : Int) (hs : 0 ≤ s) (hl : l.length ≤ 4611686018427387904) (h : 0 < n) (hn : n ≤ 4611686018427387904) :
  ∃ r s', tilefarmgen_Tape_Next.f l s n = some (r, s') ∧ 0 ≤ r ∧ r < n ∧ 0 ≤ s' := by
 unfold tilefarmgen_Tape_Next.f
 rw [if_neg (by omega)]
 by_cases h1 : s ≥ (l.length : Int)
 ·rw [if_pos h1]; exact ⟨_, _, rfl, by omega, by omega, hs⟩
 ·have e1 : wrap64 (s + 1) = s + 1 := wrap_in (by omega) (by omega)
  have e2 : wrap64 (s + 1 - 1) = s := by rw [wrap_in (by omega) (by omega)]; omega
  rw [if_neg h1]
  simp only [e1, e2]
  rw [if_pos hs, if_pos (by omega), mod_eq _ _ h hn]
  exact ⟨_, _, rfl, Int.emod_nonneg _ (by omega), Int.emod_lt_of_pos _ h, by omega⟩
theorem rd_mem (l : List Int) (i : Nat) (h : i < l.length) : rd l (i : Int) ∈ l := by
 simp [rd, h]
theorem rd_drop (l : List Int) (i : Nat) (h : i < l.length) : l.drop i = rd l (i : Int) :: l.drop (i + 1) := by
 rw [List.drop_eq_getElem_cons h]
 simp [rd, h]
theorem next_o (l : List Int) (s n : Int) (hs : 0 ≤ s) (hl : l.length ≤ 4611686018427387904) (h : 0 < n) (hn : n ≤ 4611686018427387904) :
  ∃ bt, tilefarmgen_Tape_Next.f l s n = some bt ∧ 0 ≤ bt.1 ∧ bt.1 < n ∧ 0 ≤ bt.2 := by
 obtain ⟨r, s', h1, h2, h3, h4⟩ := next_spec l s n hs hl h hn
 exact ⟨(r, s'), h1, h2, h3, h4⟩
theorem pick_o (l : List Int) (s : Int) (xs : List Int) (hs : 0 ≤ s) (hl : l.length ≤ 4611686018427387904) (h : 0 < xs.length) (hx : xs.length ≤ 100) :
  ∃ bt, tilefarmgen_Tape_Pick.f l s xs = some bt ∧ bt.1 ∈ xs ∧ 0 ≤ bt.2 := by
 obtain ⟨r, s', h1, h2, h3, h4⟩ := next_spec l s (xs.length : Int) hs hl (by omega) (by omega)
 refine ⟨(rd xs r, s'), ?_, ?_, h4⟩
 ·unfold tilefarmgen_Tape_Pick.f
  rw [h1, Option.bind_some, if_pos h2, if_pos h3]
 ·obtain ⟨n, rfl⟩ := Int.eq_ofNat_of_zero_le h2
  exact rd_mem xs n (by omega)
def rowg (g : Int → Int → Int) (y : Int) : Nat → Int → List Int
 | 0, _ => []
 | d + 1, x => g x y :: rowg g y d (x + 1)
def rowsg (g : Int → Int → Int) (x0 : Int) (w : Nat) : Nat → Int → List Int
 | 0, _ => []
 | d + 1, y => rowg g y w x0 ++ rowsg g x0 w d (y + 1)
theorem rowg_len (g : Int → Int → Int) (y : Int) : ∀ (d : Nat) (x : Int), (rowg g y d x).length = d
 | 0, _ => rfl
 | d + 1, x => by simp only [rowg]; rw [List.length_cons, rowg_len g y d (x + 1)]
theorem rowsg_len (g : Int → Int → Int) (x0 : Int) (w : Nat) : ∀ (d : Nat) (y : Int), (rowsg g x0 w d y).length = d * w
 | 0, _ => by simp [rowsg]
 | d + 1, y => by simp only [rowsg]; rw [List.length_append, rowg_len, rowsg_len g x0 w d (y + 1), Nat.add_mul]; omega
theorem rowg_get (g : Int → Int → Int) (y : Int) : ∀ (d : Nat) (x : Int) (i : Nat), i < d → (rowg g y d x)[i]? = some (g (x + (i : Int)) y)
 | 0, _, i, h => by omega
 | d + 1, x, 0, h => by simp [rowg]
 | d + 1, x, i + 1, h => by
  simp only [rowg, List.getElem?_cons_succ]
  rw [rowg_get g y d (x + 1) i (by omega), show x + 1 + (i : Int) = x + ((i + 1 : Nat) : Int) by omega]
theorem rowsg_get (g : Int → Int → Int) (x0 : Int) (w : Nat) : ∀ (d : Nat) (y : Int) (j i : Nat), j < d → i < w → (rowsg g x0 w d y)[j * w + i]? = some (g (x0 + (i : Int)) (y + (j : Int)))
 | 0, _, j, i, h, _ => by omega
 | d + 1, y, 0, i, h, hi => by
  simp only [rowsg]
  rw [List.getElem?_append_left (by rw [rowg_len]; omega), Nat.zero_mul, Nat.zero_add, rowg_get g y w x0 i hi]
  simp
 | d + 1, y, j + 1, i, h, hi => by
  simp only [rowsg]
  rw [List.getElem?_append_right (by rw [rowg_len, Nat.add_mul]; omega), rowg_len, show (j + 1) * w + i - w = j * w + i by rw [Nat.add_mul]; omega, rowsg_get g x0 w d (y + 1) j i (by omega) hi, show y + 1 + (j : Int) = y + ((j + 1 : Nat) : Int) by omega]
theorem rowsg_rd (g : Int → Int → Int) (x0 : Int) (w d : Nat) (y : Int) (j i : Nat) (hj : j < d) (hi : i < w) : rd (rowsg g x0 w d y) ((j * w + i : Nat) : Int) = g (x0 + (i : Int)) (y + (j : Int)) := by
 simp only [rd, Int.toNat_natCast, List.getD_eq_getElem?_getD]
 rw [rowsg_get g x0 w d y j i hj hi]
 rfl
abbrev V (a b c d : Int) : Prop := (a = 0 ∧ b = 0 ∧ c = 0 ∧ d = 0) ∨ (-1048576 ≤ a ∧ a ≤ 1048576 ∧ -1048576 ≤ b ∧ b ≤ 1048576 ∧ -1048576 ≤ c ∧ c ≤ 1048576 ∧ -1048576 ≤ d ∧ d ≤ 1048576 ∧ a < c ∧ b < d)
theorem empty_eq (a b c d : Int) : rect_Empty.f a b c d = some (decide (a = 0 ∧ b = 0 ∧ c = 0 ∧ d = 0)) := by
 unfold rect_Empty.f
 congr 1
 rw [Bool.eq_iff_iff]
 simp
theorem coord_eq (a : Int) : rect_coord.f a = some (decide (-1048576 ≤ a ∧ a ≤ 1048576)) := by
 unfold rect_coord.f
 split <;> congr 1 <;> rw [Bool.eq_iff_iff] <;> simp <;> omega
theorem valid_eq (a b c d : Int) : rect_Valid.f a b c d = some (decide (V a b c d)) := by
 unfold rect_Valid.f
 simp only [empty_eq, coord_eq, Option.bind_some, decide_eq_true_eq]
 repeat' split
 all_goals first | (refine sd_iff ?_; omega) | (refine sd_true ?_; omega) | (refine sd_false ?_; omega)
theorem ref_coord_eq (a : Int) : tilefarmref2_coord.f a = some (decide (-1048576 ≤ a ∧ a ≤ 1048576)) := by
 unfold tilefarmref2_coord.f
 split <;> congr 1 <;> rw [Bool.eq_iff_iff] <;> simp <;> omega
theorem ref_valid_eq (a b c d : Int) : tilefarmref2_Valid.f a b c d = some (decide (V a b c d)) := by
 unfold tilefarmref2_Valid.f
 simp only [ref_coord_eq, Option.bind_some, decide_eq_true_eq, V, Bool.and_eq_true, beq_iff_eq]
 repeat' split
 all_goals first | (refine sd_iff ?_; omega) | (refine sd_true ?_; omega) | (refine sd_false ?_; omega)
def ix (a0 a1 a2 a3 b0 b1 b2 b3 : Int) : Int × Int × Int × Int :=
 if V a0 a1 a2 a3 ∧ V b0 b1 b2 b3 ∧ mx a0 b0 < mn a2 b2 ∧ mx a1 b1 < mn a3 b3 then (mx a0 b0, mx a1 b1, mn a2 b2, mn a3 b3) else (0, 0, 0, 0)
theorem intersect_eq (k : Nat) (a0 a1 a2 a3 b0 b1 b2 b3 : Int) : rect_Intersect.f (k + 1) a0 a1 a2 a3 b0 b1 b2 b3 = some (ix a0 a1 a2 a3 b0 b1 b2 b3) := by
 unfold rect_Intersect.f ix
 simp only [valid_eq, Option.bind_some, rect_Intersect.j0, decide_eq_true_eq, Bool.not_eq_true', decide_eq_false_iff_not, if_true]
 by_cases h1 : V a0 a1 a2 a3
 ·by_cases h2 : V b0 b1 b2 b3
  ·rw [if_pos h1, if_neg (fun h => h h2)]
   by_cases h3 : mx a0 b0 < mn a2 b2
   ·by_cases h4 : mx a1 b1 < mn a3 b3
    ·rw [if_neg (by omega), if_neg (by omega), if_pos ⟨h1, h2, h3, h4⟩]
    ·rw [if_neg (by omega), if_pos (by omega), if_neg (fun h => h4 h.2.2.2)]
   ·rw [if_pos (by omega), if_neg (fun h => h3 h.2.2.1)]
  ·rw [if_pos h1, if_pos h2, if_neg (fun h => h2 h.2.1)]
 ·rw [if_neg h1, if_neg (fun h => h1 h.1)]
theorem mul_some (a b c : Int) : ∃ p, extent_Mul.f a b c = some p := by
 unfold extent_Mul.f
 by_cases c1 : a < 0
 ·rw [if_pos c1]; exact ⟨_, rfl⟩
 ·rw [if_neg c1]
  by_cases c2 : b < 0
  ·rw [if_pos c2]; exact ⟨_, rfl⟩
  ·rw [if_neg c2]
   by_cases c3 : c < 0
   ·rw [if_pos c3]; exact ⟨_, rfl⟩
   ·rw [if_neg c3]
    by_cases c4 : a = 0
    ·rw [if_pos c4]; exact ⟨_, rfl⟩
    ·rw [if_neg c4]
     by_cases c5 : b > wrap64 (Int.tdiv c a)
     ·rw [if_pos c5]; exact ⟨_, rfl⟩
     ·rw [if_neg c5]; exact ⟨_, rfl⟩
abbrev SZ (a b m : Int) : Prop := 1 ≤ a ∧ a ≤ 128 ∧ 1 ≤ b ∧ b ≤ 128 ∧ a * b ≤ 4096 ∧ 1 ≤ m ∧ m ≤ 4294967296
theorem size_no {a b m : Int} (h : ¬ SZ a b m) : some false = some (decide (SZ a b m)) := by rw [decide_eq_false h]
theorem size_val (a b m : Int) : plane_size.f a b m = some (decide (SZ a b m)) := by
 unfold plane_size.f
 by_cases c1 : a ≥ 1
 ·by_cases c2 : a ≤ 128
  ·by_cases c3 : b ≥ 1
   ·by_cases c4 : b ≤ 128
    ·obtain ⟨b0, b1⟩ := mul_bd (x := a) (y := b) (B := 128) (C := 128) (by omega) (by omega) c2 c4
     have hq : b ≤ 4096 / a ↔ b * a ≤ 4096 := Int.le_ediv_iff_mul_le (by omega)
     have q0 : 0 ≤ 4096 / a := Int.ediv_nonneg (by decide) (by omega)
     have q1 : 4096 / a ≤ 4096 := Int.ediv_le_self _ (by decide)
     rw [Int.mul_comm b a] at hq
     unfold extent_Mul.f
     rw [if_neg (show ¬ a < 0 by omega), if_neg (show ¬ b < 0 by omega), if_neg (show ¬ (4096 : Int) < 0 by decide), if_neg (show ¬ a = 0 by omega), Int.tdiv_eq_ediv_of_nonneg (by decide), wrap_in (n := 4096 / a) (by omega) (by omega), wrap_in (n := a * b) (by omega) (by omega)]
     by_cases c5 : b > 4096 / a
     ·rw [if_pos c5]
      exact size_no (fun h => by have := hq.2 h.2.2.2.2.1; omega)
     ·rw [if_neg c5, Option.bind_some]
      simp only [if_pos c1, if_pos c2, if_pos c3, if_pos c4, if_true]
      by_cases c6 : m ≥ 1
      ·rw [if_pos c6]
       have := hq.1 (by omega)
       exact congrArg some (decide_eq_decide.2 ⟨fun h => ⟨c1, c2, c3, c4, this, c6, h⟩, fun h => h.2.2.2.2.2.2⟩)
      ·rw [if_neg c6]
       exact size_no (fun h => c6 h.2.2.2.2.2.1)
    ·obtain ⟨p, hp⟩ := mul_some a b 4096
     rw [hp, Option.bind_some]
     simp only [if_pos c1, if_pos c2, if_pos c3, if_neg c4, ite_self]
     exact size_no (fun h => c4 h.2.2.2.1)
   ·obtain ⟨p, hp⟩ := mul_some a b 4096
    rw [hp, Option.bind_some]
    simp only [if_pos c1, if_pos c2, if_neg c3, ite_self]
    exact size_no (fun h => c3 h.2.2.1)
  ·obtain ⟨p, hp⟩ := mul_some a b 4096
   rw [hp, Option.bind_some]
   simp only [if_pos c1, if_neg c2, ite_self]
   exact size_no (fun h => c2 h.2.1)
 ·obtain ⟨p, hp⟩ := mul_some a b 4096
  rw [hp, Option.bind_some]
  simp only [if_neg c1, ite_self]
  exact size_no (fun h => c1 h.1)
abbrev PV (a b m : Int) (l : List Int) : Prop := SZ a b m ∧ (l.length : Int) = a * b ∧ ∀ v ∈ l, 0 ≤ v ∧ v ≤ m
theorem vloop_spec (a b m : Int) (l : List Int) (hl : l.length ≤ 4611686018427387904) : ∀ (d k i : Nat), i + d = l.length → d < k →
  plane_Valid.l0 k l (l.length : Int) (i : Int) a b m l = some (decide (∀ v ∈ l.drop i, 0 ≤ v ∧ v ≤ m))
 | 0, k, i, hi, hk => by
  obtain ⟨k, rfl⟩ : ∃ n, k = n + 1 := ⟨k - 1, by omega⟩
  rw [plane_Valid.l0, if_neg (show ¬ (i : Int) < (l.length : Int) by omega), List.drop_eq_nil_of_le (by omega)]
  simp
 | d + 1, k, i, hi, hk => by
  obtain ⟨k, rfl⟩ : ∃ n, k = n + 1 := ⟨k - 1, by omega⟩
  rw [plane_Valid.l0, rd_drop l i (by omega)]
  simp only [if_pos (show (i : Int) < (l.length : Int) by omega), if_pos (show 0 ≤ (i : Int) by omega), List.mem_cons, forall_eq_or_imp]
  rw [wrap_in (n := (i : Int) + 1) (by omega) (by omega), show ((i : Int) + 1) = ((i + 1 : Nat) : Int) from rfl, vloop_spec a b m l hl d k (i + 1) (by omega) (by omega)]
  by_cases c1 : rd l (i : Int) < 0
  ·rw [if_pos c1]
   exact sd_false (fun h => by omega)
  ·rw [if_neg c1]
   by_cases c2 : rd l (i : Int) > m
   ·rw [if_pos c2]
    exact sd_false (fun h => by omega)
   ·rw [if_neg c2]
    exact sd_iff ⟨fun h => ⟨by omega, h⟩, fun h => h.2⟩
theorem pvalid_spec (k : Nat) (a b m : Int) (l : List Int) (hl : l.length ≤ 4611686018427387904) (hk : l.length + 1 < k) : plane_Valid.f k a b m l = some (decide (PV a b m l)) := by
 obtain ⟨k, rfl⟩ : ∃ n, k = n + 1 := ⟨k - 1, by omega⟩
 unfold plane_Valid.f
 rw [size_val, Option.bind_some]
 by_cases c1 : SZ a b m
 ·rw [decide_eq_true c1, if_pos rfl]
  obtain ⟨b0, b1⟩ := mul_bd (x := a) (y := b) (B := 128) (C := 128) (by omega) (by omega) c1.2.1 c1.2.2.2.1
  simp only [plane_Valid.j0]
  rw [wrap_in (n := a * b) (by omega) (by omega)]
  by_cases c2 : (l.length : Int) = a * b
  ·rw [bne_eq_false_iff_eq.2 c2, if_neg Bool.false_ne_true]
   have hv := vloop_spec a b m l hl l.length k 0 (by omega) (by omega)
   rw [List.drop_zero] at hv
   exact hv.trans (sd_iff ⟨fun h => ⟨c1, c2, h⟩, fun h => h.2.2⟩)
  ·rw [bne_iff_ne.2 c2, if_pos rfl]
   exact sd_false (fun h => c2 h.2.1)
 ·rw [decide_eq_false c1, if_neg Bool.false_ne_true]
  exact sd_false (fun h => c1 h.1)
theorem set_all (P : Int → Prop) (l : List Int) (i : Nat) (v : Int) (h : ∀ x ∈ l, P x) (hv : P v) : ∀ x ∈ l.set i v, P x := by
 intro x hx
 rcases List.mem_or_eq_of_mem_set hx with hx | hx
 ·exact h x hx
 ·rw [hx]; exact hv
theorem sized_loop (t : List Int) (ht : t.length ≤ 4611686018427387904) (a b m : Int) (hm : 1 ≤ m) (hm' : m ≤ 4294967296) : ∀ (d k i : Nat) (s : Int) (l : List Int), 0 ≤ s → i + d = l.length → l.length ≤ 100000 → d < k →
  (∀ v ∈ l, 0 ≤ v ∧ v ≤ m) → ∃ bt, tilefarmgen_Tape_Sized.l0 k (i : Int) t s a b m l = some bt ∧ bt.1 = a ∧ bt.2.1 = b ∧ bt.2.2.1 = m ∧ bt.2.2.2.1.length = l.length ∧ (∀ v ∈ bt.2.2.2.1, 0 ≤ v ∧ v ≤ m) ∧ 0 ≤ bt.2.2.2.2
 | 0, k, i, s, l, hs, hi, hl, hk, hv => by
  obtain ⟨k, rfl⟩ : ∃ n, k = n + 1 := ⟨k - 1, by omega⟩
  rw [tilefarmgen_Tape_Sized.l0, if_neg (show ¬ (i : Int) < (l.length : Int) by omega)]
  exact ⟨_, rfl, rfl, rfl, rfl, rfl, hv, hs⟩
 | d + 1, k, i, s, l, hs, hi, hl, hk, hv => by
  obtain ⟨k, rfl⟩ : ∃ n, k = n + 1 := ⟨k - 1, by omega⟩
  rw [tilefarmgen_Tape_Sized.l0, if_pos (show (i : Int) < (l.length : Int) by omega), wrap_in (n := m + 1) (by omega) (by omega)]
  obtain ⟨r1, h1, h1a, h1b, h1c⟩ := next_o t s (m + 1) hs ht (by omega) (by omega)
  obtain ⟨r2, h2, h2a, h2b, h2c⟩ := next_o t r1.2 (m + 1) h1c ht (by omega) (by omega)
  obtain ⟨r3, h3, h3a, h3b⟩ := pick_o t r2.2 [r1.1, r2.1, m, 0] h2c ht (by simp) (by simp)
  rw [h1, Option.bind_some, h2, Option.bind_some, h3, Option.bind_some, if_pos (show 0 ≤ (i : Int) by omega), wrap_in (n := (i : Int) + 1) (by omega) (by omega)]
  have hr : 0 ≤ r3.1 ∧ r3.1 ≤ m := by
   simp only [List.mem_cons, List.not_mem_nil, or_false] at h3a
   clear h1 h2 h3 hv
   omega
  obtain ⟨bt, g1, g2, g3, g4, g5, g6, g7⟩ := sized_loop t ht a b m hm hm' d k (i + 1) r3.2 (l.set (i : Int).toNat r3.1) h3b (by rw [List.length_set]; omega) (by rw [List.length_set]; omega) (by omega) (set_all _ l _ _ hv hr)
  exact ⟨bt, g1, g2, g3, g4, by rw [g5, List.length_set], g6, g7⟩
theorem sized_spec (K : Nat) (hK : 2000 ≤ K) (t : List Int) (ht : t.length ≤ 4611686018427387904) (s a b : Int) (hs : 0 ≤ s) (ha : 1 ≤ a) (ha' : a ≤ 30) (hb : 1 ≤ b) (hb' : b ≤ 30) :
  ∃ bt, tilefarmgen_Tape_Sized.f K t s a b = some bt ∧ bt.1 = a ∧ bt.2.1 = b ∧ 1 ≤ bt.2.2.1 ∧ bt.2.2.1 ≤ 65535 ∧ (bt.2.2.2.1.length : Int) = a * b ∧ (∀ v ∈ bt.2.2.2.1, 0 ≤ v ∧ v ≤ bt.2.2.1) ∧ 0 ≤ bt.2.2.2.2 := by
 obtain ⟨r, h1, h1a, h1b⟩ := pick_o t s [255, 255, 65535, 1, 7] hs ht (by simp) (by simp)
 have hr : 1 ≤ r.1 ∧ r.1 ≤ 65535 := by
  simp only [List.mem_cons, List.not_mem_nil, or_false] at h1a
  clear h1
  omega
 obtain ⟨m0, m1⟩ := mul_bd (x := a) (y := b) (B := 30) (C := 30) (by omega) (by omega) ha' hb'
 unfold tilefarmgen_Tape_Sized.f
 rw [h1, Option.bind_some, wrap_in (n := a * b) (by omega) (by omega), if_pos m0, if_pos (show (a * b : Int).toNat ≤ 35184372088832 by omega)]
 obtain ⟨bt, g1, g2, g3, g4, g5, g6, g7⟩ := sized_loop t ht a b r.1 hr.1 (by omega) (a * b : Int).toNat K 0 r.2 (List.replicate (a * b : Int).toNat 0) h1b (by rw [List.length_replicate]; omega) (by rw [List.length_replicate]; omega) (by omega) (fun v hv => by rw [List.eq_of_mem_replicate hv]; omega)
 rw [List.length_replicate] at g5
 exact ⟨bt, g1, g2, g3, by rw [g4]; exact hr.1, by rw [g4]; exact hr.2, by rw [g5]; omega, by rw [g4]; exact g6, g7⟩
theorem plane_spec (K : Nat) (hK : 2000 ≤ K) (t : List Int) (ht : t.length ≤ 4611686018427387904) (s : Int) (hs : 0 ≤ s) :
  ∃ bt, tilefarmgen_Tape_Plane.f K t s = some bt ∧ 1 ≤ bt.1 ∧ bt.1 ≤ 6 ∧ 1 ≤ bt.2.1 ∧ bt.2.1 ≤ 5 ∧ 1 ≤ bt.2.2.1 ∧ bt.2.2.1 ≤ 65535 ∧ (bt.2.2.2.1.length : Int) = bt.1 * bt.2.1 ∧ (∀ v ∈ bt.2.2.2.1, 0 ≤ v ∧ v ≤ bt.2.2.1) ∧ 0 ≤ bt.2.2.2.2 := by
 obtain ⟨r1, h1, h1a, h1b, h1c⟩ := next_o t s 6 hs ht (by omega) (by omega)
 obtain ⟨r2, h2, h2a, h2b, h2c⟩ := next_o t r1.2 5 h1c ht (by omega) (by omega)
 obtain ⟨bt, g1, g2, g3, g4, g5, g6, g7, g8⟩ := sized_spec K hK t ht r2.2 (1 + r1.1) (1 + r2.1) h2c (by omega) (by omega) (by omega) (by omega)
 refine ⟨bt, ?_, by omega, by omega, by omega, by omega, g4, g5, by rw [g6, g2, g3], g7, g8⟩
 unfold tilefarmgen_Tape_Plane.f
 rw [h1, Option.bind_some, h2, Option.bind_some, wrap_in (n := 1 + r1.1) (by omega) (by omega), wrap_in (n := 1 + r2.1) (by omega) (by omega), g1, Option.bind_some]
theorem plane_PV {a b m : Int} {l : List Int} (h1 : 1 ≤ a) (h2 : a ≤ 6) (h3 : 1 ≤ b) (h4 : b ≤ 5) (h5 : 1 ≤ m) (h6 : m ≤ 65535) (h7 : (l.length : Int) = a * b) (h8 : ∀ v ∈ l, 0 ≤ v ∧ v ≤ m) : PV a b m l ∧ l.length ≤ 30 := by
 obtain ⟨m0, m1⟩ := mul_bd (x := a) (y := b) (B := 6) (C := 5) (by omega) (by omega) h2 h4
 exact ⟨⟨⟨h1, by omega, h3, by omega, by omega, h5, by omega⟩, h7, h8⟩, by omega⟩
theorem within_spec (l : List Int) (s w h : Int) (hs : 0 ≤ s) (hl : l.length ≤ 4611686018427387904) (hw : 0 < w) (hw2 : w ≤ 1000000) (hh : 0 < h) (hh2 : h ≤ 1000000) :
  ∃ a b c d s', tilefarmgen_Tape_Within.f l s w h = some (a, b, c, d, s') ∧ 0 ≤ s' ∧ 0 ≤ a ∧ a < c ∧ c ≤ w ∧ 0 ≤ b ∧ b < d ∧ d ≤ h := by
 obtain ⟨r1, s1, h1, h1a, h1b, h1c⟩ := next_spec l s w hs hl (by omega) (by omega)
 obtain ⟨r2, s2, h2, h2a, h2b, h2c⟩ := next_spec l s1 h h1c hl (by omega) (by omega)
 obtain ⟨r3, s3, h3, h3a, h3b, h3c⟩ := next_spec l s2 (w - r1) h2c hl (by omega) (by omega)
 obtain ⟨r4, s4, h4, h4a, h4b, h4c⟩ := next_spec l s3 (h - r2) h3c hl (by omega) (by omega)
 refine ⟨r1, r2, r1 + 1 + r3, r2 + 1 + r4, s4, ?_, h4c, h1a, by omega, by omega, h2a, by omega, by omega⟩
 unfold tilefarmgen_Tape_Within.f
 simp only [h1, h2, Option.bind_some]
 rw [wrap_in (n := w - r1) (by omega) (by omega), h3]
 simp only [Option.bind_some]
 rw [wrap_in (n := h - r2) (by omega) (by omega), h4]
 simp only [Option.bind_some]
 rw [wrap_in (n := r1 + 1) (by omega) (by omega), wrap_in (n := r1 + 1 + r3) (by omega) (by omega), wrap_in (n := r2 + 1) (by omega) (by omega), wrap_in (n := r2 + 1 + r4) (by omega) (by omega)]
abbrev IN (W H x0 y0 x1 y1 : Int) : Prop := 0 ≤ x0 ∧ x0 < x1 ∧ x1 ≤ W ∧ 0 ≤ y0 ∧ y0 < y1 ∧ y1 ≤ H
theorem inside_p (k : Nat) {W H : Int} (hW : 1 ≤ W) (hW' : W ≤ 128) (hH : 1 ≤ H) (hH' : H ≤ 128) {a b c d : Int} (hz : ¬ (a = 0 ∧ b = 0 ∧ c = 0 ∧ d = 0)) : rect_Inside.f (k + 1) a b c d 0 0 W H = some (decide (IN W H a b c d)) := by
 have hb : V 0 0 W H := .inr (by omega)
 unfold rect_Inside.f
 rw [valid_eq, Option.bind_some]
 by_cases ha : V a b c d
 ·rw [decide_eq_true ha, if_pos rfl, valid_eq, Option.bind_some, decide_eq_true hb, if_pos rfl, intersect_eq, Option.bind_some]
  simp only [ix, mx_max, mn_min]
  by_cases h : max a 0 < min c W ∧ max b 0 < min d H
  ·rw [if_pos ⟨ha, hb, h.1, h.2⟩]
   congr 1
   rw [Bool.eq_iff_iff]
   simp only [Bool.and_eq_true, beq_iff_eq, decide_eq_true_eq]
   omega
  ·rw [if_neg (fun g => h g.2.2)]
   congr 1
   rw [Bool.eq_iff_iff]
   simp only [Bool.and_eq_true, beq_iff_eq, decide_eq_true_eq]
   omega
 ·rw [decide_eq_false ha, if_neg Bool.false_ne_true]
  exact sd_false (fun g => ha (.inr (by omega)))
theorem cell_in {i j W H : Int} (h0 : 0 ≤ i) (h1 : i < W) (h2 : 0 ≤ j) (h3 : j < H) : 0 ≤ j * W ∧ j * W + i < W * H := by
 refine ⟨Int.mul_nonneg h2 (by omega), ?_⟩
 have := Int.mul_le_mul_of_nonneg_right (show j + 1 ≤ H by omega) (show 0 ≤ W by omega)
 rw [Int.add_mul, Int.one_mul, Int.mul_comm H W] at this
 omega
def RS (W : Int) (P : List Int) (x0 y : Int) : Nat → Int
 | 0 => 0
 | i + 1 => RS W P x0 y i + rd P (y * W + x0 + (i : Int))
def AR (W : Int) (P : List Int) (x0 y0 : Int) (i : Nat) : Nat → Int
 | 0 => 0
 | k + 1 => AR W P x0 y0 i k + RS W P x0 (y0 + (k : Int)) i
theorem rd_bd {P : List Int} {M : Int} (hM : 0 ≤ M) (h : ∀ v ∈ P, 0 ≤ v ∧ v ≤ M) (j : Int) : 0 ≤ rd P j ∧ rd P j ≤ M := by
 simp only [rd, List.getD_eq_getElem?_getD]
 cases e : P[j.toNat]? with
 | none => exact ⟨Int.le_refl 0, hM⟩
 | some v => exact h v (List.mem_of_getElem? e)
theorem mul_succ_i (B : Int) (k : Nat) : B * ((k + 1 : Nat) : Int) = B * (k : Int) + B := by rw [Int.natCast_succ, Int.mul_add, Int.mul_one]
theorem RS_bd {W : Int} {P : List Int} {M : Int} (hP : ∀ j, 0 ≤ rd P j ∧ rd P j ≤ M) (x0 y : Int) : ∀ i : Nat, 0 ≤ RS W P x0 y i ∧ RS W P x0 y i ≤ M * (i : Int)
 | 0 => by simp [RS]
 | i + 1 => by
  have h1 := RS_bd (W := W) hP x0 y i
  have h2 := hP (y * W + x0 + (i : Int))
  rw [RS, mul_succ_i]
  omega
theorem AR_bd {W : Int} {P : List Int} {M : Int} (hP : ∀ j, 0 ≤ rd P j ∧ rd P j ≤ M) (x0 y0 : Int) (i : Nat) : ∀ k : Nat, 0 ≤ AR W P x0 y0 i k ∧ AR W P x0 y0 i k ≤ M * (i : Int) * (k : Int)
 | 0 => by simp [AR]
 | k + 1 => by
  have h1 := AR_bd (W := W) hP x0 y0 i k
  have h2 := RS_bd (W := W) hP x0 (y0 + (k : Int)) i
  rw [AR, mul_succ_i]
  omega
theorem in_loop (L : Int) (l : List Int) (hl : l.length ≤ 4611686018427387904) : ∀ (d k i : Nat), i + d = l.length → d < k →
  integral_Tile_1.l0 k l (l.length : Int) (i : Int) L = some (decide (∀ v ∈ l.drop i, 0 ≤ v ∧ v ≤ L))
 | 0, k, i, hi, hk => by
  obtain ⟨k, rfl⟩ : ∃ n, k = n + 1 := ⟨k - 1, by omega⟩
  rw [integral_Tile_1.l0, if_neg (show ¬ (i : Int) < (l.length : Int) by omega), List.drop_eq_nil_of_le (by omega)]
  simp
 | d + 1, k, i, hi, hk => by
  obtain ⟨k, rfl⟩ : ∃ n, k = n + 1 := ⟨k - 1, by omega⟩
  rw [integral_Tile_1.l0, rd_drop l i (by omega)]
  simp only [if_pos (show (i : Int) < (l.length : Int) by omega), if_pos (show 0 ≤ (i : Int) by omega), List.mem_cons, forall_eq_or_imp]
  rw [wrap_in (n := (i : Int) + 1) (by omega) (by omega), show ((i : Int) + 1) = ((i + 1 : Nat) : Int) from rfl, in_loop L l hl d k (i + 1) (by omega) (by omega)]
  by_cases c1 : rd l (i : Int) < 0
  ·rw [if_pos c1]
   exact sd_false (fun h => by omega)
  ·rw [if_neg c1]
   by_cases c2 : rd l (i : Int) > L
   ·rw [if_pos c2]
    exact sd_false (fun h => by omega)
   ·rw [if_neg c2]
    exact sd_iff ⟨fun h => ⟨by omega, h⟩, fun h => h.2⟩
theorem in_spec (k : Nat) (l : List Int) (L : Int) (hl : l.length ≤ 4611686018427387904) (hk : l.length < k) : integral_Tile_1.f k l L = some (decide (∀ v ∈ l, 0 ≤ v ∧ v ≤ L)) := by
 unfold integral_Tile_1.f
 have h := in_loop L l hl l.length k 0 (Nat.zero_add _) hk
 rw [List.drop_zero] at h
 exact h
theorem rd_setn {o : List Int} {i b : Nat} {x : Int} (hi : i < o.length) : rd (o.set (i : Int).toNat x) (b : Int) = if i = b then x else rd o (b : Int) := by
 simp only [rd, Int.toNat_natCast, List.getD_eq_getElem?_getD, List.getElem?_set]
 by_cases h : i = b
 ·rw [if_pos h, if_pos h, if_pos hi]; rfl
 ·rw [if_neg h, if_neg h]
theorem rowg_mem {g : Int → Int → Int} {y v : Int} : ∀ (d : Nat) (x : Int), v ∈ rowg g y d x → ∃ i : Nat, i < d ∧ v = g (x + (i : Int)) y
 | 0, x, h => by simp [rowg] at h
 | d + 1, x, h => by
  simp only [rowg, List.mem_cons] at h
  rcases h with h | h
  ·exact ⟨0, by omega, by rw [h]; simp⟩
  ·obtain ⟨i, h1, h2⟩ := rowg_mem d (x + 1) h
   exact ⟨i + 1, by omega, by rw [h2, show x + 1 + (i : Int) = x + ((i + 1 : Nat) : Int) by omega]⟩
theorem rowsg_mem {g : Int → Int → Int} {x0 v : Int} {w : Nat} : ∀ (d : Nat) (y : Int), v ∈ rowsg g x0 w d y → ∃ i j : Nat, i < w ∧ j < d ∧ v = g (x0 + (i : Int)) (y + (j : Int))
 | 0, y, h => by simp [rowsg] at h
 | d + 1, y, h => by
  simp only [rowsg, List.mem_append] at h
  rcases h with h | h
  ·obtain ⟨i, h1, h2⟩ := rowg_mem w x0 h
   exact ⟨i, 0, h1, by omega, by rw [h2]; simp⟩
  ·obtain ⟨i, j, h1, h2, h3⟩ := rowsg_mem d (y + 1) h
   exact ⟨i, j + 1, h1, by omega, by rw [h3, show y + 1 + (j : Int) = y + ((j + 1 : Nat) : Int) by omega]⟩
theorem rd_zeros (n : Nat) (j : Int) : rd (List.replicate n 0) j = 0 := by
 simp only [rd, List.getD_eq_getElem?_getD, List.getElem?_replicate]
 by_cases h : j.toNat < n
 ·rw [if_pos h]; rfl
 ·rw [if_neg h]; rfl
abbrev IP (W H : Int) (P : List Int) : List Int := rowsg (fun x y => AR W P 0 0 (x.toNat + 1) (y.toNat + 1)) 0 W.toNat H.toNat 0
theorem AR_le {W H M : Int} {P : List Int} (hp : PV W H M P) (x0 y0 : Int) {i k : Nat} (hi : (i : Int) ≤ W) (hk : (k : Int) ≤ H) : 0 ≤ AR W P x0 y0 i k ∧ AR W P x0 y0 i k ≤ W * H * M := by
 obtain ⟨h0, h1⟩ := AR_bd (W := W) (rd_bd (M := M) (by omega) hp.2.2) x0 y0 i k
 obtain ⟨a0, a1⟩ := mul_bd (x := M) (y := (i : Int)) (B := M) (C := W) (by omega) (by omega) (Int.le_refl _) hi
 obtain ⟨b0, b1⟩ := mul_bd (x := M * (i : Int)) (y := (k : Int)) (B := M * W) (C := H) a0 (by omega) a1 hk
 refine ⟨h0, ?_⟩
 rw [show W * H * M = M * W * H by rw [Int.mul_comm (W * H) M, Int.mul_assoc]]
 omega
theorem IP_all {W H M : Int} {P : List Int} (hp : PV W H M P) : ∀ v ∈ IP W H P, 0 ≤ v ∧ v ≤ W * H * M := by
 intro v hv
 obtain ⟨i, j, h1, h2, h3⟩ := rowsg_mem _ _ hv
 rw [h3]
 simp only [Int.zero_add, Int.toNat_natCast]
 exact AR_le hp 0 0 (by omega) (by omega)
theorem vloop_eq : ∀ (k : Nat) (l : List Int) (i a b m : Int), plane_Valid.l0 k l (l.length : Int) i a b m l = tilefarmref4_Valid.l0 k i a b m l
 | 0, _, _, _, _, _ => rfl
 | k + 1, l, i, a, b, m => by
  simp only [plane_Valid.l0, tilefarmref4_Valid.l0]
  by_cases c1 : i < (l.length : Int)
  ·by_cases c2 : 0 ≤ i
   ·simp only [if_pos c1, if_pos c2, vloop_eq k]
   ·simp only [if_pos c1, if_neg c2]
  ·simp only [if_neg c1]
theorem rsize_no {a b m : Int} (h : ¬ SZ a b m) : some false = some (decide (SZ a b m)) := by rw [decide_eq_false h]
theorem rsize_val (a b m : Int) : tilefarmref4_Size.f a b m = some (decide (SZ a b m)) := by
 unfold tilefarmref4_Size.f
 by_cases c1 : a ≥ 1
 ·rw [if_pos c1]
  by_cases c2 : a ≤ 128
  ·rw [if_pos c2]
   by_cases c3 : b ≥ 1
   ·rw [if_pos c3]
    by_cases c4 : b ≤ 128
    ·obtain ⟨b0, b1⟩ := mul_bd (x := a) (y := b) (B := 128) (C := 128) (by omega) (by omega) c2 c4
     rw [if_pos c4, wrap_in (n := a * b) (by omega) (by omega)]
     by_cases c5 : a * b ≤ 4096
     ·rw [if_pos c5]
      by_cases c6 : m ≥ 1
      ·rw [if_pos c6]
       exact congrArg some (decide_eq_decide.2 ⟨fun h => ⟨c1, c2, c3, c4, c5, c6, h⟩, fun h => h.2.2.2.2.2.2⟩)
      ·rw [if_neg c6]; exact rsize_no (fun h => c6 h.2.2.2.2.2.1)
     ·rw [if_neg c5]; exact rsize_no (fun h => c5 h.2.2.2.2.1)
    ·rw [if_neg c4]; exact rsize_no (fun h => c4 h.2.2.2.1)
   ·rw [if_neg c3]; exact rsize_no (fun h => c3 h.2.2.1)
  ·rw [if_neg c2]; exact rsize_no (fun h => c2 h.2.1)
 ·rw [if_neg c1]; exact rsize_no (fun h => c1 h.1)
theorem rvalid_same (k : Nat) (a b m : Int) (l : List Int) : tilefarmref4_Valid.f k a b m l = plane_Valid.f k a b m l := by
 have hj : ∀ k t, plane_Valid.j0 k t a b m l = tilefarmref4_Valid.j0 k t a b m l := by
  intro k t
  cases k with
  | zero => rfl
  | succ k => simp only [plane_Valid.j0, tilefarmref4_Valid.j0, vloop_eq k]
 unfold plane_Valid.f tilefarmref4_Valid.f
 rw [size_val, rsize_val]
 simp only [hj]
theorem same_loop (L : List Int) (hL : L.length ≤ 100000) (d : Nat) : ∀ (k i : Nat), i + d = L.length → d < k → tilefarmref4_Same.l0 k L L (i : Int) = some true := by
 induction d with
 | zero =>
  intro k i hi hk
  obtain ⟨k, rfl⟩ : ∃ m, k = m + 1 := ⟨k - 1, by omega⟩
  rw [tilefarmref4_Same.l0, if_neg (by omega)]
 | succ d ih =>
  intro k i hi hk
  obtain ⟨k, rfl⟩ : ∃ m, k = m + 1 := ⟨k - 1, by omega⟩
  rw [tilefarmref4_Same.l0, if_pos (by omega), if_pos (by omega), if_pos (by omega), if_pos rfl, wrap_in (n := (i : Int) + 1) (by omega) (by omega)]
  exact ih k (i + 1) (by omega) (by omega)
theorem same_eq (L : List Int) (hL : L.length ≤ 10000) (K : Nat) (hK : 20000 ≤ K) : tilefarmref4_Same.f K L L = some true := by
 unfold tilefarmref4_Same.f
 rw [if_pos rfl]
 exact same_loop L (by omega) L.length K 0 (by omega) (by omega)
theorem equal_eq (a b m : Int) (L : List Int) (hL : L.length ≤ 10000) (K : Nat) (hK : 20000 ≤ K) : tilefarmref4_Equal.f K a b m L a b m L = some true := by
 unfold tilefarmref4_Equal.f
 rw [if_pos rfl, if_pos rfl, if_pos rfl, same_eq L hL K hK]
 rfl
theorem inside_r {W H : Int} (hW : 1 ≤ W) (hW' : W ≤ 128) (hH : 1 ≤ H) (hH' : H ≤ 128) {a b c d : Int} (ha : V a b c d) (hz : ¬ (a = 0 ∧ b = 0 ∧ c = 0 ∧ d = 0)) : tilefarmref2_Inside.f a b c d 0 0 W H = some (decide (IN W H a b c d)) := by
 have hb : V 0 0 W H := .inr (by omega)
 unfold tilefarmref2_Inside.f tilefarmref2_Empty.f
 rw [ref_valid_eq, Option.bind_some, decide_eq_true ha, if_pos rfl, ref_valid_eq, Option.bind_some, decide_eq_true hb, if_pos rfl, Option.bind_some, if_neg (show ¬ (a == 0 && (b == 0 && (c == 0 && d == 0))) = true by simp only [Bool.and_eq_true, beq_iff_eq]; exact hz)]
 by_cases c1 : a ≥ 0
 ·rw [if_pos c1]
  by_cases c2 : b ≥ 0
  ·rw [if_pos c2]
   by_cases c3 : c ≤ W
   ·rw [if_pos c3]; exact sd_iff ⟨fun h => by omega, fun h => by omega⟩
   ·rw [if_neg c3]; exact sd_false (fun h => by omega)
  ·rw [if_neg c2]; exact sd_false (fun h => by omega)
 ·rw [if_neg c1]; exact sd_false (fun h => by omega)
theorem spoil_o (t : List Int) (ht : t.length ≤ 4611686018427387904) (s a b m : Int) (l : List Int) (hs : 0 ≤ s) (hl : l.length ≤ 1000) :
  ∃ bt, tilefarmgen_Tape_SpoilPlane.f t s a b m l = some bt ∧ bt.2.2.2.1.length ≤ l.length + 1 ∧ 0 ≤ bt.2.2.2.2 := by
 obtain ⟨r, h1, h1a, h1b, h1c⟩ := next_o t s 6 hs ht (by omega) (by omega)
 unfold tilefarmgen_Tape_SpoilPlane.f
 rw [Option.bind_some, if_pos (show ([] : List Int).length + l.length < 17592186044416 by rw [List.length_nil]; omega), Option.bind_some, h1, Option.bind_some, List.nil_append]
 by_cases c0 : r.1 = 0
 ·rw [if_pos c0]
  obtain ⟨q, g1, g2, g3⟩ := pick_o t r.2 [0, wrap64 (a + 1), -1, 129] h1c ht (by simp) (by simp)
  rw [g1, Option.bind_some]
  exact ⟨_, rfl, Nat.le_succ _, g3⟩
 ·rw [if_neg c0]
  by_cases c1 : r.1 = 1
  ·rw [if_pos c1]
   obtain ⟨q, g1, g2, g3⟩ := pick_o t r.2 [0, wrap64 (b + 1), 4611686018427387904] h1c ht (by simp) (by simp)
   rw [g1, Option.bind_some]
   exact ⟨_, rfl, Nat.le_succ _, g3⟩
  ·rw [if_neg c1]
   by_cases c2 : r.1 = 2
   ·rw [if_pos c2]
    obtain ⟨q, g1, g2, g3⟩ := pick_o t r.2 [0, 4294967297, -1, 3] h1c ht (by simp) (by simp)
    rw [g1, Option.bind_some]
    exact ⟨_, rfl, Nat.le_succ _, g3⟩
   ·rw [if_neg c2]
    by_cases c3 : r.1 = 3
    ·rw [if_pos c3, if_pos (show l.length < 17592186044416 by omega)]
     exact ⟨_, rfl, by simp, h1c⟩
    ·rw [if_neg c3]
     by_cases c4 : r.1 = 4
     ·rw [if_pos c4]
      by_cases c5 : (l.length : Int) > 0
      ·rw [if_pos c5]
       obtain ⟨q, g1, g2, g3, g4⟩ := next_o t r.2 (l.length : Int) h1c ht c5 (by omega)
       obtain ⟨z, f1, f2, f3⟩ := pick_o t q.2 [-1, wrap64 (m + 1), m] g4 ht (by simp) (by simp)
       rw [g1, Option.bind_some, f1, Option.bind_some, if_pos g2, if_pos g3]
       exact ⟨_, rfl, by simp, f3⟩
      ·rw [if_neg c5]
       exact ⟨_, rfl, Nat.le_succ _, h1c⟩
     ·rw [if_neg c4]
      exact ⟨_, rfl, by simp, h1c⟩
def EV {α : Type} (f : Nat → Option α) (r : α) : Prop := ∃ N, ∀ K, N ≤ K → f K = some r
theorem EV.step {α : Type} {f g : Nat → Option α} {r : α} (N : Nat) (h : ∀ K, N ≤ K → f (K + 1) = g K) : EV g r → EV f r := by
 rintro ⟨M, hM⟩
 refine ⟨max M N + 1, fun K hK => ?_⟩
 obtain ⟨k, rfl⟩ : ∃ k, K = k + 1 := ⟨K - 1, by omega⟩
 rw [h k (by omega)]
 exact hM k (by omega)
theorem EV.same {α : Type} {f g : Nat → Option α} {r : α} (N : Nat) (h : ∀ K, N ≤ K → f K = g K) : EV g r → EV f r := by
 rintro ⟨M, hM⟩
 refine ⟨max M N, fun K hK => ?_⟩
 rw [h K (by omega)]
 exact hM K (by omega)
theorem EV.now {α : Type} {f : Nat → Option α} {r : α} (N : Nat) (h : ∀ K, N ≤ K → f K = some r) : EV f r := ⟨N, h⟩
theorem rd_set {o : List Int} {i b : Int} {x : Int} (hi : 0 ≤ i) (hi' : i < (o.length : Int)) (hb : 0 ≤ b) : rd (o.set i.toNat x) b = if i = b then x else rd o b := by
 simp only [rd, List.getD_eq_getElem?_getD, List.getElem?_set]
 by_cases h : i = b
 ·rw [if_pos (show i.toNat = b.toNat by omega), if_pos (show i.toNat < o.length by omega), if_pos h]
  rfl
 ·rw [if_neg (show ¬ i.toNat = b.toNat by omega), if_neg h]
theorem rd_ext {a b : List Int} (hl : a.length = b.length) (h : ∀ i : Nat, i < a.length → rd a (i : Int) = rd b (i : Int)) : a = b := by
 refine List.ext_getElem hl (fun i h1 h2 => ?_)
 have := h i h1
 simpa [rd, h1, h2] using this
theorem sane_eq : tilefarmlaw13_sane.f 60 = some true := by decide +kernel
theorem rfull_eq (a b c d : Int) : tilefarmref2_Full.f a b c d = some (decide (V a b c d ∧ ¬ (a = 0 ∧ b = 0 ∧ c = 0 ∧ d = 0))) := by
 unfold tilefarmref2_Full.f tilefarmref2_Empty.f
 rw [ref_valid_eq, Option.bind_some]
 by_cases hV : V a b c d
 ·rw [decide_eq_true hV, if_pos rfl, Option.bind_some]
  congr 1
  rw [Bool.eq_iff_iff]
  simp only [Bool.not_eq_true', Bool.and_eq_false_iff, beq_eq_false_iff_ne, decide_eq_true_eq]
  constructor
  ·intro h; exact ⟨hV, by omega⟩
  ·intro h; have := h.2; omega
 ·rw [decide_eq_false hV, if_neg Bool.false_ne_true, decide_eq_false (fun h => hV h.1)]
abbrev MS (W H M : Int) : Prop := 1 ≤ W ∧ 1 ≤ H ∧ 1 ≤ M ∧ W * H ≤ 4294967296 ∧ W * H * M ≤ 4294967296
theorem pmul_eq {a b : Int} (ha : 1 ≤ a) (hb : 1 ≤ b) : ∃ v, extent_Mul.f a b 4294967296 = some v ∧ (a * b ≤ 4294967296 → v = (a * b, true)) ∧ (¬ a * b ≤ 4294967296 → v = (0, false)) := by
 have h0 : 0 ≤ a * b := Int.mul_nonneg (by omega) (by omega)
 have hq : 0 ≤ 4294967296 / a := Int.ediv_nonneg (by decide) (by omega)
 have hq' : 4294967296 / a ≤ 4294967296 := Int.ediv_le_self a (by decide)
 have hiff : b ≤ 4294967296 / a ↔ b * a ≤ 4294967296 := Int.le_ediv_iff_mul_le (by omega)
 rw [Int.mul_comm b a] at hiff
 unfold extent_Mul.f
 rw [if_neg (show ¬ a < 0 by omega), if_neg (show ¬ b < 0 by omega), if_neg (show ¬ (4294967296 : Int) < 0 by decide), if_neg (show ¬ a = 0 by omega), Int.tdiv_eq_ediv_of_nonneg (by decide), wrap_in (n := 4294967296 / a) (by omega) (by omega)]
 by_cases c : b > 4294967296 / a
 ·rw [if_pos c]
  exact ⟨_, rfl, fun h => absurd (hiff.2 h) (by omega), fun _ => rfl⟩
 ·have hle := hiff.1 (by omega)
  rw [if_neg c, wrap_in (n := a * b) (by omega) (by omega)]
  exact ⟨_, rfl, fun _ => rfl, fun h => absurd hle h⟩
theorem rmul_eq {a b : Int} (ha : 1 ≤ a) (hb : 1 ≤ b) : ∃ v, tilefarmref1_Mul.f a b 4294967296 = some v ∧ (a * b ≤ 4294967296 → v = (a * b, true)) ∧ (¬ a * b ≤ 4294967296 → v = (0, false)) := by
 have h0 : 0 ≤ a * b := Int.mul_nonneg (by omega) (by omega)
 have hq : 0 ≤ 4294967296 / b := Int.ediv_nonneg (by decide) (by omega)
 have hq' : 4294967296 / b ≤ 4294967296 := Int.ediv_le_self b (by decide)
 have hiff : a ≤ 4294967296 / b ↔ a * b ≤ 4294967296 := Int.le_ediv_iff_mul_le (by omega)
 unfold tilefarmref1_Mul.f
 rw [if_neg (show ¬ a < 0 by omega), if_neg (show ¬ b < 0 by omega), if_neg (show ¬ (4294967296 : Int) < 0 by decide), if_pos (show b > 0 by omega), if_neg (show ¬ b = 0 by omega), Int.tdiv_eq_ediv_of_nonneg (by decide), wrap_in (n := 4294967296 / b) (by omega) (by omega)]
 by_cases c : a > 4294967296 / b
 ·rw [if_pos c]
  exact ⟨_, rfl, fun h => absurd (hiff.2 h) (by omega), fun _ => rfl⟩
 ·have hle := hiff.1 (by omega)
  rw [if_neg c, wrap_in (n := a * b) (by omega) (by omega)]
  exact ⟨_, rfl, fun _ => rfl, fun h => absurd hle h⟩
theorem pmost_eq (k : Nat) (W H M : Int) : ∃ v, integral_most.f (k + 1) W H M = some v ∧ (MS W H M → v = (W * H * M, true)) ∧ (¬ MS W H M → v.2 = false) := by
 unfold integral_most.f
 by_cases c1 : W < 1
 ·rw [if_pos c1, integral_most.j0, if_pos rfl]; exact ⟨_, rfl, fun h => by omega, fun _ => rfl⟩
 rw [if_neg c1]
 by_cases c2 : H < 1
 ·rw [if_pos c2, integral_most.j0, if_pos rfl]; exact ⟨_, rfl, fun h => by omega, fun _ => rfl⟩
 rw [if_neg c2]
 by_cases c3 : M < 1
 ·rw [decide_eq_true c3, integral_most.j0, if_pos rfl]; exact ⟨_, rfl, fun h => by omega, fun _ => rfl⟩
 rw [decide_eq_false c3, integral_most.j0, if_neg Bool.false_ne_true]
 obtain ⟨v, v1, v2, v3⟩ := pmul_eq (a := W) (b := H) (by omega) (by omega)
 rw [v1, Option.bind_some]
 by_cases c4 : W * H ≤ 4294967296
 ·have hWH : 1 * 1 ≤ W * H := Int.mul_le_mul (by omega) (by omega) (by decide) (by omega)
  obtain ⟨u, u1, u2, u3⟩ := pmul_eq (a := W * H) (b := M) (by omega) (by omega)
  rw [v2 c4, if_pos rfl, u1, Option.bind_some]
  refine ⟨_, rfl, fun h => by rw [u2 h.2.2.2.2], fun h => ?_⟩
  rw [u3 (fun q => h ⟨by omega, by omega, by omega, c4, q⟩)]
 ·rw [v3 c4, if_neg Bool.false_ne_true]
  exact ⟨_, rfl, fun h => absurd h.2.2.2.1 c4, fun _ => rfl⟩
theorem rmost_eq (W H M : Int) : ∃ v, tilefarmref13_Most.f W H M = some v ∧ (MS W H M → v = (W * H * M, true)) ∧ (¬ MS W H M → v.2 = false) := by
 unfold tilefarmref13_Most.f
 by_cases c0 : 1 ≤ W ∧ 1 ≤ H
 ·obtain ⟨c1, c2⟩ := c0
  obtain ⟨v, v1, v2, v3⟩ := rmul_eq c1 c2
  rw [v1, Option.bind_some]
  by_cases c4 : W * H ≤ 4294967296
  ·have hWH : 1 * 1 ≤ W * H := Int.mul_le_mul c1 c2 (by decide) (by omega)
   rw [v2 c4, if_pos rfl, if_neg (show ¬ W < 1 by omega), if_neg (show ¬ H < 1 by omega)]
   by_cases c3 : M < 1
   ·rw [if_pos c3]; exact ⟨_, rfl, fun h => by omega, fun _ => rfl⟩
   ·obtain ⟨u, u1, u2, u3⟩ := rmul_eq (a := W * H) (b := M) (by omega) (by omega)
    rw [if_neg c3, u1, Option.bind_some]
    refine ⟨_, rfl, fun h => by rw [u2 h.2.2.2.2], fun h => ?_⟩
    rw [u3 (fun q => h ⟨c1, c2, by omega, c4, q⟩)]
  ·rw [v3 c4, if_neg Bool.false_ne_true]
   exact ⟨_, rfl, fun h => absurd h.2.2.2.1 c4, fun _ => rfl⟩
 ·have hm : ∃ v, tilefarmref1_Mul.f W H 4294967296 = some v := by
   unfold tilefarmref1_Mul.f
   by_cases d1 : W < 0
   ·rw [if_pos d1]; exact ⟨_, rfl⟩
   rw [if_neg d1]
   by_cases d2 : H < 0
   ·rw [if_pos d2]; exact ⟨_, rfl⟩
   rw [if_neg d2, if_neg (show ¬ (4294967296 : Int) < 0 by decide)]
   by_cases d3 : H > 0
   ·rw [if_pos d3, if_neg (show ¬ H = 0 by omega)]
    by_cases d4 : W > wrap64 (Int.tdiv 4294967296 H)
    ·rw [if_pos d4]; exact ⟨_, rfl⟩
    ·rw [if_neg d4]; exact ⟨_, rfl⟩
   ·rw [if_neg d3]; exact ⟨_, rfl⟩
  obtain ⟨v, v1⟩ := hm
  rw [v1, Option.bind_some]
  by_cases d : v.2 = true
  ·rw [if_pos d]
   by_cases e1 : W < 1
   ·rw [if_pos e1]; exact ⟨_, rfl, fun h => by omega, fun _ => rfl⟩
   ·rw [if_neg e1, if_pos (show H < 1 by omega)]; exact ⟨_, rfl, fun h => by omega, fun _ => rfl⟩
  ·rw [if_neg d]; exact ⟨_, rfl, fun h => by omega, fun _ => rfl⟩
theorem pcheck_eq (k : Nat) (W H M : Int) : integral_Check.f (k + 1) W H M = some (if MS W H M then 0 else 11) := by
 obtain ⟨v, v1, v2, v3⟩ := pmost_eq k W H M
 unfold integral_Check.f
 rw [v1, Option.bind_some]
 by_cases c : MS W H M
 ·rw [v2 c, if_pos rfl, if_pos c]
 ·rw [v3 c, if_neg Bool.false_ne_true, if_neg c]
theorem rcheck_eq (W H M : Int) : tilefarmref13_Check.f W H M = some (if MS W H M then 0 else 11) := by
 obtain ⟨v, v1, v2, v3⟩ := rmost_eq W H M
 unfold tilefarmref13_Check.f
 rw [v1, Option.bind_some]
 by_cases c : MS W H M
 ·rw [v2 c, if_pos rfl, if_pos c]
 ·rw [v3 c, if_neg Bool.false_ne_true, if_neg c]
section
variable {W H M x0 y0 x1 y1 : Int} {P : List Int}
theorem at_same (hV : PV W H M P) {x y : Int} (hx : 0 ≤ x) (hx' : x ≤ W) (hy : 0 ≤ y) (hy' : y ≤ H) : ∃ v, integral_Sum_1.f x y W H M P = some v ∧ tilefarmref13_at.f W H M P (wrap64 (x - 1)) (wrap64 (y - 1)) = some v := by
 have hS := hV.1
 have hl := hV.2.1
 unfold integral_Sum_1.f tilefarmref13_at.f
 rw [wrap_in (n := x - 1) (by omega) (by omega), wrap_in (n := y - 1) (by omega) (by omega)]
 by_cases c1 : x = 0
 ·rw [if_pos c1, if_pos (show x - 1 < 0 by omega)]; exact ⟨_, rfl, rfl⟩
 by_cases c2 : y = 0
 ·rw [if_neg c1, if_pos c2, if_neg (show ¬ x - 1 < 0 by omega), if_pos (show y - 1 < 0 by omega)]; exact ⟨_, rfl, rfl⟩
 obtain ⟨a0, a1⟩ := cell_in (i := x - 1) (j := y - 1) (W := W) (H := H) (by omega) (by omega) (by omega) (by omega)
 have h4 := hS.2.2.2.2.1
 rw [if_neg c1, if_neg c2, if_neg (show ¬ x - 1 < 0 by omega), if_neg (show ¬ y - 1 < 0 by omega), wrap_in (n := (y - 1) * W) (by omega) (by omega), wrap_in (n := (y - 1) * W + x) (by omega) (by omega), wrap_in (n := (y - 1) * W + x - 1) (by omega) (by omega), wrap_in (n := (y - 1) * W + (x - 1)) (by omega) (by omega),
  show (y - 1) * W + x - 1 = (y - 1) * W + (x - 1) by omega, if_pos (show 0 ≤ (y - 1) * W + (x - 1) by omega), if_pos (show (y - 1) * W + (x - 1) < (P.length : Int) by omega)]
 exact ⟨_, rfl, rfl⟩
theorem sum_same (W H M : Int) (P : List Int) (hP : P.length ≤ 10000) (x0 y0 x1 y1 : Int) : ∃ v : Int × Int, EV (fun K => integral_Sum.f K W H M P x0 y0 x1 y1) v ∧ EV (fun K => tilefarmref13_Sum.f K W H M P x0 y0 x1 y1) v := by
 have ep : ∀ K, 20000 ≤ K → plane_Valid.f K W H M P = some (decide (PV W H M P)) := fun K hK => pvalid_spec K W H M P (by omega) (by omega)
 have er : ∀ K, 20000 ≤ K → tilefarmref4_Valid.f K W H M P = some (decide (PV W H M P)) := fun K hK => by rw [rvalid_same]; exact ep K hK
 by_cases c : PV W H M P
 ·have hS := c.1
  by_cases ci : IN W H x0 y0 x1 y1
  ·have hne : ¬ (x0 = 0 ∧ y0 = 0 ∧ x1 = 0 ∧ y1 = 0) := by omega
   have hVr : V x0 y0 x1 y1 := .inr (by omega)
   obtain ⟨a, a1, a2⟩ := at_same c (x := x1) (y := y1) (by omega) (by omega) (by omega) (by omega)
   obtain ⟨b, b1, b2⟩ := at_same c (x := x0) (y := y1) (by omega) (by omega) (by omega) (by omega)
   obtain ⟨d, d1, d2⟩ := at_same c (x := x1) (y := y0) (by omega) (by omega) (by omega) (by omega)
   obtain ⟨e, e1, e2⟩ := at_same c (x := x0) (y := y0) (by omega) (by omega) (by omega) (by omega)
   refine ⟨(wrap64 ((wrap64 ((wrap64 (a - b)) - d)) + e), 0), EV.now 20001 (fun K hK => ?_), EV.now 20001 (fun K hK => ?_)⟩
   ·obtain ⟨k, rfl⟩ : ∃ k, K = k + 1 := ⟨K - 1, by omega⟩
    unfold integral_Sum.f
    rw [ep _ (by omega), decide_eq_true c, Option.bind_some, if_pos rfl, empty_eq, Option.bind_some, decide_eq_false hne, if_neg Bool.false_ne_true, inside_p _ hS.1 hS.2.1 hS.2.2.1 hS.2.2.2.1 hne, Option.bind_some, decide_eq_true ci, integral_Sum.j0, if_neg (show ¬ (!true) = true by decide), a1, Option.bind_some, b1, Option.bind_some, d1, Option.bind_some, e1, Option.bind_some]
   ·obtain ⟨k, rfl⟩ : ∃ k, K = k + 1 := ⟨K - 1, by omega⟩
    unfold tilefarmref13_Sum.f tilefarmref4_Cover.f
    rw [er _ (by omega), decide_eq_true c, Option.bind_some, if_pos rfl, rfull_eq, decide_eq_true (show V x0 y0 x1 y1 ∧ _ from ⟨hVr, hne⟩), Option.bind_some, if_pos rfl, Option.bind_some, inside_r hS.1 hS.2.1 hS.2.2.1 hS.2.2.2.1 hVr hne, Option.bind_some, decide_eq_true ci, tilefarmref13_Sum.j0, if_neg (show ¬ (!true) = true by decide), a2, Option.bind_some, b2, Option.bind_some, d2, Option.bind_some, e2, Option.bind_some]
  ·refine ⟨(0, 8), EV.now 20001 (fun K hK => ?_), EV.now 20001 (fun K hK => ?_)⟩
   ·obtain ⟨k, rfl⟩ : ∃ k, K = k + 1 := ⟨K - 1, by omega⟩
    unfold integral_Sum.f
    rw [ep _ (by omega), decide_eq_true c, Option.bind_some, if_pos rfl, empty_eq, Option.bind_some]
    by_cases hz : x0 = 0 ∧ y0 = 0 ∧ x1 = 0 ∧ y1 = 0
    ·rw [decide_eq_true hz, if_pos rfl, integral_Sum.j0, if_pos rfl]
    ·rw [decide_eq_false hz, if_neg Bool.false_ne_true, inside_p _ hS.1 hS.2.1 hS.2.2.1 hS.2.2.2.1 hz, Option.bind_some, decide_eq_false ci, integral_Sum.j0, if_pos (show (!false) = true from rfl)]
   ·obtain ⟨k, rfl⟩ : ∃ k, K = k + 1 := ⟨K - 1, by omega⟩
    unfold tilefarmref13_Sum.f tilefarmref4_Cover.f
    rw [er _ (by omega), decide_eq_true c, Option.bind_some, if_pos rfl, rfull_eq, Option.bind_some]
    by_cases hv : V x0 y0 x1 y1 ∧ ¬ (x0 = 0 ∧ y0 = 0 ∧ x1 = 0 ∧ y1 = 0)
    ·rw [decide_eq_true hv, if_pos rfl, Option.bind_some, inside_r hS.1 hS.2.1 hS.2.2.1 hS.2.2.2.1 hv.1 hv.2, Option.bind_some, decide_eq_false ci, tilefarmref13_Sum.j0, if_pos (show (!false) = true from rfl)]
    ·rw [decide_eq_false hv, if_neg Bool.false_ne_true, tilefarmref13_Sum.j0, if_pos rfl]
 ·refine ⟨(0, 1), EV.now 20001 (fun K hK => ?_), EV.now 20001 (fun K hK => ?_)⟩
  ·unfold integral_Sum.f
   rw [ep _ (by omega), decide_eq_false c, Option.bind_some, if_neg Bool.false_ne_true]
  ·unfold tilefarmref13_Sum.f
   rw [er _ (by omega), decide_eq_false c, Option.bind_some, if_neg Bool.false_ne_true]
end
structure WH (W H M L : Int) (P : List Int) (n h : Nat) : Prop where
 pv : PV W H M P
 l31 : P.length ≤ 31
 hL : L = W * H * M
 l32 : L ≤ 4294967296
 hn : W = (n : Int)
 hh : H = (h : Int)
section
variable {W H M L : Int} {P : List Int} {n h : Nat}
theorem wh_nums (a : WH W H M L P n h) : 1 ≤ n ∧ n ≤ 31 ∧ 1 ≤ h ∧ h ≤ 31 ∧ n * h ≤ 31 ∧ h * n ≤ 31 ∧ 1 ≤ L ∧ W * H ≤ 31 ∧ 1 ≤ W * H := by
 have hS := a.pv.1
 have h1 := a.hn
 have h2 := a.hh
 have hl := a.pv.2.1
 have h3 := a.l31
 have hWH : 1 * 1 ≤ W * H := Int.mul_le_mul hS.1 hS.2.2.1 (by decide) (by omega)
 have hL1 : 1 * 1 ≤ W * H * M := Int.mul_le_mul (by omega) hS.2.2.2.2.2.1 (by decide) (by omega)
 have e : W * H = ((n * h : Nat) : Int) := by rw [h1, h2, Int.natCast_mul]
 have e2 : n * h = h * n := Nat.mul_comm n h
 have hn1 : n * 1 ≤ n * h := Nat.mul_le_mul_left n (by omega)
 have hh1 : h * 1 ≤ h * n := Nat.mul_le_mul_left h (by omega)
 have := a.hL
 omega
theorem wh_AR (a : WH W H M L P n h) {i k : Nat} (hi : i ≤ n) (hk : k ≤ h) : 0 ≤ AR W P 0 0 i k ∧ AR W P 0 0 i k ≤ L := by
 rw [a.hL]
 exact AR_le a.pv 0 0 (by rw [a.hn]; omega) (by rw [a.hh]; omega)
theorem wh_RS (a : WH W H M L P n h) {i k : Nat} (hi : i ≤ n) (hk : k < h) : 0 ≤ RS W P 0 (0 + (k : Int)) i ∧ RS W P 0 (0 + (k : Int)) i ≤ L := by
 have h1 := wh_AR a hi (k := k) (by omega)
 have h2 := wh_AR a hi (k := k + 1) hk
 rw [AR] at h2
 have h3 := RS_bd (W := W) (rd_bd (P := P) (M := M) (by have := a.pv.1; omega) a.pv.2.2) 0 (0 + (k : Int)) i
 omega
theorem wh_idx (a : WH W H M L P n h) {i k : Nat} (hi : i < n) (hk : k < h) : wrap64 ((wrap64 ((wrap64 ((wrap64 (0 + (k : Int))) * W)) + 0)) + (i : Int)) = (0 + (k : Int)) * W + 0 + (i : Int) ∧ 0 ≤ (0 + (k : Int)) * W + 0 + (i : Int) ∧ (0 + (k : Int)) * W + 0 + (i : Int) < (P.length : Int) ∧
  wrap64 ((wrap64 ((k : Int) * W)) + (i : Int)) = ((k * n + i : Nat) : Int) ∧ k * n + i < h * n ∧ wrap64 ((i : Int) + 1) = ((i + 1 : Nat) : Int) ∧ wrap64 ((k : Int) + 1) = ((k + 1 : Nat) : Int) ∧ (((k * n + i : Nat) : Int) = (0 + (k : Int)) * W + 0 + (i : Int)) := by
 obtain ⟨z1, z2, z3, z4, z5, z6, z7, z8, z9⟩ := wh_nums a
 have e : (k : Int) * W = ((k * n : Nat) : Int) := by rw [a.hn, Int.natCast_mul]
 have h1 : (k + 1) * n ≤ h * n := Nat.mul_le_mul_right n hk
 rw [Nat.succ_mul] at h1
 have hl := a.pv.2.1
 have hwh : W * H = ((h * n : Nat) : Int) := by rw [a.hn, a.hh, Int.natCast_mul, Int.mul_comm]
 rw [Int.zero_add, e]
 refine ⟨?_, by omega, by omega, ?_, by omega, ?_, ?_, by omega⟩
 ·rw [wrap_in (n := (k : Int)) (by omega) (by omega), e, wrap_in (n := ((k * n : Nat) : Int)) (by omega) (by omega), wrap_in (n := ((k * n : Nat) : Int) + 0) (by omega) (by omega), wrap_in (by omega) (by omega)]
 ·rw [wrap_in (n := ((k * n : Nat) : Int)) (by omega) (by omega), wrap_in (by omega) (by omega)]; rfl
 ·rw [wrap_in (by omega) (by omega)]; rfl
 ·rw [wrap_in (by omega) (by omega)]; rfl
abbrev gi (W : Int) (P : List Int) : Int → Int → Int := fun x y => AR W P 0 0 (x.toNat + 1) (y.toNat + 1)
theorem zsum {v L : Int} (h : 0 ≤ v ∧ v ≤ L) (hL : L ≤ 4294967296) : wrap64 ((wrap64 ((wrap64 (0 + 0)) - 0)) + v) = v := by
 rw [wrap_in (n := 0 + 0) (by decide) (by decide), wrap_in (n := (0 + 0 : Int) - 0) (by decide) (by decide), wrap_in (by omega) (by omega)]
 omega
theorem wr {v L : Int} (h : 0 ≤ v ∧ v ≤ L) (hL : L ≤ 4294967296) : wrap64 v = v := wrap_in (by omega) (by omega)
theorem lt_cap {l d : Nat} (h : l + d ≤ 1000) : l < 17592186044416 := by omega
theorem step_len {pix : List Int} {v : Int} {d : Nat} (h : pix.length + (d + 1) ≤ 1000) : (pix ++ [v]).length + d ≤ 1000 := by rw [List.length_append, List.length_singleton]; omega
theorem above_step {above : List Int} {i n kk : Nat} {W : Int} {P : List Int} (hia : i < above.length) (hr : ∀ j : Nat, j < n → rd above (j : Int) = AR W P 0 0 (j + 1) (if j < i then kk + 1 else kk)) : ∀ j : Nat, j < n → rd (above.set (i : Int).toNat (AR W P 0 0 (i + 1) (kk + 1))) (j : Int) = AR W P 0 0 (j + 1) (if j < i + 1 then kk + 1 else kk) := by
 intro j hj
 rw [rd_setn hia]
 by_cases hij : i = j
 ·rw [if_pos hij, ← hij, if_pos (Nat.lt_succ_self i)]
 ·rw [if_neg hij, hr j hj]
  by_cases hji : j < i
  ·rw [if_pos hji, if_pos (Nat.lt_succ_of_lt hji)]
  ·rw [if_neg hji, if_neg (fun q => hij (by omega))]
theorem w_l1 (a : WH W H M L P n h) (q2 : Int) (kk : Nat) (hkk : kk < h) {r} : ∀ (d i : Nat) (above pix : List Int), i + d = n → above.length = n → (∀ j : Nat, j < n → rd above (j : Int) = AR W P 0 0 (j + 1) (if j < i then kk + 1 else kk)) → pix.length + d ≤ 1000 →
  (∀ above', above'.length = n → (∀ j : Nat, j < n → rd above' (j : Int) = AR W P 0 0 (j + 1) (kk + 1)) → EV (fun K => integral_Tile.l0 K (List.replicate h 0) (List.replicate n 0) 0 above' (h : Int) ((kk + 1 : Nat) : Int) W H M P 0 0 W H L (n : Int) (h : Int) q2 (pix ++ rowg (gi W P) (kk : Int) d (i : Int))) r) →
  EV (fun K => integral_Tile.l1 K (List.replicate h 0) (List.replicate n 0) 0 above (kk : Int) (RS W P 0 (0 + (kk : Int)) i) (h : Int) (kk : Int) (n : Int) (i : Int) W H M P 0 0 W H L (n : Int) (h : Int) q2 pix) r
 | 0, i, above, pix, hi, ha, hr, hp, hnext => by
  have hi' : i = n := hi
  obtain ⟨z1, z2, z3, z4, -⟩ := wh_nums a
  have hn := hnext above ha (fun j hj => by rw [hr j hj, if_pos (by omega)])
  simp only [rowg, List.append_nil] at hn
  refine EV.step 0 (fun K _ => ?_) hn
  rw [hi', integral_Tile.l1, if_neg (Int.lt_irrefl _), wrap_in (n := (kk : Int) + 1) (by omega) (by omega)]
  rfl
 | d + 1, i, above, pix, hi, ha, hr, hp, hnext => by
  have hi' : i < n := Nat.lt_of_lt_of_le (Nat.lt_add_of_pos_right (Nat.succ_pos d)) (Nat.le_of_eq hi)
  obtain ⟨x1, g0, g1, -, -, x6, -, -⟩ := wh_idx a hi' hkk
  have l32 := a.l32
  have b1 := wh_RS a (i := i + 1) (k := kk) hi' hkk
  have b2 := wh_AR a (i := i + 1) (k := kk + 1) hi' hkk
  have hav := hr i hi'
  rw [if_neg (Nat.lt_irrefl i)] at hav
  have e1 : wrap64 (RS W P 0 (0 + (kk : Int)) i + rd P ((0 + (kk : Int)) * W + 0 + (i : Int))) = RS W P 0 (0 + (kk : Int)) (i + 1) := wr b1 l32
  have e2 : wrap64 (rd above (i : Int) + RS W P 0 (0 + (kk : Int)) (i + 1)) = AR W P 0 0 (i + 1) (kk + 1) := by
   rw [hav]
   exact wr b2 l32
  have hil : (i : Int) < (above.length : Int) := by rw [ha]; exact Int.ofNat_lt.2 hi'
  have hia : i < above.length := by rw [ha]; exact hi'
  have hpc := lt_cap hp
  have hkl : (kk : Int) < ((List.replicate h (0 : Int)).length : Int) := by rw [List.length_replicate]; exact Int.ofNat_lt.2 hkk
  have htl : (i : Int) < ((List.replicate n (0 : Int)).length : Int) := by rw [List.length_replicate]; exact Int.ofNat_lt.2 hi'
  have hid : i + 1 + d = n := by rw [← hi]; exact Nat.succ_add_eq_add_succ i d
  refine EV.step 0 (fun K _ => ?_) (w_l1 a q2 kk hkk d (i + 1) (above.set (i : Int).toNat (AR W P 0 0 (i + 1) (kk + 1))) (pix ++ [AR W P 0 0 (i + 1) (kk + 1)]) hid (by rw [List.length_set]; exact ha) (above_step hia hr) (step_len hp) (fun above' h1 h2 => by
    have := hnext above' h1 h2
    rw [List.append_assoc]
    exact this))
  rw [integral_Tile.l1, if_pos (Int.ofNat_lt.2 hi'), x1, if_pos g0, if_pos g1, if_pos (Int.natCast_nonneg i), if_pos hil, e1, e2, Option.bind_some, if_pos (Int.natCast_nonneg kk), if_pos hkl, if_pos htl, if_pos hpc, rd_setn hia, if_pos rfl, rd_zeros, rd_zeros, zsum b2 l32, x6]
theorem w_l0 (a : WH W H M L P n h) {r} (hr : r = ((n : Int), (h : Int), L, rowsg (gi W P) 0 n h 0, (0 : Int))) (hok : ∀ v ∈ rowsg (gi W P) 0 n h 0, 0 ≤ v ∧ v ≤ L) : ∀ (d kk : Nat) (above pix : List Int), kk + d = h → above.length = n → (∀ j : Nat, j < n → rd above (j : Int) = AR W P 0 0 (j + 1) kk) → pix.length + d * n ≤ 900 → pix ++ rowsg (gi W P) 0 n d (kk : Int) = rowsg (gi W P) 0 n h 0 →
  EV (fun K => integral_Tile.l0 K (List.replicate h 0) (List.replicate n 0) 0 above (h : Int) (kk : Int) W H M P 0 0 W H L (n : Int) (h : Int) L pix) r
 | 0, kk, above, pix, hk, ha, hr', hp, he => by
  have hk' : kk = h := hk
  simp only [rowsg, List.append_nil] at he
  refine EV.now 1001 (fun K hK => ?_)
  obtain ⟨k, rfl⟩ : ∃ k, K = k + 1 := ⟨K - 1, by omega⟩
  rw [hk', integral_Tile.l0, if_neg (Int.lt_irrefl _), in_spec k pix L (by omega) (by omega), Option.bind_some, he, decide_eq_true hok, if_pos rfl, hr]
 | d + 1, kk, above, pix, hk, ha, hr', hp, he => by
  obtain ⟨z1, z2, z3, z4, -⟩ := wh_nums a
  have hs : (d + 1) * n = d * n + n := Nat.succ_mul d n
  refine EV.step 0 (fun K _ => ?_) (w_l1 a L kk (by omega) n 0 above pix (Nat.zero_add n) ha (fun j hj => by rw [hr' j hj, if_neg (Nat.not_lt_zero j)]) (by omega) (fun above' h1 h2 => w_l0 a hr hok d (kk + 1) above' _ (by omega) h1 h2 (by rw [List.length_append, rowg_len]; omega) (by
   rw [List.append_assoc, ← he]
   rfl)))
  rw [integral_Tile.l0, if_pos (show (kk : Int) < (h : Int) by omega)]
  rfl
structure AGR (G T : List Int) (c : Nat) : Prop where
 len : G.length = T.length
 same : ∀ i : Nat, i < c → rd G (i : Int) = rd T (i : Int)
theorem agr_step {G T : List Int} {c : Nat} (hg : AGR G T c) (hc : c < T.length) {v : Int} (hv : v = rd T (c : Int)) : AGR (G.set ((c : Nat) : Int).toNat v) T (c + 1) := by
 refine ⟨by rw [List.length_set]; exact hg.len, fun i hi => ?_⟩
 rw [rd_set (by omega) (by rw [hg.len]; omega) (by omega), hv]
 by_cases q : (c : Int) = (i : Int)
 ·rw [if_pos q, q]
 ·rw [if_neg q]; exact hg.same i (by omega)
theorem pred_y {y h : Nat} (c : ¬ y = 0) (hy : y < h) (hh : h ≤ 31) : ∃ y', y = y' + 1 ∧ y' < h ∧ wrap64 ((y : Int) - 1) = (y' : Int) :=
 ⟨y - 1, by omega, by omega, by rw [wrap_in (by omega) (by omega)]; omega⟩
theorem row_lt {y y' x n : Nat} (h : y = y' + 1) (hn : 1 ≤ n) : y' * n + x < y * n + x := by
 rw [h, Nat.succ_mul]
 omega
theorem r_l1 (a : WH W H M L P n h) {T : List Int} (hT : T = rowsg (gi W P) 0 n h 0) (y : Nat) (hy : y < h) {r} (hnext : ∀ G', AGR G' T ((y + 1) * n) → EV (fun K => tilefarmref13_Whole.l0 K ((y + 1 : Nat) : Int) W H M P W H L G') r) : ∀ (d x : Nat) (G : List Int), x + d = n → AGR G T (y * n + x) →
  EV (fun K => tilefarmref13_Whole.l1 K (y : Int) (RS W P 0 (0 + (y : Int)) x) (x : Int) W H M P W H L G) r
 | 0, x, G, hx, hg => by
  have hx' : x = n := hx
  obtain ⟨z1, z2, z3, z4, -⟩ := wh_nums a
  refine EV.step 0 (fun K _ => ?_) (hnext G (by rw [hx'] at hg; rw [Nat.succ_mul]; exact hg))
  rw [hx', a.hn, tilefarmref13_Whole.l1, if_neg (Int.lt_irrefl _), wrap_in (n := (y : Int) + 1) (by omega) (by omega)]
  rfl
 | d + 1, x, G, hx, hg => by
  have hx' : x < n := Nat.lt_of_lt_of_le (Nat.lt_add_of_pos_right (Nat.succ_pos d)) (Nat.le_of_eq hx)
  have hxd : x + 1 + d = n := by rw [← hx]; exact Nat.succ_add_eq_add_succ x d
  have z3 := (wh_nums a).2.2.2.1
  have z1 := (wh_nums a).1
  obtain ⟨-, g0, g1, x4, x5, x6, -, x8⟩ := wh_idx a hx' hy
  have l32 := a.l32
  have b1 := wh_RS a (i := x + 1) (k := y) hx' hy
  have b2 := wh_AR a (i := x + 1) (k := y + 1) hx' hy
  have hTl : T.length = h * n := by rw [hT]; exact rowsg_len _ _ _ _ _
  have hlt : y * n + x < T.length := by rw [hTl]; exact x5
  have hTv : ∀ y' : Nat, y' < h → rd T ((y' * n + x : Nat) : Int) = AR W P 0 0 (x + 1) (y' + 1) := fun y' hy' => by
   rw [hT, rowsg_rd _ _ _ _ _ y' x hy' hx', Int.zero_add, Int.zero_add]
   show AR W P 0 0 ((x : Int).toNat + 1) ((y' : Int).toNat + 1) = _
   rw [Int.toNat_natCast, Int.toNat_natCast]
  have e1 : wrap64 (RS W P 0 (0 + (y : Int)) x + rd P ((y * n + x : Nat) : Int)) = RS W P 0 (0 + (y : Int)) (x + 1) := by
   rw [x8]
   exact wr b1 l32
  have hgl : ((y * n + x : Nat) : Int) < (G.length : Int) := by rw [hg.len]; exact Int.ofNat_lt.2 hlt
  have hpl : ((y * n + x : Nat) : Int) < (P.length : Int) := by rw [x8]; exact g1
  have hxW : (x : Int) < W := by rw [a.hn]; exact Int.ofNat_lt.2 hx'
  by_cases c : y = 0
  ·refine EV.step 0 (fun K _ => ?_) (r_l1 a hT y hy hnext d (x + 1) _ hxd (agr_step hg hlt (v := RS W P 0 (0 + (y : Int)) (x + 1)) (by rw [hTv y hy]; subst c; exact (Int.zero_add _).symm)))
   rw [tilefarmref13_Whole.l1, if_pos hxW, x4, if_pos (Int.natCast_nonneg _), if_pos hpl, if_pos hgl, e1, Option.bind_some, if_neg (show ¬ (y : Int) > 0 by rw [c]; decide), x6]
  ·obtain ⟨y', hy', hyh, ey⟩ := pred_y c hy z3
   obtain ⟨-, -, -, w4, w5, -, -, -⟩ := wh_idx a hx' hyh
   have hsm := row_lt (x := x) hy' z1
   have hy0 : (y : Int) > 0 := Int.ofNat_lt.2 (Nat.pos_of_ne_zero c)
   have r1 : rd (G.set ((y * n + x : Nat) : Int).toNat (RS W P 0 (0 + (y : Int)) (x + 1))) ((y * n + x : Nat) : Int) = RS W P 0 (0 + (y : Int)) (x + 1) := by
    rw [rd_set (Int.natCast_nonneg _) hgl (Int.natCast_nonneg _), if_pos rfl]
   have r2 : rd (G.set ((y * n + x : Nat) : Int).toNat (RS W P 0 (0 + (y : Int)) (x + 1))) ((y' * n + x : Nat) : Int) = AR W P 0 0 (x + 1) y := by
    rw [rd_set (Int.natCast_nonneg _) hgl (Int.natCast_nonneg _), if_neg (fun q : ((y * n + x : Nat) : Int) = ((y' * n + x : Nat) : Int) => Nat.ne_of_gt hsm (Int.ofNat.inj q)), hg.same _ hsm, hTv y' hyh, hy']
   have e2 : wrap64 (RS W P 0 (0 + (y : Int)) (x + 1) + AR W P 0 0 (x + 1) y) = AR W P 0 0 (x + 1) (y + 1) := by
    rw [Int.add_comm]
    exact wr b2 l32
   have hgl2 : ((y' * n + x : Nat) : Int) < (G.length : Int) := Int.lt_trans (Int.ofNat_lt.2 hsm) hgl
   refine EV.step 0 (fun K _ => ?_) (r_l1 a hT y hy hnext d (x + 1) _ hxd (agr_step hg hlt (v := AR W P 0 0 (x + 1) (y + 1)) (hTv y hy).symm))
   rw [tilefarmref13_Whole.l1, if_pos hxW, x4, if_pos (Int.natCast_nonneg _), if_pos hpl, if_pos hgl, e1, Option.bind_some, if_pos hy0, ey, w4, if_pos (Int.natCast_nonneg _), if_pos hgl2, r1, r2, e2, List.set_set, x6]
theorem r_l0 (a : WH W H M L P n h) {T : List Int} (hT : T = rowsg (gi W P) 0 n h 0) : ∀ (d y : Nat) (G : List Int), y + d = h → AGR G T (y * n) →
  EV (fun K => tilefarmref13_Whole.l0 K (y : Int) W H M P W H L G) (W, H, L, T, (0 : Int))
 | 0, y, G, hy, hg => by
  have hy' : y = h := hy
  have hTl : T.length = h * n := by rw [hT]; exact rowsg_len _ _ _ _ _
  have hG : G = T := rd_ext hg.len (fun i hi => hg.same i (by rw [hy', ← hTl, ← hg.len]; exact hi))
  refine EV.now 1 (fun K hK => ?_)
  obtain ⟨k, rfl⟩ : ∃ k, K = k + 1 := ⟨K - 1, by omega⟩
  rw [hG, hy', tilefarmref13_Whole.l0, if_neg (show ¬ (h : Int) < H by rw [a.hh]; exact Int.lt_irrefl _)]
 | d + 1, y, G, hy, hg => by
  refine EV.step 0 (fun K _ => ?_) (r_l1 a hT y (by omega) (fun G' hg' => r_l0 a hT d (y + 1) G' (by omega) hg') n 0 G (Nat.zero_add n) (by rw [Nat.add_zero]; exact hg))
  rw [tilefarmref13_Whole.l0, if_pos (show (y : Int) < H by rw [a.hh]; omega)]
  rfl
end
theorem whole_same (W H M : Int) (P : List Int) (hP : P.length ≤ 31) : ∃ r : Int × Int × Int × List Int × Int, EV (fun K => integral_Whole.f K W H M P) r ∧ EV (fun K => tilefarmref13_Whole.f K W H M P) r ∧ r.2.2.2.1.length ≤ 10000 := by
 have ep : ∀ K, 200 ≤ K → plane_Valid.f K W H M P = some (decide (PV W H M P)) := fun K hK => pvalid_spec K W H M P (by omega) (by omega)
 have er : ∀ K, 200 ≤ K → tilefarmref4_Valid.f K W H M P = some (decide (PV W H M P)) := fun K hK => by rw [rvalid_same]; exact ep K hK
 by_cases c : PV W H M P
 ·have hc : ∀ K, 200 ≤ K → integral_check.f (K + 1) W H M P = some (if MS W H M then 0 else 11) := fun K hK => by
   unfold integral_check.f integral_shape.f
   rw [ep _ (by omega), decide_eq_true c, Option.bind_some, if_pos rfl, Option.bind_some]
   show ((integral_Check.f (K + 1) W H M).bind fun t => some t) = _
   rw [pcheck_eq, Option.bind_some]
  obtain ⟨rm, rm1, rm2, rm3⟩ := rmost_eq W H M
  by_cases cm : MS W H M
  ·have hS := c.1
   have a : WH W H M (W * H * M) P W.toNat H.toNat := ⟨c, hP, rfl, cm.2.2.2.2, (Int.toNat_of_nonneg (by omega)).symm, (Int.toNat_of_nonneg (by omega)).symm⟩
   obtain ⟨z1, z2, z3, z4, z5, z6, z7, z8, z9⟩ := wh_nums a
   have hne : ¬ ((0 : Int) = 0 ∧ (0 : Int) = 0 ∧ W = 0 ∧ H = 0) := by omega
   have hin : IN W H 0 0 W H := by omega
   have hok : ∀ v ∈ rowsg (gi W P) 0 W.toNat H.toNat 0, 0 ≤ v ∧ v ≤ W * H * M := IP_all c
   have hlen : (rowsg (gi W P) 0 W.toNat H.toNat 0).length ≤ 10000 := by rw [rowsg_len]; omega
   refine ⟨(W, H, W * H * M, rowsg (gi W P) 0 W.toNat H.toNat 0, 0), ?_, ?_, hlen⟩
   ·obtain ⟨N, hN⟩ := w_l0 a (r := ((W.toNat : Int), (H.toNat : Int), W * H * M, rowsg (gi W P) 0 W.toNat H.toNat 0, (0 : Int))) rfl hok H.toNat 0 (List.replicate W.toNat 0) [] (Nat.zero_add _) List.length_replicate (fun j hj => by rw [rd_zeros]; rfl) (by rw [List.length_nil]; omega) (List.nil_append _)
    refine EV.now (max N 1000 + 3) (fun K hK => ?_)
    obtain ⟨k, rfl⟩ : ∃ k, K = k + 1 + 1 + 1 := ⟨K - 3, by omega⟩
    obtain ⟨mv, mv1, mv2, -⟩ := pmost_eq k W H M
    have mono := mv1
    obtain ⟨mw, mw1, mw2, -⟩ := pmost_eq (k + 1) W H M
    rw [mw2 cm] at mw1
    have hz : ∀ (q : Nat), q ≤ 100 → integral_Tile_1.f (k + 1 + 1) (List.replicate q 0) (W * H * M) = some true := fun q hq => by
     rw [in_spec _ _ _ (by rw [List.length_replicate]; omega) (by rw [List.length_replicate]; omega), decide_eq_true (fun v hv => by rw [(List.mem_replicate.1 hv).2]; omega)]
    have h1 : integral_Tile_1.f (k + 1 + 1) [0] (W * H * M) = some true := hz 1 (by omega)
    have hrun := hN (k + 1) (by omega)
    simp only at hrun
    have hT : integral_Tile.f (k + 1 + 1 + 1) W H M P 0 0 W H (List.replicate H.toNat 0) (List.replicate W.toNat 0) 0 = some ((W.toNat : Int), (H.toNat : Int), W * H * M, rowsg (gi W P) 0 W.toNat H.toNat 0, (0 : Int)) := by
     unfold integral_Tile.f
     rw [hc _ (by omega), if_pos cm, Option.bind_some, if_pos rfl, empty_eq, Option.bind_some, decide_eq_false hne, if_neg Bool.false_ne_true, inside_p _ hS.1 hS.2.1 hS.2.2.1 hS.2.2.2.1 hne, Option.bind_some, decide_eq_true hin, if_pos rfl, wrap_in (n := H - 0) (by omega) (by omega), if_pos (show ((List.replicate H.toNat (0 : Int)).length : Int) = H - 0 by rw [List.length_replicate]; omega), wrap_in (n := W - 0) (by omega) (by omega), bne_eq_false_iff_eq.2 (show ((List.replicate W.toNat (0 : Int)).length : Int) = W - 0 by rw [List.length_replicate]; omega), integral_Tile.j0, if_neg Bool.false_ne_true]
     unfold integral_shape.f
     rw [Option.bind_some]
     show ((integral_most.f (k + 1 + 1) W H M).bind _) = _
     rw [mw1, Option.bind_some, h1, Option.bind_some, if_pos rfl, hz _ (by omega), Option.bind_some, if_pos rfl, hz _ (by omega), Option.bind_some, integral_Tile.j1, if_neg (show ¬ (!true) = true by decide), if_pos (Int.natCast_nonneg _), if_pos (show ((List.replicate W.toNat (0 : Int)).length : Int).toNat ≤ 35184372088832 by rw [List.length_replicate, Int.toNat_natCast]; omega), List.length_replicate, List.length_replicate, Int.toNat_natCast]
     exact hrun
    unfold integral_Whole.f
    rw [hc _ (by omega), if_pos cm, Option.bind_some, if_pos rfl, if_pos (show 0 ≤ H by omega), if_pos (show H.toNat ≤ 35184372088832 by omega), if_pos (show 0 ≤ W by omega), if_pos (show W.toNat ≤ 35184372088832 by omega), hT, Option.bind_some, Int.toNat_of_nonneg (by omega), Int.toNat_of_nonneg (by omega)]
   ·have hc31 : W.toNat * H.toNat ≤ 31 := z5
    have hWH : W * H = ((W.toNat * H.toNat : Nat) : Int) := by rw [Int.natCast_mul, Int.toNat_of_nonneg (by omega), Int.toNat_of_nonneg (by omega)]
    have hnew : tilefarmref4_New.f W H (W * H * M) = some (W, H, W * H * M, List.replicate (W.toNat * H.toNat) 0, true) := by
     unfold tilefarmref4_New.f
     rw [rsize_val, decide_eq_true (show SZ W H (W * H * M) from ⟨hS.1, hS.2.1, hS.2.2.1, hS.2.2.2.1, hS.2.2.2.2.1, z7, cm.2.2.2.2⟩), Option.bind_some, if_pos rfl, wrap_in (n := W * H) (by omega) (by omega), if_pos (show 0 ≤ W * H by omega), if_pos (show (W * H).toNat ≤ 35184372088832 by omega), hWH, Int.toNat_natCast]
    refine EV.same 200 (fun K hK => ?_) (r_l0 a rfl H.toNat 0 (List.replicate (W.toNat * H.toNat) 0) (Nat.zero_add _) ⟨by rw [List.length_replicate, rowsg_len, Nat.mul_comm], fun i hi => absurd hi (by rw [Nat.zero_mul]; exact Nat.not_lt_zero i)⟩)
    unfold tilefarmref13_Whole.f tilefarmref13_check.f
    rw [er K hK, decide_eq_true c, Option.bind_some, if_pos rfl, rm1, Option.bind_some, rm2 cm, if_pos rfl, Option.bind_some, if_pos rfl, hnew, Option.bind_some]
    rfl
  ·refine ⟨(0, 0, 0, [], 11), EV.now 201 (fun K hK => ?_), EV.now 201 (fun K hK => ?_), Nat.zero_le _⟩
   ·obtain ⟨k, rfl⟩ : ∃ k, K = k + 1 := ⟨K - 1, by omega⟩
    unfold integral_Whole.f
    rw [hc k (by omega), if_neg cm, Option.bind_some, if_neg (show ¬ (11 : Int) = 0 by decide)]
   ·unfold tilefarmref13_Whole.f tilefarmref13_check.f
    rw [er K (by omega), decide_eq_true c, Option.bind_some, if_pos rfl, rm1, Option.bind_some, rm3 cm, if_neg Bool.false_ne_true, Option.bind_some, if_neg (show ¬ (11 : Int) = 0 by decide)]
 ·refine ⟨(0, 0, 0, [], 1), EV.now 201 (fun K hK => ?_), EV.now 201 (fun K hK => ?_), Nat.zero_le _⟩
  ·unfold integral_Whole.f integral_check.f
   rw [ep K (by omega), decide_eq_false c, Option.bind_some, if_neg Bool.false_ne_true, Option.bind_some, if_neg (show ¬ (1 : Int) = 0 by decide)]
  ·unfold tilefarmref13_Whole.f tilefarmref13_check.f
   rw [er K (by omega), decide_eq_false c, Option.bind_some, if_neg Bool.false_ne_true, Option.bind_some, if_neg (show ¬ (1 : Int) = 0 by decide)]
theorem j1_ok (t : List Int) (W H M : Int) (P : List Int) (hP : P.length ≤ 31) (i r0 r1 r2 r3 s x0 y0 x1 y1 : Int) (hi0 : 0 ≤ i) (hi4 : i < 4) (hnext : EV (fun K => tilefarmlaw13_IntegralWhole.l0 K (i + 1) r0 r1 r2 r3 t s) true) :
  EV (fun K => tilefarmlaw13_IntegralWhole.j1 K i r0 r1 r2 r3 t s W H M P x0 y0 x1 y1) true := by
 obtain ⟨x, ⟨N1, e1⟩, ⟨N2, e2⟩, hx⟩ := whole_same W H M P hP
 obtain ⟨u, ⟨N3, e3⟩, ⟨N4, e4⟩⟩ := sum_same W H M P (by omega) x0 y0 x1 y1
 obtain ⟨v, ⟨N5, e5⟩, ⟨N6, e6⟩⟩ := sum_same x.1 x.2.1 x.2.2.1 x.2.2.2.1 hx x0 y0 x1 y1
 refine EV.step (N1 + N2 + N3 + N4 + N5 + N6 + 20001) (fun K hK => ?_) hnext
 have f1 := e1 K (by omega)
 have f2 := e2 K (by omega)
 have f3 := e3 K (by omega)
 have f4 := e4 K (by omega)
 have f5 := e5 K (by omega)
 have f6 := e6 K (by omega)
 simp only at f1 f2 f3 f4 f5 f6
 obtain ⟨k, rfl⟩ : ∃ k, K = k + 1 := ⟨K - 1, by omega⟩
 rw [tilefarmlaw13_IntegralWhole.j1, f1, Option.bind_some, f2, Option.bind_some, f3, Option.bind_some, f4, Option.bind_some, f5, Option.bind_some, f6, Option.bind_some, equal_eq _ _ _ _ hx (k + 1) (by omega), Option.bind_some, if_pos rfl, if_pos rfl, if_pos rfl, if_pos rfl, if_pos rfl, if_pos rfl, pcheck_eq, Option.bind_some, rcheck_eq, Option.bind_some, if_pos rfl, wrap_in (n := i + 1) (by omega) (by omega)]
theorem ll0 (t : List Int) (ht : t.length ≤ 4611686018427387904) (r0 r1 r2 r3 : Int) : ∀ (d : Nat) (i s : Int), i + (d : Int) = 4 → 0 ≤ i → 0 ≤ s → EV (fun K => tilefarmlaw13_IntegralWhole.l0 K i r0 r1 r2 r3 t s) true
 | 0, i, s, hi, i0, hs => by
  refine EV.now 101 (fun K hK => ?_)
  obtain ⟨k, rfl⟩ : ∃ k, K = k + 1 := ⟨K - 1, by omega⟩
  have hsane : tilefarmlaw13_sane.f k = some true := at_rounds tilefarmlaw13_sane.mono (by omega) sane_eq
  rw [tilefarmlaw13_IntegralWhole.l0, if_neg (show ¬ i < 4 by omega), hsane, Option.bind_some]
 | d + 1, i, s, hi, i0, hs => by
  obtain ⟨p, p1, p2, p3, p4, p5, p6, p7, p8, p9, p10⟩ := plane_spec 2000 (by omega) t ht s hs
  obtain ⟨hPV, hPl⟩ := plane_PV p2 p3 p4 p5 p6 p7 p8 p9
  obtain ⟨a, b, c, e, s', w1, w2, w3, w4, w5, w6, w7, w8⟩ := within_spec t p.2.2.2.2 p.1 p.2.1 p10 ht (by omega) (by omega) (by omega) (by omega)
  have q1 : ∀ K, 2000 ≤ K → tilefarmgen_Tape_Plane.f K t s = some p := fun K hK => at_rounds (tilefarmgen_Tape_Plane.mono t s) hK p1
  by_cases c2 : i = 2
  ·obtain ⟨z, z1, z2, z3⟩ := spoil_o t ht s' p.1 p.2.1 p.2.2.1 p.2.2.2.1 w2 (by omega)
   refine EV.step 2000 (fun K hK => ?_) (j1_ok t z.1 z.2.1 z.2.2.1 z.2.2.2.1 (by omega) i r0 r1 r2 r3 z.2.2.2.2 a b c e i0 (by omega) (ll0 t ht r0 r1 r2 r3 d (i + 1) z.2.2.2.2 (by omega) (by omega) z3))
   rw [tilefarmlaw13_IntegralWhole.l0, if_pos (show i < 4 by omega), q1 K hK, Option.bind_some, w1, Option.bind_some, if_pos c2, z1, Option.bind_some]
  ·by_cases c3 : i = 3
   ·obtain ⟨v, v1, -, v3⟩ := pick_o t s' [4294967296, wrap64 ((4294967296 : Int) / (wrap64 (p.1 * p.2.1))), p.2.2.1] w2 ht (by simp) (by simp)
    have hWH : 1 * 1 ≤ p.1 * p.2.1 := Int.mul_le_mul hPV.1.1 hPV.1.2.2.1 (by decide) (by omega)
    have hWH2 := hPV.1.2.2.2.2.1
    refine EV.step 2000 (fun K hK => ?_) (j1_ok t p.1 p.2.1 v.1 p.2.2.2.1 (by omega) i r0 r1 r2 r3 v.2 r0 r1 r2 r3 i0 (by omega) (ll0 t ht r0 r1 r2 r3 d (i + 1) v.2 (by omega) (by omega) v3))
    rw [tilefarmlaw13_IntegralWhole.l0, if_pos (show i < 4 by omega), q1 K hK, Option.bind_some, w1, Option.bind_some, if_neg c2, if_pos c3, if_neg (show ¬ wrap64 (p.1 * p.2.1) = 0 by rw [wrap_in (by omega) (by omega)]; omega), v1, Option.bind_some]
   ·refine EV.step 2000 (fun K hK => ?_) (j1_ok t p.1 p.2.1 p.2.2.1 p.2.2.2.1 (by omega) i r0 r1 r2 r3 s' a b c e i0 (by omega) (ll0 t ht r0 r1 r2 r3 d (i + 1) s' (by omega) (by omega) w2))
    rw [tilefarmlaw13_IntegralWhole.l0, if_pos (show i < 4 by omega), q1 K hK, Option.bind_some, w1, Option.bind_some, if_neg c2, if_neg c3]
theorem IntegralWhole : tilefarmlaw13_IntegralWhole.Pure := by
 intro t a b c r0 r1 r2 r3 _ hl _ _ _ _ _ _ _ _
 obtain ⟨N, hN⟩ := ll0 t (by omega) r0 r1 r2 r3 4 0 0 (by decide) (by decide) (by decide)
 have hrun := hN (N + 1) (Nat.le_succ N)
 refine ⟨N + 1, ?_⟩
 unfold tilefarmlaw13_IntegralWhole.f tilefarmgen_New.f
 rw [Option.bind_some, pcheck_eq, Option.bind_some, rcheck_eq, Option.bind_some, if_pos rfl]
 exact hrun
end Go.Proofs.Ytkipnpgcpohlcaa.Pure
namespace Go.Proofs.Ytkipnpgcpohlcaa
open Go.ChangeShapes Go.WideShapes
theorem PrintWords.sized_ints {H : Type} {enc : TypeId × Value → H} {P : Program} {W : World} {base : Nat} {spare : Nat → Bool} {held : Bool} {t e : TypeId} {k : IntKind} {a : Option Addr} {len cap : Nat} {d : DataW H} {ps : List MemPlace} {ts : List TypeId} {ds : List (DataW H)} {j : Nat}
  (hsz : (DataW.weightsEach P ts ds).all (· ≤ reachBytes) = true) (ht : ts[j]? = some t) (hd : ds[j]? = some d) (hu : P.underlying t = some (.slice e)) (he : P.underlying e = some (.int k)) (hc : P.cellsOf e = 1) {B : Nat} (hB : P.bytesOf e = B)
  (h : DataW.Trod enc P W base spare held t (.slice a len cap) d ps) : len * B ≤ 140737488351232 :=
 Go.Proofs.YtkipnpgcpohlcaaW.PrintWords.sized_ints hsz ht hd hu he hc hB h
end Go.Proofs.Ytkipnpgcpohlcaa

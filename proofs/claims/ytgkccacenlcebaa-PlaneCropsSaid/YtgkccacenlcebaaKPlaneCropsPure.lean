/- Crops and blits of made planes, at arbitrary rectangles and places, are those of the reference: for every tape, every rectangle and every place. -/
import Derived.Test.YtgkccacenlcebaaKPlaneCropsx17
import Derived.Test.YtgkccacenlcebaaKPlaneCropsa
namespace Go.Proofs.Ytgkccacenlcebaa.Pure
open Go.RowKit Go.Proofs.Ytgkccacenlcebaa.PPlaneCrops Go.Proofs.YtgkccacenlcebaaW.PrintWords Go.Proofs.YtgkccacenlcebaaW.PrintLast Go.Proofs.YtgkccacenlcebaaW.PrintMore
set_option linter.unusedVariables false
set_option linter.unusedSimpArgs false
theorem wrap_in {n : Int} (h : -9223372036854775808 ≤ n) (h' : n ≤ 9223372036854775807) : wrap64 n = n := by unfold wrap64; omega
theorem tmod_emod (a n : Int) (h : 0 < n) : (0 ≤ Int.tmod a n ∧ Int.tmod a n = a % n) ∨ (Int.tmod a n < 0 ∧ Int.tmod a n + n = a % n) := by
 have h1 := Int.tmod_eq_emod (a := a) (b := n)
 have h2 := Int.emod_nonneg a (by omega : n ≠ 0)
 have h3 := Int.emod_lt_of_pos a h
 split at h1 <;> omega
theorem mod_eq (a n : Int) (h : 0 < n) (hn : n ≤ 4611686018427387904) : tilefarmgen_Mod.f a n = some (a % n) := by
 have h2 := Int.emod_nonneg a (by omega : n ≠ 0)
 have h3 := Int.emod_lt_of_pos a h
 unfold tilefarmgen_Mod.f
 rw [if_neg (by omega)]
 rcases tmod_emod a n h with ⟨h4, h5⟩ | ⟨h4, h5⟩
 ·rw [if_neg (by omega), h5]
 ·rw [if_pos h4, wrap_in (by omega) (by omega), h5]
theorem sd_true {p : Prop} [Decidable p] (h : p) : some true = some (decide p) := by rw [decide_eq_true h]
theorem sd_false {p : Prop} [Decidable p] (h : ¬ p) : some false = some (decide p) := by rw [decide_eq_false h]
theorem sd_iff {p q : Prop} [Decidable p] [Decidable q] (h : q ↔ p) : some (decide q) = some (decide p) := by rw [decide_eq_decide.2 h]
theorem mx_max (a b : Int) : mx a b = max a b := by unfold mx; omega
theorem mn_min (a b : Int) : mn a b = min a b := by unfold mn; omega
theorem mul_bd {x y B C : Int} (hx : 0 ≤ x) (hy : 0 ≤ y) (hxB : x ≤ B) (hyB : y ≤ C) : 0 ≤ x * y ∧ x * y ≤ B * C :=
 ⟨Int.mul_nonneg hx hy, Int.mul_le_mul hxB hyB hy (by omega)⟩
theorem next_spec (l : List Int) (s n : Int) (hs : 0 ≤ s) (hl : l.length ≤ 4611686018427387904) (h : 0 < n) (hn : n ≤ 4611686018427387904) :
  ∃ r s', tilefarmgen_Tape_Next.f l s n = some (r, s') ∧ 0 ≤ r ∧ r < n ∧ 0 ≤ s' := by
 unfold tilefarmgen_Tape_Next.f
 rw [if_neg (by omega)]
 by_cases h1 : s ≥ (l.length : Int)
 ·rw [if_pos h1]; exact ⟨_, _, rfl, by omega, by omega, hs⟩
 ·have e1 : wrap64 (s + 1) = s + 1 := wrap_in (by omega) (by omega)
  have e2 : wrap64 (s + 1 - 1) = s := by rw [wrap_in (by omega) (by omega)]; omega
  rw [if_neg h1]
  simp only [e1, e2]
  rw [if_pos hs, if_pos (by omega), mod_eq _ _ h hn]
  exact ⟨_, _, rfl, Int.emod_nonneg _ (by omega), Int.emod_lt_of_pos _ h, by omega⟩
theorem rd_mem (l : List Int) (i : Nat) (h : i < l.length) : rd l (i : Int) ∈ l := by
 simp [rd, h]
theorem rd_drop (l : List Int) (i : Nat) (h : i < l.length) : l.drop i = rd l (i : Int) :: l.drop (i + 1) := by
 rw [List.drop_eq_getElem_cons h]
 simp [rd, h]
theorem next_o (l : List Int) (s n : Int) (hs : 0 ≤ s) (hl : l.length ≤ 4611686018427387904) (h : 0 < n) (hn : n ≤ 4611686018427387904) :
  ∃ bt, tilefarmgen_Tape_Next.f l s n = some bt ∧ 0 ≤ bt.1 ∧ bt.1 < n ∧ 0 ≤ bt.2 := by
 obtain ⟨r, s', h1, h2, h3, h4⟩ := next_spec l s n hs hl h hn
 exact ⟨(r, s'), h1, h2, h3, h4⟩
theorem pick_o (l : List Int) (s : Int) (xs : List Int) (hs : 0 ≤ s) (hl : l.length ≤ 4611686018427387904) (h : 0 < xs.length) (hx : xs.length ≤ 100) :
  ∃ bt, tilefarmgen_Tape_Pick.f l s xs = some bt ∧ bt.1 ∈ xs ∧ 0 ≤ bt.2 := by
 obtain ⟨r, s', h1, h2, h3, h4⟩ := next_spec l s (xs.length : Int) hs hl (by omega) (by omega)
 refine ⟨(rd xs r, s'), ?_, ?_, h4⟩
 ·unfold tilefarmgen_Tape_Pick.f
  rw [h1, Option.bind_some, if_pos h2, if_pos h3]
 ·obtain ⟨n, rfl⟩ := Int.eq_ofNat_of_zero_le h2
  exact rd_mem xs n (by omega)
abbrev V (a b c d : Int) : Prop := (a = 0 ∧ b = 0 ∧ c = 0 ∧ d = 0) ∨ (-1048576 ≤ a ∧ a ≤ 1048576 ∧ -1048576 ≤ b ∧ b ≤ 1048576 ∧ -1048576 ≤ c ∧ c ≤ 1048576 ∧ -1048576 ≤ d ∧ d ≤ 1048576 ∧ a < c ∧ b < d)
theorem empty_eq (a b c d : Int) : rect_Empty.f a b c d = some (decide (a = 0 ∧ b = 0 ∧ c = 0 ∧ d = 0)) := by
 unfold rect_Empty.f
 congr 1
 rw [Bool.eq_iff_iff]
 simp
theorem coord_eq (a : Int) : rect_coord.f a = some (decide (-1048576 ≤ a ∧ a ≤ 1048576)) := by
 unfold rect_coord.f
 split <;> congr 1 <;> rw [Bool.eq_iff_iff] <;> simp <;> omega
theorem valid_eq (a b c d : Int) : rect_Valid.f a b c d = some (decide (V a b c d)) := by
 unfold rect_Valid.f
 simp only [empty_eq, coord_eq, Option.bind_some, decide_eq_true_eq]
 repeat' split
 all_goals first | (refine sd_iff ?_; omega) | (refine sd_true ?_; omega) | (refine sd_false ?_; omega)
theorem ref_coord_eq (a : Int) : tilefarmref2_coord.f a = some (decide (-1048576 ≤ a ∧ a ≤ 1048576)) := by
 unfold tilefarmref2_coord.f
 split <;> congr 1 <;> rw [Bool.eq_iff_iff] <;> simp <;> omega
theorem ref_valid_eq (a b c d : Int) : tilefarmref2_Valid.f a b c d = some (decide (V a b c d)) := by
 unfold tilefarmref2_Valid.f
 simp only [ref_coord_eq, Option.bind_some, decide_eq_true_eq, V, Bool.and_eq_true, beq_iff_eq]
 repeat' split
 all_goals first | (refine sd_iff ?_; omega) | (refine sd_true ?_; omega) | (refine sd_false ?_; omega)
def ix (a0 a1 a2 a3 b0 b1 b2 b3 : Int) : Int × Int × Int × Int :=
 if V a0 a1 a2 a3 ∧ V b0 b1 b2 b3 ∧ mx a0 b0 < mn a2 b2 ∧ mx a1 b1 < mn a3 b3 then (mx a0 b0, mx a1 b1, mn a2 b2, mn a3 b3) else (0, 0, 0, 0)
theorem intersect_eq (k : Nat) (a0 a1 a2 a3 b0 b1 b2 b3 : Int) : rect_Intersect.f (k + 1) a0 a1 a2 a3 b0 b1 b2 b3 = some (ix a0 a1 a2 a3 b0 b1 b2 b3) := by
 unfold rect_Intersect.f ix
 simp only [valid_eq, Option.bind_some, rect_Intersect.j0, decide_eq_true_eq, Bool.not_eq_true', decide_eq_false_iff_not, if_true]
 by_cases h1 : V a0 a1 a2 a3
 ·by_cases h2 : V b0 b1 b2 b3
  ·rw [if_pos h1, if_neg (fun h => h h2)]
   by_cases h3 : mx a0 b0 < mn a2 b2
   ·by_cases h4 : mx a1 b1 < mn a3 b3
    ·rw [if_neg (by omega), if_neg (by omega), if_pos ⟨h1, h2, h3, h4⟩]
    ·rw [if_neg (by omega), if_pos (by omega), if_neg (fun h => h4 h.2.2.2)]
   ·rw [if_pos (by omega), if_neg (fun h => h3 h.2.2.1)]
  ·rw [if_pos h1, if_pos h2, if_neg (fun h => h2 h.2.1)]
 ·rw [if_neg h1, if_neg (fun h => h1 h.1)]
theorem mul_some (a b c : Int) : ∃ p, extent_Mul.f a b c = some p := by
 unfold extent_Mul.f
 by_cases c1 : a < 0
 ·rw [if_pos c1]; exact ⟨_, rfl⟩
 ·rw [if_neg c1]
  by_cases c2 : b < 0
  ·rw [if_pos c2]; exact ⟨_, rfl⟩
  ·rw [if_neg c2]
   by_cases c3 : c < 0
   ·rw [if_pos c3]; exact ⟨_, rfl⟩
   ·rw [if_neg c3]
    by_cases c4 : a = 0
    ·rw [if_pos c4]; exact ⟨_, rfl⟩
    ·rw [if_neg c4]
     by_cases c5 : b > wrap64 (Int.tdiv c a)
     ·rw [if_pos c5]; exact ⟨_, rfl⟩
     ·rw [if_neg c5]; exact ⟨_, rfl⟩
abbrev SZ (a b m : Int) : Prop := 1 ≤ a ∧ a ≤ 128 ∧ 1 ≤ b ∧ b ≤ 128 ∧ a * b ≤ 4096 ∧ 1 ≤ m ∧ m ≤ 4294967296
theorem size_no {a b m : Int} (h : ¬ SZ a b m) : some false = some (decide (SZ a b m)) := by rw [decide_eq_false h]
theorem size_val (a b m : Int) : plane_size.f a b m = some (decide (SZ a b m)) := by
 unfold plane_size.f
 by_cases c1 : a ≥ 1
 ·by_cases c2 : a ≤ 128
  ·by_cases c3 : b ≥ 1
   ·by_cases c4 : b ≤ 128
    ·obtain ⟨b0, b1⟩ := mul_bd (x := a) (y := b) (B := 128) (C := 128) (by omega) (by omega) c2 c4
     have hq : b ≤ 4096 / a ↔ b * a ≤ 4096 := Int.le_ediv_iff_mul_le (by omega)
     have q0 : 0 ≤ 4096 / a := Int.ediv_nonneg (by decide) (by omega)
     have q1 : 4096 / a ≤ 4096 := Int.ediv_le_self _ (by decide)
     rw [Int.mul_comm b a] at hq
     unfold extent_Mul.f
     rw [if_neg (show ¬ a < 0 by omega), if_neg (show ¬ b < 0 by omega), if_neg (show ¬ (4096 : Int) < 0 by decide), if_neg (show ¬ a = 0 by omega), Int.tdiv_eq_ediv_of_nonneg (by decide), wrap_in (n := 4096 / a) (by omega) (by omega), wrap_in (n := a * b) (by omega) (by omega)]
     by_cases c5 : b > 4096 / a
     ·rw [if_pos c5]
      exact size_no (fun h => by have := hq.2 h.2.2.2.2.1; omega)
     ·rw [if_neg c5, Option.bind_some]
      simp only [if_pos c1, if_pos c2, if_pos c3, if_pos c4, if_true]
      by_cases c6 : m ≥ 1
      ·rw [if_pos c6]
       have := hq.1 (by omega)
       exact congrArg some (decide_eq_decide.2 ⟨fun h => ⟨c1, c2, c3, c4, this, c6, h⟩, fun h => h.2.2.2.2.2.2⟩)
      ·rw [if_neg c6]
       exact size_no (fun h => c6 h.2.2.2.2.2.1)
    ·obtain ⟨p, hp⟩ := mul_some a b 4096
     rw [hp, Option.bind_some]
     simp only [if_pos c1, if_pos c2, if_pos c3, if_neg c4, ite_self]
     exact size_no (fun h => c4 h.2.2.2.1)
   ·obtain ⟨p, hp⟩ := mul_some a b 4096
    rw [hp, Option.bind_some]
    simp only [if_pos c1, if_pos c2, if_neg c3, ite_self]
    exact size_no (fun h => c3 h.2.2.1)
  ·obtain ⟨p, hp⟩ := mul_some a b 4096
   rw [hp, Option.bind_some]
   simp only [if_pos c1, if_neg c2, ite_self]
   exact size_no (fun h => c2 h.2.1)
 ·obtain ⟨p, hp⟩ := mul_some a b 4096
  rw [hp, Option.bind_some]
  simp only [if_neg c1, ite_self]
  exact size_no (fun h => c1 h.1)
abbrev PV (a b m : Int) (l : List Int) : Prop := SZ a b m ∧ (l.length : Int) = a * b ∧ ∀ v ∈ l, 0 ≤ v ∧ v ≤ m
theorem vloop_spec (a b m : Int) (l : List Int) (hl : l.length ≤ 4611686018427387904) : ∀ (d k i : Nat), i + d = l.length → d < k →
  plane_Valid.l0 k l (l.length : Int) (i : Int) a b m l = some (decide (∀ v ∈ l.drop i, 0 ≤ v ∧ v ≤ m))
 | 0, k, i, hi, hk => by
  obtain ⟨k, rfl⟩ : ∃ n, k = n + 1 := ⟨k - 1, by omega⟩
  rw [plane_Valid.l0, if_neg (show ¬ (i : Int) < (l.length : Int) by omega), List.drop_eq_nil_of_le (by omega)]
  simp
 | d + 1, k, i, hi, hk => by
  obtain ⟨k, rfl⟩ : ∃ n, k = n + 1 := ⟨k - 1, by omega⟩
  rw [plane_Valid.l0, rd_drop l i (by omega)]
  simp only [if_pos (show (i : Int) < (l.length : Int) by omega), if_pos (show 0 ≤ (i : Int) by omega), List.mem_cons, forall_eq_or_imp]
  rw [wrap_in (n := (i : Int) + 1) (by omega) (by omega), show ((i : Int) + 1) = ((i + 1 : Nat) : Int) from rfl, vloop_spec a b m l hl d k (i + 1) (by omega) (by omega)]
  by_cases c1 : rd l (i : Int) < 0
  ·rw [if_pos c1]
   exact sd_false (fun h => by omega)
  ·rw [if_neg c1]
   by_cases c2 : rd l (i : Int) > m
   ·rw [if_pos c2]
    exact sd_false (fun h => by omega)
   ·rw [if_neg c2]
    exact sd_iff ⟨fun h => ⟨by omega, h⟩, fun h => h.2⟩
theorem pvalid_spec (k : Nat) (a b m : Int) (l : List Int) (hl : l.length ≤ 4611686018427387904) (hk : l.length + 1 < k) : plane_Valid.f k a b m l = some (decide (PV a b m l)) := by
 obtain ⟨k, rfl⟩ : ∃ n, k = n + 1 := ⟨k - 1, by omega⟩
 unfold plane_Valid.f
 rw [size_val, Option.bind_some]
 by_cases c1 : SZ a b m
 ·rw [decide_eq_true c1, if_pos rfl]
  obtain ⟨b0, b1⟩ := mul_bd (x := a) (y := b) (B := 128) (C := 128) (by omega) (by omega) c1.2.1 c1.2.2.2.1
  simp only [plane_Valid.j0]
  rw [wrap_in (n := a * b) (by omega) (by omega)]
  by_cases c2 : (l.length : Int) = a * b
  ·rw [bne_eq_false_iff_eq.2 c2, if_neg Bool.false_ne_true]
   have hv := vloop_spec a b m l hl l.length k 0 (by omega) (by omega)
   rw [List.drop_zero] at hv
   exact hv.trans (sd_iff ⟨fun h => ⟨c1, c2, h⟩, fun h => h.2.2⟩)
  ·rw [bne_iff_ne.2 c2, if_pos rfl]
   exact sd_false (fun h => c2 h.2.1)
 ·rw [decide_eq_false c1, if_neg Bool.false_ne_true]
  exact sd_false (fun h => c1 h.1)
theorem set_all (P : Int → Prop) (l : List Int) (i : Nat) (v : Int) (h : ∀ x ∈ l, P x) (hv : P v) : ∀ x ∈ l.set i v, P x := by
 intro x hx
 rcases List.mem_or_eq_of_mem_set hx with hx | hx
 ·exact h x hx
 ·rw [hx]; exact hv
theorem sized_loop (t : List Int) (ht : t.length ≤ 4611686018427387904) (a b m : Int) (hm : 1 ≤ m) (hm' : m ≤ 4294967296) : ∀ (d k i : Nat) (s : Int) (l : List Int), 0 ≤ s → i + d = l.length → l.length ≤ 100000 → d < k →
  (∀ v ∈ l, 0 ≤ v ∧ v ≤ m) → ∃ bt, tilefarmgen_Tape_Sized.l0 k (i : Int) t s a b m l = some bt ∧ bt.1 = a ∧ bt.2.1 = b ∧ bt.2.2.1 = m ∧ bt.2.2.2.1.length = l.length ∧ (∀ v ∈ bt.2.2.2.1, 0 ≤ v ∧ v ≤ m) ∧ 0 ≤ bt.2.2.2.2
 | 0, k, i, s, l, hs, hi, hl, hk, hv => by
  obtain ⟨k, rfl⟩ : ∃ n, k = n + 1 := ⟨k - 1, by omega⟩
  rw [tilefarmgen_Tape_Sized.l0, if_neg (show ¬ (i : Int) < (l.length : Int) by omega)]
  exact ⟨_, rfl, rfl, rfl, rfl, rfl, hv, hs⟩
 | d + 1, k, i, s, l, hs, hi, hl, hk, hv => by
  obtain ⟨k, rfl⟩ : ∃ n, k = n + 1 := ⟨k - 1, by omega⟩
  rw [tilefarmgen_Tape_Sized.l0, if_pos (show (i : Int) < (l.length : Int) by omega), wrap_in (n := m + 1) (by omega) (by omega)]
  obtain ⟨r1, h1, h1a, h1b, h1c⟩ := next_o t s (m + 1) hs ht (by omega) (by omega)
  obtain ⟨r2, h2, h2a, h2b, h2c⟩ := next_o t r1.2 (m + 1) h1c ht (by omega) (by omega)
  obtain ⟨r3, h3, h3a, h3b⟩ := pick_o t r2.2 [r1.1, r2.1, m, 0] h2c ht (by simp) (by simp)
  rw [h1, Option.bind_some, h2, Option.bind_some, h3, Option.bind_some, if_pos (show 0 ≤ (i : Int) by omega), wrap_in (n := (i : Int) + 1) (by omega) (by omega)]
  have hr : 0 ≤ r3.1 ∧ r3.1 ≤ m := by
   simp only [List.mem_cons, List.not_mem_nil, or_false] at h3a
   clear h1 h2 h3 hv
   omega
  obtain ⟨bt, g1, g2, g3, g4, g5, g6, g7⟩ := sized_loop t ht a b m hm hm' d k (i + 1) r3.2 (l.set (i : Int).toNat r3.1) h3b (by rw [List.length_set]; omega) (by rw [List.length_set]; omega) (by omega) (set_all _ l _ _ hv hr)
  exact ⟨bt, g1, g2, g3, g4, by rw [g5, List.length_set], g6, g7⟩
theorem sized_spec (K : Nat) (hK : 2000 ≤ K) (t : List Int) (ht : t.length ≤ 4611686018427387904) (s a b : Int) (hs : 0 ≤ s) (ha : 1 ≤ a) (ha' : a ≤ 30) (hb : 1 ≤ b) (hb' : b ≤ 30) :
  ∃ bt, tilefarmgen_Tape_Sized.f K t s a b = some bt ∧ bt.1 = a ∧ bt.2.1 = b ∧ 1 ≤ bt.2.2.1 ∧ bt.2.2.1 ≤ 65535 ∧ (bt.2.2.2.1.length : Int) = a * b ∧ (∀ v ∈ bt.2.2.2.1, 0 ≤ v ∧ v ≤ bt.2.2.1) ∧ 0 ≤ bt.2.2.2.2 := by
 obtain ⟨r, h1, h1a, h1b⟩ := pick_o t s [255, 255, 65535, 1, 7] hs ht (by simp) (by simp)
 have hr : 1 ≤ r.1 ∧ r.1 ≤ 65535 := by
  simp only [List.mem_cons, List.not_mem_nil, or_false] at h1a
  clear h1
  omega
 obtain ⟨m0, m1⟩ := mul_bd (x := a) (y := b) (B := 30) (C := 30) (by omega) (by omega) ha' hb'
 unfold tilefarmgen_Tape_Sized.f
 rw [h1, Option.bind_some, wrap_in (n := a * b) (by omega) (by omega), if_pos m0, if_pos (show (a * b : Int).toNat ≤ 35184372088832 by omega)]
 obtain ⟨bt, g1, g2, g3, g4, g5, g6, g7⟩ := sized_loop t ht a b r.1 hr.1 (by omega) (a * b : Int).toNat K 0 r.2 (List.replicate (a * b : Int).toNat 0) h1b (by rw [List.length_replicate]; omega) (by rw [List.length_replicate]; omega) (by omega) (fun v hv => by rw [List.eq_of_mem_replicate hv]; omega)
 rw [List.length_replicate] at g5
 exact ⟨bt, g1, g2, g3, by rw [g4]; exact hr.1, by rw [g4]; exact hr.2, by rw [g5]; omega, by rw [g4]; exact g6, g7⟩
theorem plane_spec (K : Nat) (hK : 2000 ≤ K) (t : List Int) (ht : t.length ≤ 4611686018427387904) (s : Int) (hs : 0 ≤ s) :
  ∃ bt, tilefarmgen_Tape_Plane.f K t s = some bt ∧ 1 ≤ bt.1 ∧ bt.1 ≤ 6 ∧ 1 ≤ bt.2.1 ∧ bt.2.1 ≤ 5 ∧ 1 ≤ bt.2.2.1 ∧ bt.2.2.1 ≤ 65535 ∧ (bt.2.2.2.1.length : Int) = bt.1 * bt.2.1 ∧ (∀ v ∈ bt.2.2.2.1, 0 ≤ v ∧ v ≤ bt.2.2.1) ∧ 0 ≤ bt.2.2.2.2 := by
 obtain ⟨r1, h1, h1a, h1b, h1c⟩ := next_o t s 6 hs ht (by omega) (by omega)
 obtain ⟨r2, h2, h2a, h2b, h2c⟩ := next_o t r1.2 5 h1c ht (by omega) (by omega)
 obtain ⟨bt, g1, g2, g3, g4, g5, g6, g7, g8⟩ := sized_spec K hK t ht r2.2 (1 + r1.1) (1 + r2.1) h2c (by omega) (by omega) (by omega) (by omega)
 refine ⟨bt, ?_, by omega, by omega, by omega, by omega, g4, g5, by rw [g6, g2, g3], g7, g8⟩
 unfold tilefarmgen_Tape_Plane.f
 rw [h1, Option.bind_some, h2, Option.bind_some, wrap_in (n := 1 + r1.1) (by omega) (by omega), wrap_in (n := 1 + r2.1) (by omega) (by omega), g1, Option.bind_some]
theorem plane_PV {a b m : Int} {l : List Int} (h1 : 1 ≤ a) (h2 : a ≤ 6) (h3 : 1 ≤ b) (h4 : b ≤ 5) (h5 : 1 ≤ m) (h6 : m ≤ 65535) (h7 : (l.length : Int) = a * b) (h8 : ∀ v ∈ l, 0 ≤ v ∧ v ≤ m) : PV a b m l ∧ l.length ≤ 30 := by
 obtain ⟨m0, m1⟩ := mul_bd (x := a) (y := b) (B := 6) (C := 5) (by omega) (by omega) h2 h4
 exact ⟨⟨⟨h1, by omega, h3, by omega, by omega, h5, by omega⟩, h7, h8⟩, by omega⟩
theorem rect_spec (l : List Int) (s : Int) (hs : 0 ≤ s) (hl : l.length ≤ 4611686018427387904) : ∃ a b c d s', tilefarmgen_Tape_Rect.f l s = some (a, b, c, d, s') ∧ 0 ≤ s' := by
 obtain ⟨r1, s1, h1, h1a, h1b, h1c⟩ := next_spec l s 8 hs hl (by omega) (by omega)
 obtain ⟨r2, s2, h2, h2a, h2b, h2c⟩ := next_spec l s1 8 h1c hl (by omega) (by omega)
 obtain ⟨r3, s3, h3, h3a, h3b, h3c⟩ := next_spec l s2 6 h2c hl (by omega) (by omega)
 obtain ⟨r4, s4, h4, h4a, h4b, h4c⟩ := next_spec l s3 6 h3c hl (by omega) (by omega)
 obtain ⟨r5, s5, h5, h5a, h5b, h5c⟩ := next_spec l s4 14 h4c hl (by omega) (by omega)
 obtain ⟨r6, s6, h6, h6a, h6b, h6c⟩ := next_spec l s5 2 h5c hl (by omega) (by omega)
 obtain ⟨r7, s7, h7, h7a, h7b, h7c⟩ := next_spec l s6 2 h6c hl (by omega) (by omega)
 unfold tilefarmgen_Tape_Rect.f tilefarmgen_Tape_Pick.f
 simp only [h1, h2, h3, h4, h5, h6, h7, Option.bind_some, List.length_cons, List.length_nil, Nat.zero_add, Nat.reduceAdd, Int.cast_ofNat_Int, h6a, h6b, h7a, h7b, if_true]
 split
 ·exact ⟨_, _, _, _, _, rfl, h5c⟩
 ·split
  ·exact ⟨_, _, _, _, _, rfl, h5c⟩
  ·split
   ·exact ⟨_, _, _, _, _, rfl, h7c⟩
   ·exact ⟨_, _, _, _, _, rfl, h5c⟩
abbrev IN (W H x0 y0 x1 y1 : Int) : Prop := 0 ≤ x0 ∧ x0 < x1 ∧ x1 ≤ W ∧ 0 ≤ y0 ∧ y0 < y1 ∧ y1 ≤ H
theorem inside_p (k : Nat) {W H : Int} (hW : 1 ≤ W) (hW' : W ≤ 128) (hH : 1 ≤ H) (hH' : H ≤ 128) {a b c d : Int} (hz : ¬ (a = 0 ∧ b = 0 ∧ c = 0 ∧ d = 0)) : rect_Inside.f (k + 1) a b c d 0 0 W H = some (decide (IN W H a b c d)) := by
 have hb : V 0 0 W H := .inr (by omega)
 unfold rect_Inside.f
 rw [valid_eq, Option.bind_some]
 by_cases ha : V a b c d
 ·rw [decide_eq_true ha, if_pos rfl, valid_eq, Option.bind_some, decide_eq_true hb, if_pos rfl, intersect_eq, Option.bind_some]
  simp only [ix, mx_max, mn_min]
  by_cases h : max a 0 < min c W ∧ max b 0 < min d H
  ·rw [if_pos ⟨ha, hb, h.1, h.2⟩]
   congr 1
   rw [Bool.eq_iff_iff]
   simp only [Bool.and_eq_true, beq_iff_eq, decide_eq_true_eq]
   omega
  ·rw [if_neg (fun g => h g.2.2)]
   congr 1
   rw [Bool.eq_iff_iff]
   simp only [Bool.and_eq_true, beq_iff_eq, decide_eq_true_eq]
   omega
 ·rw [decide_eq_false ha, if_neg Bool.false_ne_true]
  exact sd_false (fun g => ha (.inr (by omega)))
def rowl (W : Int) (P : List Int) (x0 x1 y : Int) : List Int := (P.take (y * W + x1).toNat).drop (y * W + x0).toNat
theorem row_in {y W H : Int} (h0 : 0 ≤ y) (h1 : y < H) (hW : 0 ≤ W) : 0 ≤ y * W ∧ y * W + W ≤ W * H := by
 refine ⟨Int.mul_nonneg h0 hW, ?_⟩
 have := Int.mul_le_mul_of_nonneg_right (show y + 1 ≤ H by omega) hW
 rw [Int.add_mul, Int.one_mul, Int.mul_comm H W] at this
 exact this
theorem cell_in {i j W H : Int} (h0 : 0 ≤ i) (h1 : i < W) (h2 : 0 ≤ j) (h3 : j < H) : 0 ≤ j * W ∧ j * W + i < W * H := by
 refine ⟨Int.mul_nonneg h2 (by omega), ?_⟩
 have := Int.mul_le_mul_of_nonneg_right (show j + 1 ≤ H by omega) (show 0 ≤ W by omega)
 rw [Int.add_mul, Int.one_mul, Int.mul_comm H W] at this
 omega
theorem rd_ext {a b : List Int} (hl : a.length = b.length) (h : ∀ i : Nat, i < a.length → rd a (i : Int) = rd b (i : Int)) : a = b := by
 refine List.ext_getElem hl (fun i h1 h2 => ?_)
 have := h i h1
 simpa [rd, h1, h2] using this
theorem rd_app_left {a b : List Int} {i : Nat} (h : i < a.length) : rd (a ++ b) (i : Int) = rd a (i : Int) := by
 simp only [rd, Int.toNat_natCast, List.getD_eq_getElem?_getD]
 rw [List.getElem?_append_left h]
theorem rd_app_right {a b : List Int} (i : Nat) : rd (a ++ b) ((a.length + i : Nat) : Int) = rd b (i : Int) := by
 simp only [rd, Int.toNat_natCast, List.getD_eq_getElem?_getD]
 rw [List.getElem?_append_right (Nat.le_add_right _ _), Nat.add_sub_cancel_left]
theorem rd_td {P : List Int} {A B i : Nat} (h : A + i < B) : rd ((P.take B).drop A) (i : Int) = rd P ((A + i : Nat) : Int) := by
 simp only [rd, Int.toNat_natCast, List.getD_eq_getElem?_getD, List.getElem?_drop, List.getElem?_take]
 rw [if_pos h]
structure RC (W H : Int) (P : List Int) (x0 y0 : Int) (w d : Nat) : Prop where
 hx0 : 0 ≤ x0
 hx1 : x0 + (w : Int) ≤ W
 hy0 : 0 ≤ y0
 hy1 : y0 + (d : Int) ≤ H
 hW : W ≤ 128
 hH : H ≤ 128
 hWH : W * H ≤ 4096
 hL : (P.length : Int) = W * H
 hw : 1 ≤ w
 hd : 1 ≤ d
 hw' : w ≤ 128
 hd' : d ≤ 128
theorem rc_row {W H : Int} {P : List Int} {x0 y0 : Int} {w d : Nat} (h : RC W H P x0 y0 w d) {j : Nat} (hj : j < d) : ∃ A : Nat, ((y0 + (j : Int)) * W + x0).toNat = A ∧ ((y0 + (j : Int)) * W + (x0 + (w : Int))).toNat = A + w ∧ A + w ≤ P.length ∧ (A : Int) = (y0 + (j : Int)) * W + x0 ∧ 0 ≤ (y0 + (j : Int)) * W ∧ (y0 + (j : Int)) * W ≤ 4096 := by
 obtain ⟨a0, a1⟩ := row_in (y := y0 + (j : Int)) (W := W) (H := H) (by have := h.hy0; omega) (by have := h.hy1; omega) (by have := h.hx0; have := h.hx1; omega)
 have h1 := h.hx0
 have h2 := h.hx1
 have h3 := h.hL
 have h4 := h.hWH
 exact ⟨_, rfl, by omega, by omega, by omega, a0, by omega⟩
theorem rowl_rc {W H : Int} {P : List Int} {x0 y0 : Int} {w d : Nat} (h : RC W H P x0 y0 w d) {j : Nat} (hj : j < d) : (rowl W P x0 (x0 + (w : Int)) (y0 + (j : Int))).length = w ∧ ∀ i : Nat, i < w → rd (rowl W P x0 (x0 + (w : Int)) (y0 + (j : Int))) (i : Int) = rd P ((y0 + (j : Int)) * W + x0 + (i : Int)) := by
 obtain ⟨A, e1, e2, e3, e4, -, -⟩ := rc_row h hj
 unfold rowl
 rw [e1, e2]
 refine ⟨by rw [List.length_drop, List.length_take]; omega, fun i hi => ?_⟩
 rw [rd_td (by omega), Int.natCast_add, e4]
def recl (W : Int) (P : List Int) (x0 : Int) (w : Nat) (y0 : Int) : Nat → List Int
 | 0 => []
 | d + 1 => recl W P x0 w y0 d ++ rowl W P x0 (x0 + (w : Int)) (y0 + (d : Int))
theorem rc_less {W H : Int} {P : List Int} {x0 y0 : Int} {w d : Nat} (h : RC W H P x0 y0 w d) {j : Nat} (hj : 1 ≤ j) (hjd : j ≤ d) : RC W H P x0 y0 w j :=
 ⟨h.hx0, h.hx1, h.hy0, by have := h.hy1; omega, h.hW, h.hH, h.hWH, h.hL, h.hw, hj, h.hw', by have := h.hd'; omega⟩
theorem recl_len {W H : Int} {P : List Int} {x0 y0 : Int} {w d : Nat} (h : RC W H P x0 y0 w d) : ∀ j, j ≤ d → (recl W P x0 w y0 j).length = j * w
 | 0, _ => by simp [recl]
 | j + 1, hj => by
  simp only [recl]
  rw [List.length_append, recl_len h j (by omega), (rowl_rc h (j := j) (by omega)).1, Nat.add_mul, Nat.one_mul]
theorem recl_rd {W H : Int} {P : List Int} {x0 y0 : Int} {w d : Nat} (h : RC W H P x0 y0 w d) : ∀ n, n ≤ d → ∀ j i : Nat, j < n → i < w → rd (recl W P x0 w y0 n) ((j * w + i : Nat) : Int) = rd P ((y0 + (j : Int)) * W + x0 + (i : Int))
 | 0, _, j, i, hj, _ => by omega
 | n + 1, hn, j, i, hj, hi => by
  have hl := recl_len h n (by omega)
  have hr := rowl_rc h (j := n) (by omega)
  simp only [recl]
  by_cases q : j < n
  ·have h1 : (j + 1) * w ≤ n * w := Nat.mul_le_mul_right _ q
   rw [Nat.add_mul, Nat.one_mul] at h1
   rw [rd_app_left (by rw [hl]; omega)]
   exact recl_rd h n (by omega) j i q hi
  ·have hjn : j = n := by omega
   rw [hjn, ← hl, rd_app_right, hr.2 i hi]
theorem rc_len {W H : Int} {P : List Int} {x0 y0 : Int} {w d : Nat} (h : RC W H P x0 y0 w d) : d * w ≤ P.length := by
 have h1 : (w : Int) * (d : Int) ≤ W * H := Int.mul_le_mul (by have := h.hx0; have := h.hx1; omega) (by have := h.hy0; have := h.hy1; omega) (by omega) (by have := h.hx0; have := h.hx1; omega)
 have hwd : (w : Int) * (d : Int) = ((d * w : Nat) : Int) := by rw [Int.mul_comm]; exact (Int.natCast_mul d w).symm
 have hL := h.hL
 rw [hwd] at h1
 omega
theorem rc_of {W H m : Int} {P : List Int} (hV : PV W H m P) {x0 y0 x1 y1 : Int} (hI : IN W H x0 y0 x1 y1) : ∃ w d : Nat, x1 = x0 + (w : Int) ∧ y1 = y0 + (d : Int) ∧ RC W H P x0 y0 w d := by
 obtain ⟨i1, i2, i3, i4, i5, i6⟩ := hI
 obtain ⟨⟨s1, s2, s3, s4, s5, s6, s7⟩, s8, s9⟩ := hV
 exact ⟨(x1 - x0).toNat, (y1 - y0).toNat, by omega, by omega, ⟨i1, by omega, i4, by omega, s2, s4, s5, s8, by omega, by omega, by omega, by omega⟩⟩
theorem crop_loop {W H m : Int} {P : List Int} {x0 y0 x1 y1 : Int} {w d : Nat} (h : RC W H P x0 y0 w d) (hx : x1 = x0 + (w : Int)) (hy : y1 = y0 + (d : Int)) (a b c : Int) : ∀ (e k j : Nat), j + e = d →
  plane_Crop.l0 (k + e + 1) (y0 + (j : Int)) W H m P x0 y0 x1 y1 a b c (recl W P x0 w y0 j) = some (a, b, c, recl W P x0 w y0 d, true)
 | 0, k, j, hj => by
  have hjd : j = d := hj
  rw [hjd, plane_Crop.l0, if_neg (show ¬ y0 + (d : Int) < y1 by omega)]
 | e + 1, k, j, hj => by
  have hj' : j < d := by omega
  obtain ⟨A, e1, e2, e3, e4, e5, e6⟩ := rc_row h hj'
  have ih := crop_loop (m := m) h hx hy a b c e k (j + 1) (by omega)
  have hl := recl_len h j (by omega)
  have hr := rowl_rc h hj'
  have hb := rc_len (rc_less h (j := j + 1) (by omega) (by omega))
  have hPL := h.hL
  have hPm := h.hWH
  have hw := h.hx0
  have hw2 := h.hx1
  have hw3 := h.hW
  have hw4 := h.hy0
  have hw5 := h.hy1
  have hw6 := h.hH
  rw [Nat.add_mul, Nat.one_mul] at hb
  subst hx
  have w1 : wrap64 ((y0 + (j : Int)) * W) = (y0 + (j : Int)) * W := wrap_in (by omega) (by omega)
  have w2 : wrap64 ((y0 + (j : Int)) * W + x0) = (y0 + (j : Int)) * W + x0 := wrap_in (by omega) (by omega)
  have w3 : wrap64 ((y0 + (j : Int)) * W + (x0 + (w : Int))) = (y0 + (j : Int)) * W + (x0 + (w : Int)) := wrap_in (by omega) (by omega)
  have w4 : wrap64 (y0 + (j : Int) + 1) = y0 + ((j + 1 : Nat) : Int) := by rw [wrap_in (by omega) (by omega)]; omega
  have g1 : 0 ≤ (y0 + (j : Int)) * W + x0 := by omega
  have g2 : (y0 + (j : Int)) * W + x0 ≤ (y0 + (j : Int)) * W + (x0 + (w : Int)) := by omega
  have g3 : (y0 + (j : Int)) * W + (x0 + (w : Int)) ≤ (P.length : Int) := by omega
  have g4 : (recl W P x0 w y0 j).length + (rowl W P x0 (x0 + (w : Int)) (y0 + (j : Int))).length < 17592186044416 := by rw [hl, hr.1]; omega
  rw [show k + (e + 1) + 1 = (k + e + 1) + 1 from rfl, plane_Crop.l0, if_pos (show y0 + (j : Int) < y1 by omega), w1, w2, w3, w4, if_pos g1, if_pos g2, if_pos g3]
  unfold rowl at g4
  rw [if_pos g4]
  exact ih
theorem crop_p {W H m : Int} {P : List Int} (hV : PV W H m P) {x0 y0 : Int} {w d : Nat} (h : RC W H P x0 y0 w d) (K : Nat) (hK : 10000 ≤ K) : plane_Crop.f K W H m P x0 y0 (x0 + (w : Int)) (y0 + (d : Int)) = some ((w : Int), (d : Int), m, recl W P x0 w y0 d, true) := by
 have hIN : IN W H x0 y0 (x0 + (w : Int)) (y0 + (d : Int)) := ⟨h.hx0, by have := h.hw; omega, h.hx1, h.hy0, by have := h.hd; omega, h.hy1⟩
 have hz : ¬ (x0 = 0 ∧ y0 = 0 ∧ x0 + (w : Int) = 0 ∧ y0 + (d : Int) = 0) := by have := h.hw; omega
 have hd' := h.hd'
 have hPl : P.length ≤ 4096 := by have := h.hL; have := h.hWH; omega
 obtain ⟨k, hk⟩ : ∃ k, K = (k + d + 1) + 1 := ⟨K - d - 2, by omega⟩
 unfold plane_Crop.f
 rw [pvalid_spec K W H m P (by omega) (by omega), Option.bind_some, decide_eq_true hV, if_pos rfl, empty_eq, Option.bind_some, decide_eq_false hz, if_neg Bool.false_ne_true]
 unfold plane_covered.f
 rw [Option.bind_some, hk, inside_p _ hV.1.1 hV.1.2.1 hV.1.2.2.1 hV.1.2.2.2.1 hz, Option.bind_some, decide_eq_true hIN, plane_Crop.j0, if_neg (show ¬ (!true) = true by decide)]
 have w1 : wrap64 (x0 + (w : Int) - x0) = (w : Int) := by have := h.hw'; rw [wrap_in (by omega) (by omega)]; omega
 have w2 : wrap64 (y0 + (d : Int) - y0) = (d : Int) := by rw [wrap_in (by omega) (by omega)]; omega
 rw [w1, w2]
 have hc := crop_loop (m := m) h rfl rfl (w : Int) (d : Int) m d k 0 (Nat.zero_add d)
 rw [show y0 + ((0 : Nat) : Int) = y0 by omega] at hc
 exact hc
theorem max_loop {l : List Int} {m : Int} (hl : l.length ≤ 5000) (hv : ∀ v ∈ l, v ≤ m) : ∀ (d k i : Nat) (b : Int), i + d = l.length → b ≤ m → ∃ v, slices_Max_int_int.l0 (k + d + 1) l b (i : Int) = some v ∧ v ≤ m
 | 0, k, i, b, hi, hb => by
  rw [slices_Max_int_int.l0, if_neg (show ¬ (i : Int) < (l.length : Int) by omega)]
  exact ⟨b, rfl, hb⟩
 | d + 1, k, i, b, hi, hb => by
  have hm := hv _ (rd_mem l i (by omega))
  rw [show k + (d + 1) + 1 = (k + d + 1) + 1 from rfl, slices_Max_int_int.l0, if_pos (show (i : Int) < (l.length : Int) by omega), if_pos (show 0 ≤ (i : Int) by omega), wrap_in (n := (i : Int) + 1) (by omega) (by omega)]
  exact max_loop hl hv d k (i + 1) _ (by omega) (by rw [mx_max]; omega)
theorem max_p {l : List Int} {m : Int} (h0 : 0 < l.length) (hl : l.length ≤ 5000) (hv : ∀ v ∈ l, v ≤ m) (K : Nat) (hK : 6000 ≤ K) : ∃ v, slices_Max_int_int.f K l = some v ∧ v ≤ m := by
 obtain ⟨k, hk⟩ : ∃ k, K = k + (l.length - 1) + 1 := ⟨K - (l.length - 1) - 1, by omega⟩
 obtain ⟨v, g1, g2⟩ := max_loop hl hv (l.length - 1) k 1 (rd l 0) (by omega) (hv _ (rd_mem l 0 h0))
 refine ⟨v, ?_, g2⟩
 unfold slices_Max_int_int.f
 rw [if_neg (show ¬ (l.length : Int) < 1 by omega), if_pos (show 0 < (l.length : Int) by omega), hk]
 exact g1
theorem spl_rd {xs ys : List Int} {L : Nat} (h : L + ys.length ≤ xs.length) (i : Nat) : rd (spl xs L ys) (i : Int) = if L ≤ i ∧ i < L + ys.length then rd ys ((i - L : Nat) : Int) else rd xs (i : Int) := by
 have ht : (xs.take L).length = L := by rw [List.length_take]; omega
 unfold spl
 simp only [rd, Int.toNat_natCast, List.getD_eq_getElem?_getD]
 by_cases c1 : i < L
 ·rw [if_neg (by omega), List.getElem?_append_left (by omega), List.getElem?_take, if_pos c1]
 ·rw [List.getElem?_append_right (by omega), ht]
  by_cases c2 : i < L + ys.length
  ·rw [if_pos ⟨by omega, c2⟩, List.getElem?_append_left (by omega)]
  ·rw [if_neg (fun q => c2 q.2), List.getElem?_append_right (by omega), List.getElem?_drop]
   congr 2
   omega
theorem cell_iff {u v x c W : Int} {w : Nat} (hu : 0 ≤ u) (huW : u < W) (hx : 0 ≤ x) (hxW : x + (w : Int) ≤ W) : (c * W + x ≤ v * W + u ∧ v * W + u < c * W + x + (w : Int)) ↔ (v = c ∧ x ≤ u ∧ u < x + (w : Int)) := by
 constructor
 ·rintro ⟨h1, h2⟩
  rcases Int.lt_trichotomy v c with q | q | q
  ·have := Int.mul_le_mul_of_nonneg_right (show v + 1 ≤ c by omega) (show 0 ≤ W by omega)
   rw [Int.add_mul, Int.one_mul] at this
   omega
  ·subst q
   exact ⟨rfl, by omega, by omega⟩
  ·have := Int.mul_le_mul_of_nonneg_right (show c + 1 ≤ v by omega) (show 0 ≤ W by omega)
   rw [Int.add_mul, Int.one_mul] at this
   omega
 ·rintro ⟨rfl, h1, h2⟩
  omega
structure BL (W H : Int) (P : List Int) (x y : Int) (w : Nat) (Q : List Int) (L : List Int) (n : Nat) : Prop where
 len : L.length = P.length
 rd : ∀ u v : Int, 0 ≤ u → u < W → 0 ≤ v → v < H → rd L (v * W + u) = if y ≤ v ∧ v < y + (n : Int) ∧ x ≤ u ∧ u < x + (w : Int) then rd Q ((v - y) * (w : Int) + (u - x)) else rd P (v * W + u)
theorem q_row {w d j : Nat} {Q : List Int} (hQ : Q.length = d * w) (hj : j < d) (hQl : Q.length ≤ 4096) : wrap64 ((j : Int) * (w : Int)) = ((j * w : Nat) : Int) ∧ wrap64 ((j : Int) + 1) = ((j + 1 : Nat) : Int) ∧ wrap64 (((j + 1 : Nat) : Int) * (w : Int)) = ((j * w + w : Nat) : Int) ∧ j * w + w ≤ Q.length ∧ (j : Int) ≤ 4096 ∨ w = 0 := by
 rcases Nat.eq_zero_or_pos w with q | q
 ·exact .inr q
 ·have h1 : (j + 1) * w ≤ d * w := Nat.mul_le_mul_right _ hj
  rw [Nat.add_mul, Nat.one_mul] at h1
  have h2 : j * 1 ≤ j * w := Nat.mul_le_mul_left _ q
  refine .inl ⟨?_, ?_, ?_, by omega, by omega⟩
  ·rw [← Int.natCast_mul, wrap_in (by omega) (by omega)]
  ·rw [wrap_in (by omega) (by omega)]; rfl
  ·rw [← Int.natCast_mul, Nat.add_mul, Nat.one_mul, wrap_in (by omega) (by omega)]
theorem bl_step {W H : Int} {P Q L : List Int} {x y : Int} {w d j A : Nat} (h : RC W H P x y w d) (hQ : Q.length = d * w) (hj : j < d) (hb : BL W H P x y w Q L j) (hA : (A : Int) = (y + (j : Int)) * W + x) (hAl : A + w ≤ P.length) (hqw : j * w + w ≤ Q.length) :
  BL W H P x y w Q (spl L A ((Q.take (j * w + w)).drop (j * w))) (j + 1) := by
 have hyl : ((Q.take (j * w + w)).drop (j * w)).length = w := by rw [List.length_drop, List.length_take]; omega
 have hfit : A + ((Q.take (j * w + w)).drop (j * w)).length ≤ L.length := by rw [hyl, hb.len]; exact hAl
 refine ⟨by rw [spl_len hfit]; exact hb.len, fun u v hu huW hv hvH => ?_⟩
 have hcell := cell_in (i := u) (j := v) (W := W) (H := H) hu huW hv hvH
 obtain ⟨i, hi⟩ : ∃ i : Nat, (i : Int) = v * W + u := ⟨(v * W + u).toNat, Int.toNat_of_nonneg (Int.add_nonneg hcell.1 hu)⟩
 have hiff := cell_iff (u := u) (v := v) (x := x) (c := y + (j : Int)) (W := W) (w := w) hu huW h.hx0 h.hx1
 have hold := hb.rd u v hu huW hv hvH
 rw [← hi] at hiff hold ⊢
 rw [← hA] at hiff
 rw [spl_rd hfit, hyl]
 by_cases c : A ≤ i ∧ i < A + w
 ·obtain ⟨e1, e2, e3⟩ := hiff.1 ⟨Int.ofNat_le.2 c.1, by have := c.2; omega⟩
  rw [if_pos c, if_pos (show y ≤ v ∧ v < y + ((j + 1 : Nat) : Int) ∧ x ≤ u ∧ u < x + (w : Int) by omega), rd_td (by omega)]
  congr 1
  have h1 : ((i - A : Nat) : Int) = u - x := by
   rw [Int.natCast_sub c.1, hA, hi, e1]
   omega
  rw [Int.natCast_add, h1, Int.natCast_mul, e1]
  congr 2
  omega
 ·have hno : ¬ (v = y + (j : Int) ∧ x ≤ u ∧ u < x + (w : Int)) := fun q => c (by
   have := hiff.2 q
   exact ⟨Int.ofNat_le.1 this.1, by have := this.2; omega⟩)
  rw [if_neg c, hold]
  by_cases q : y ≤ v ∧ v < y + (j : Int) ∧ x ≤ u ∧ u < x + (w : Int)
  ·rw [if_pos q, if_pos (show y ≤ v ∧ v < y + ((j + 1 : Nat) : Int) ∧ x ≤ u ∧ u < x + (w : Int) by omega)]
  ·rw [if_neg q, if_neg (show ¬ (y ≤ v ∧ v < y + ((j + 1 : Nat) : Int) ∧ x ≤ u ∧ u < x + (w : Int)) by omega)]
theorem blit_w {W x y : Int} {A j : Nat} (hx0 : 0 ≤ x) (hxx : x ≤ 128) (hy0 : 0 ≤ y) (hyy : y + (j : Int) ≤ 128) (hA : (A : Int) = (y + (j : Int)) * W + x) (a0 : 0 ≤ (y + (j : Int)) * W) (a1 : (y + (j : Int)) * W ≤ 4096) :
  wrap64 (y + (j : Int)) = y + (j : Int) ∧ wrap64 ((y + (j : Int)) * W) = (y + (j : Int)) * W ∧ wrap64 ((y + (j : Int)) * W + x) = ((A : Nat) : Int) :=
 ⟨wrap_in (by omega) (by omega), wrap_in (by omega) (by omega), by rw [wrap_in (by omega) (by omega), hA]⟩
theorem blit_g {A w l n : Nat} (h : A + w ≤ l) (hl : n = l) : ((A : Nat) : Int) ≤ (n : Int) ∧ (w : Int) ≤ ((n - A : Nat) : Int) := by omega
theorem blit_q {a w n : Nat} (h : a + w ≤ n) : ((a : Nat) : Int) ≤ ((a + w : Nat) : Int) ∧ ((a + w : Nat) : Int) ≤ (n : Int) := by omega
theorem blit_xy {W H x y : Int} {P : List Int} {w d j : Nat} (h : RC W H P x y w d) (hj : j < d) : x ≤ 128 ∧ y + (j : Int) ≤ 128 := by
 have h1 := h.hx1
 have h2 := h.hW
 have h3 := h.hy1
 have h4 := h.hH
 omega
theorem blit_loop {W H m q : Int} {P Q : List Int} {x y : Int} {w d : Nat} (h : RC W H P x y w d) (hQ : Q.length = d * w) (hQl : Q.length ≤ 4096) : ∀ (e k j : Nat) (L : List Int), j + e = d → BL W H P x y w Q L j →
  ∃ L', plane_Blit.l0 (k + e + 1) x y (d : Int) (j : Int) W H m L (w : Int) (d : Int) q Q = some (W, H, m, L', true) ∧ BL W H P x y w Q L' d
 | 0, k, j, L, hj, hb => by
  have hjd : j = d := hj
  rw [hjd] at hb ⊢
  rw [plane_Blit.l0, if_neg (Int.lt_irrefl _)]
  exact ⟨L, rfl, hb⟩
 | e + 1, k, j, L, hj, hb => by
  have hj1 : j + 1 + e = d := (Nat.succ_add_eq_add_succ j e).trans hj
  have hj' : j < d := Nat.lt_of_lt_of_le (Nat.lt_succ_self j) (Nat.le.intro hj1)
  obtain ⟨A, e1, e2, e3, e4, e5, e6⟩ := rc_row h hj'
  obtain ⟨b1, b2⟩ := blit_xy h hj'
  rcases q_row hQ hj' hQl with ⟨z1, z2, z3, z4, z5⟩ | hw0
  ·have hst := bl_step h hQ hj' hb e4 e3 z4
   obtain ⟨L', r1, r2⟩ := blit_loop (m := m) (q := q) h hQ hQl e k (j + 1) _ hj1 hst
   refine ⟨L', ?_, r2⟩
   have hyl : ((Q.take (j * w + w)).drop (j * w)).length = w := by rw [List.length_drop, List.length_take, Nat.min_eq_left z4, Nat.add_sub_cancel_left]
   obtain ⟨w1, w2, w3⟩ := blit_w h.hx0 b1 h.hy0 b2 e4 e5 e6
   obtain ⟨g1, g5⟩ := blit_g e3 hb.len
   obtain ⟨g2, g3⟩ := blit_q z4
   have g4 : (0 : Int) < (((Q.take (j * w + w)).drop (j * w)).length : Int) := by rw [hyl]; exact Int.ofNat_lt.2 h.hw
   have g6 : (((Q.take (j * w + w)).drop (j * w)).length : Int) ≤ ((L.drop A).length : Int) := by rw [hyl, List.length_drop]; exact g5
   rw [show k + (e + 1) + 1 = (k + e + 1) + 1 from rfl, plane_Blit.l0, if_pos (Int.ofNat_lt.2 hj'), w1, w2, w3, z1, z2, z3, if_pos (Int.natCast_nonneg A), if_pos g1, if_pos (Int.natCast_nonneg (j * w)), if_pos g2, if_pos g3]
   simp only [Int.toNat_natCast]
   rw [if_pos g4, if_pos g6]
   exact r1
  ·exact absurd h.hw (by rw [hw0]; decide)
theorem blit_p {W H m q : Int} {P Q : List Int} (hV : PV W H m P) {x y : Int} {w d : Nat} (h : RC W H P x y w d) (hQ : PV (w : Int) (d : Int) q Q) (hle : ∀ v ∈ Q, v ≤ m) (K : Nat) (hK : 20000 ≤ K) :
  ∃ L, plane_Blit.f K W H m P (w : Int) (d : Int) q Q x y = some (W, H, m, L, true) ∧ BL W H P x y w Q L d := by
 have hQl : Q.length = d * w := by
  have := hQ.2.1
  rw [← Int.natCast_mul, Nat.mul_comm] at this
  exact Int.ofNat.inj this
 have hPl : P.length ≤ 4096 := by have := h.hL; have := h.hWH; omega
 have hq4 : Q.length ≤ 4096 := by have := rc_len h; omega
 have hd' := h.hd'
 have hdw : 1 * 1 ≤ d * w := Nat.mul_le_mul h.hd h.hw
 obtain ⟨v, g1, g2⟩ := max_p (by omega) (by omega) hle (K - 1) (by omega)
 obtain ⟨k, hk⟩ : ∃ k, K - 1 = k + d + 1 := ⟨K - 1 - d - 1, by omega⟩
 obtain ⟨L, r1, r2⟩ := blit_loop (m := m) (q := q) h hQl hq4 d k 0 P (Nat.zero_add d) ⟨rfl, fun u v _ _ _ _ => by rw [if_neg (by omega)]⟩
 refine ⟨L, ?_, r2⟩
 have hx0 := h.hx0
 have hx1 := h.hx1
 have hy0 := h.hy0
 have hy1 := h.hy1
 have hW := h.hW
 have hH := h.hH
 have hw' := h.hw'
 unfold plane_Blit.f
 rw [pvalid_spec K W H m P (by omega) (by omega), Option.bind_some, decide_eq_true hV, if_pos rfl, pvalid_spec K (w : Int) (d : Int) q Q (by omega) (by omega), Option.bind_some, decide_eq_true hQ, if_pos rfl, if_neg (show ¬ x < 0 by omega), if_neg (show ¬ y < 0 by omega), wrap_in (n := W - (w : Int)) (by omega) (by omega), if_neg (show ¬ x > W - (w : Int) by omega), wrap_in (n := H - (d : Int)) (by omega) (by omega), decide_eq_false (show ¬ y > H - (d : Int) by omega), show K = (K - 1) + 1 by omega, plane_Blit.j0, if_neg Bool.false_ne_true, g1, Option.bind_some, if_neg (show ¬ v > m by omega)]
 unfold slices_Clone_int_int.f
 rw [Option.bind_some, if_pos (show ([] : List Int).length + P.length < 17592186044416 by rw [List.length_nil]; omega), Option.bind_some, List.nil_append, hk]
 exact r1
theorem sized_PV {a b : Int} {bt : Int × Int × Int × List Int × Int} (h1 : bt.1 = a) (h2 : bt.2.1 = b) (h3 : 1 ≤ bt.2.2.1) (h4 : bt.2.2.1 ≤ 65535) (h5 : (bt.2.2.2.1.length : Int) = a * b) (h6 : ∀ v ∈ bt.2.2.2.1, 0 ≤ v ∧ v ≤ bt.2.2.1) (ha : 1 ≤ a) (ha' : a ≤ 10) (hb : 1 ≤ b) (hb' : b ≤ 10) : PV bt.1 bt.2.1 bt.2.2.1 bt.2.2.2.1 ∧ bt.2.2.2.1.length ≤ 100 := by
 obtain ⟨m0, m1⟩ := mul_bd (x := a) (y := b) (B := 10) (C := 10) (by omega) (by omega) ha' hb'
 rw [h1, h2]
 exact ⟨⟨⟨ha, by omega, hb, by omega, by omega, h3, by omega⟩, h5, h6⟩, by omega⟩
theorem vloop_eq : ∀ (k : Nat) (l : List Int) (i a b m : Int), plane_Valid.l0 k l (l.length : Int) i a b m l = tilefarmref4_Valid.l0 k i a b m l
 | 0, _, _, _, _, _ => rfl
 | k + 1, l, i, a, b, m => by
  simp only [plane_Valid.l0, tilefarmref4_Valid.l0]
  by_cases c1 : i < (l.length : Int)
  ·by_cases c2 : 0 ≤ i
   ·simp only [if_pos c1, if_pos c2, vloop_eq k]
   ·simp only [if_pos c1, if_neg c2]
  ·simp only [if_neg c1]
theorem rsize_no {a b m : Int} (h : ¬ SZ a b m) : some false = some (decide (SZ a b m)) := by rw [decide_eq_false h]
theorem rsize_val (a b m : Int) : tilefarmref4_Size.f a b m = some (decide (SZ a b m)) := by
 unfold tilefarmref4_Size.f
 by_cases c1 : a ≥ 1
 ·rw [if_pos c1]
  by_cases c2 : a ≤ 128
  ·rw [if_pos c2]
   by_cases c3 : b ≥ 1
   ·rw [if_pos c3]
    by_cases c4 : b ≤ 128
    ·obtain ⟨b0, b1⟩ := mul_bd (x := a) (y := b) (B := 128) (C := 128) (by omega) (by omega) c2 c4
     rw [if_pos c4, wrap_in (n := a * b) (by omega) (by omega)]
     by_cases c5 : a * b ≤ 4096
     ·rw [if_pos c5]
      by_cases c6 : m ≥ 1
      ·rw [if_pos c6]
       exact congrArg some (decide_eq_decide.2 ⟨fun h => ⟨c1, c2, c3, c4, c5, c6, h⟩, fun h => h.2.2.2.2.2.2⟩)
      ·rw [if_neg c6]; exact rsize_no (fun h => c6 h.2.2.2.2.2.1)
     ·rw [if_neg c5]; exact rsize_no (fun h => c5 h.2.2.2.2.1)
    ·rw [if_neg c4]; exact rsize_no (fun h => c4 h.2.2.2.1)
   ·rw [if_neg c3]; exact rsize_no (fun h => c3 h.2.2.1)
  ·rw [if_neg c2]; exact rsize_no (fun h => c2 h.2.1)
 ·rw [if_neg c1]; exact rsize_no (fun h => c1 h.1)
theorem rvalid_same (k : Nat) (a b m : Int) (l : List Int) : tilefarmref4_Valid.f k a b m l = plane_Valid.f k a b m l := by
 have hj : ∀ k t, plane_Valid.j0 k t a b m l = tilefarmref4_Valid.j0 k t a b m l := by
  intro k t
  cases k with
  | zero => rfl
  | succ k => simp only [plane_Valid.j0, tilefarmref4_Valid.j0, vloop_eq k]
 unfold plane_Valid.f tilefarmref4_Valid.f
 rw [size_val, rsize_val]
 simp only [hj]
theorem same_loop (L : List Int) (hL : L.length ≤ 100000) (d : Nat) : ∀ (k i : Nat), i + d = L.length → d < k → tilefarmref4_Same.l0 k L L (i : Int) = some true := by
 induction d with
 | zero =>
  intro k i hi hk
  obtain ⟨k, rfl⟩ : ∃ m, k = m + 1 := ⟨k - 1, by omega⟩
  rw [tilefarmref4_Same.l0, if_neg (by omega)]
 | succ d ih =>
  intro k i hi hk
  obtain ⟨k, rfl⟩ : ∃ m, k = m + 1 := ⟨k - 1, by omega⟩
  rw [tilefarmref4_Same.l0, if_pos (by omega), if_pos (by omega), if_pos (by omega), if_pos rfl, wrap_in (n := (i : Int) + 1) (by omega) (by omega)]
  exact ih k (i + 1) (by omega) (by omega)
theorem same_eq (L : List Int) (hL : L.length ≤ 10000) (K : Nat) (hK : 20000 ≤ K) : tilefarmref4_Same.f K L L = some true := by
 unfold tilefarmref4_Same.f
 rw [if_pos rfl]
 exact same_loop L (by omega) L.length K 0 (by omega) (by omega)
theorem equal_eq (a b m : Int) (L : List Int) (hL : L.length ≤ 10000) (K : Nat) (hK : 20000 ≤ K) : tilefarmref4_Equal.f K a b m L a b m L = some true := by
 unfold tilefarmref4_Equal.f
 rw [if_pos rfl, if_pos rfl, if_pos rfl, same_eq L hL K hK]
 rfl
theorem inside_r {W H : Int} (hW : 1 ≤ W) (hW' : W ≤ 128) (hH : 1 ≤ H) (hH' : H ≤ 128) {a b c d : Int} (ha : V a b c d) (hz : ¬ (a = 0 ∧ b = 0 ∧ c = 0 ∧ d = 0)) : tilefarmref2_Inside.f a b c d 0 0 W H = some (decide (IN W H a b c d)) := by
 have hb : V 0 0 W H := .inr (by omega)
 unfold tilefarmref2_Inside.f tilefarmref2_Empty.f
 rw [ref_valid_eq, Option.bind_some, decide_eq_true ha, if_pos rfl, ref_valid_eq, Option.bind_some, decide_eq_true hb, if_pos rfl, Option.bind_some, if_neg (show ¬ (a == 0 && (b == 0 && (c == 0 && d == 0))) = true by simp only [Bool.and_eq_true, beq_iff_eq]; exact hz)]
 by_cases c1 : a ≥ 0
 ·rw [if_pos c1]
  by_cases c2 : b ≥ 0
  ·rw [if_pos c2]
   by_cases c3 : c ≤ W
   ·rw [if_pos c3]; exact sd_iff ⟨fun h => by omega, fun h => by omega⟩
   ·rw [if_neg c3]; exact sd_false (fun h => by omega)
  ·rw [if_neg c2]; exact sd_false (fun h => by omega)
 ·rw [if_neg c1]; exact sd_false (fun h => by omega)
theorem idx {i n L : Nat} (h : i + (n + 1) = L) : i + 1 + n = L ∧ i < L := by omega
theorem rd_set {o : List Int} {i b : Int} {x : Int} (hi : 0 ≤ i) (hi' : i < (o.length : Int)) (hb : 0 ≤ b) : rd (o.set i.toNat x) b = if i = b then x else rd o b := by
 simp only [rd, List.getD_eq_getElem?_getD, List.getElem?_set]
 by_cases h : i = b
 ·rw [if_pos (show i.toNat = b.toNat by omega), if_pos (show i.toNat < o.length by omega), if_pos h]
  rfl
 ·rw [if_neg (show ¬ i.toNat = b.toNat by omega), if_neg h]
def Agree (L T : List Int) (c : Nat) : Prop := L.length = T.length ∧ ∀ i : Nat, i < c → rd L (i : Int) = rd T (i : Int)
theorem agree_step {L T : List Int} {c : Nat} (h : Agree L T c) (hc : c < T.length) : Agree (L.set ((c : Nat) : Int).toNat (rd T (c : Int))) T (c + 1) := by
 refine ⟨by rw [List.length_set]; exact h.1, fun i hi => ?_⟩
 rw [rd_set (by omega) (by rw [h.1]; omega) (by omega)]
 by_cases q : (c : Int) = (i : Int)
 ·rw [if_pos q, q]
 ·rw [if_neg q]; exact h.2 i (by omega)
theorem agree_end {L T : List Int} (h : Agree L T T.length) : L = T := rd_ext h.1 (fun i hi => h.2 i (by rw [← h.1]; exact hi))
section
variable {W H m : Int} {P : List Int} {x0 y0 x1 y1 : Int} {w d : Nat} {T : List Int}
theorem crop_idx {y x : Nat} {W H x0 y0 : Int} {w d L : Nat} (hx0 : 0 ≤ x0) (hx1 : x0 + (w : Int) ≤ W) (hy0 : 0 ≤ y0) (hy1 : y0 + (d : Int) ≤ H) (hy : y < d) (hx : x < w) (hWH : W * H ≤ 4096) (hL : (L : Int) = W * H) (hw : w ≤ 128) (hd : d ≤ 128) :
  wrap64 (wrap64 (wrap64 ((wrap64 ((y : Int) + y0)) * W) + (x : Int)) + x0) = ((y : Int) + y0) * W + ((x : Int) + x0) ∧ 0 ≤ ((y : Int) + y0) * W + ((x : Int) + x0) ∧ ((y : Int) + y0) * W + ((x : Int) + x0) < (L : Int) ∧
  wrap64 (wrap64 ((y : Int) * (w : Int)) + (x : Int)) = ((y * w + x : Nat) : Int) ∧ y * w + x < d * w ∧ wrap64 ((x : Int) + 1) = ((x + 1 : Nat) : Int) ∧ wrap64 ((y : Int) + 1) = ((y + 1 : Nat) : Int) := by
 have hc := cell_in (i := (x : Int) + x0) (j := (y : Int) + y0) (W := W) (H := H) (by omega) (by omega) (by omega) (by omega)
 have hja : y * w ≤ 128 * 128 := Nat.mul_le_mul (by omega) hw
 have hcast : (y : Int) * (w : Int) = ((y * w : Nat) : Int) := (Int.natCast_mul y w).symm
 have h1 : (y + 1) * w ≤ d * w := Nat.mul_le_mul_right _ hy
 rw [Nat.add_mul, Nat.one_mul] at h1
 have hH : H ≤ 4096 ∨ 4096 < H := by omega
 have hWW : 1 ≤ W := by omega
 have hHH : H ≤ W * H := by
  have := Int.mul_le_mul_of_nonneg_right hWW (show 0 ≤ H by omega)
  rw [Int.one_mul] at this
  exact this
 refine ⟨?_, by omega, by omega, ?_, by omega, ?_, ?_⟩
 ·rw [wrap_in (n := (y : Int) + y0) (by omega) (by omega), wrap_in (n := ((y : Int) + y0) * W) (by omega) (by omega), wrap_in (n := ((y : Int) + y0) * W + (x : Int)) (by omega) (by omega), wrap_in (by omega) (by omega)]
  omega
 ·rw [hcast, wrap_in (n := ((y * w : Nat) : Int)) (by omega) (by omega), wrap_in (by omega) (by omega)]; rfl
 ·rw [wrap_in (by omega) (by omega)]; rfl
 ·rw [wrap_in (by omega) (by omega)]; rfl
structure CR (W H : Int) (P : List Int) (x0 y0 : Int) (w d : Nat) (T : List Int) : Prop where
 hx0 : 0 ≤ x0
 hx1 : x0 + (w : Int) ≤ W
 hy0 : 0 ≤ y0
 hy1 : y0 + (d : Int) ≤ H
 hWH : W * H ≤ 4096
 hL : (P.length : Int) = W * H
 hw : w ≤ 128
 hd : d ≤ 128
 hT : T.length = d * w
 hv : ∀ y x : Nat, y < d → x < w → rd T ((y * w + x : Nat) : Int) = rd P (((y : Int) + y0) * W + ((x : Int) + x0))
theorem crop_l1 (h : CR W H P x0 y0 w d T) (q : Int) (y : Nat) (hy : y < d) : ∀ (e k x : Nat) (L : List Int), x + e = w → Agree L T (y * w + x) →
  ∃ L', tilefarmref4_Crop.l1 (k + e + 1) (y : Int) (x : Int) W H m P x0 y0 x1 y1 (w : Int) (d : Int) q L = tilefarmref4_Crop.l0 k ((y + 1 : Nat) : Int) W H m P x0 y0 x1 y1 (w : Int) (d : Int) q L' ∧ Agree L' T ((y + 1) * w)
 | 0, k, x, L, hx, ha => by
  have hxw : x = w := hx
  have hyd : wrap64 ((y : Int) + 1) = ((y + 1 : Nat) : Int) := by have := h.hd; rw [wrap_in (by omega) (by omega)]; rfl
  refine ⟨L, ?_, ?_⟩
  ·rw [hxw, tilefarmref4_Crop.l1, if_neg (Int.lt_irrefl _), hyd]
  ·rw [Nat.add_mul, Nat.one_mul, ← hxw]; rw [← hxw] at ha; exact ha
 | e + 1, k, x, L, hx, ha => by
  obtain ⟨hx1, hxw⟩ := idx hx
  obtain ⟨e1, e2, e3, e4, e5, e6, -⟩ := crop_idx h.hx0 h.hx1 h.hy0 h.hy1 hy hxw h.hWH h.hL h.hw h.hd
  have hlt : y * w + x < T.length := by rw [h.hT]; exact e5
  have hst := agree_step ha hlt
  rw [h.hv y x hy hxw] at hst
  obtain ⟨L', r1, r2⟩ := crop_l1 h q y hy e k (x + 1) _ hx1 hst
  refine ⟨L', ?_, r2⟩
  rw [show k + (e + 1) + 1 = (k + e + 1) + 1 from rfl, tilefarmref4_Crop.l1, if_pos (Int.ofNat_lt.2 hxw), e1, e4, e6, if_pos e2, if_pos e3, if_pos (Int.natCast_nonneg _), if_pos (Int.ofNat_lt.2 (by rw [ha.1]; exact hlt))]
  exact r1
theorem crop_l0 (h : CR W H P x0 y0 w d T) (q : Int) : ∀ (e k y : Nat) (L : List Int), y + e = d → Agree L T (y * w) →
  tilefarmref4_Crop.l0 (k + e * (w + 2) + 1) (y : Int) W H m P x0 y0 x1 y1 (w : Int) (d : Int) q L = some ((w : Int), (d : Int), q, T, true)
 | 0, k, y, L, hy, ha => by
  have hyd : y = d := hy
  rw [hyd, ← h.hT] at ha
  rw [hyd, tilefarmref4_Crop.l0, if_neg (Int.lt_irrefl _), agree_end ha]
 | e + 1, k, y, L, hy, ha => by
  have hfu : k + (e + 1) * (w + 2) + 1 = (k + e * (w + 2) + 1 + w + 1) + 1 := by rw [Nat.add_mul]; omega
  obtain ⟨hy1, hyd⟩ := idx hy
  obtain ⟨L', r1, r2⟩ := crop_l1 (m := m) (x1 := x1) (y1 := y1) h q y hyd w (k + e * (w + 2) + 1) 0 L (Nat.zero_add w) ha
  rw [hfu, tilefarmref4_Crop.l0, if_pos (Int.ofNat_lt.2 hyd)]
  exact r1.trans (crop_l0 h q e k (y + 1) L' hy1 r2)
end
theorem crop_sz {W H m x0 y0 x1 y1 : Int} {L : Nat} (hI : IN W H x0 y0 x1 y1) (hS : SZ W H m) (hL : (L : Int) = W * H) : ∃ w d : Nat, (x1 - x0).toNat = w ∧ (y1 - y0).toNat = d ∧ x1 - x0 = (w : Int) ∧ y1 - y0 = (d : Int) ∧ x0 + (w : Int) ≤ W ∧ y0 + (d : Int) ≤ H ∧ w ≤ 128 ∧ d ≤ 128 ∧ SZ (w : Int) (d : Int) m ∧ (w : Int) * (d : Int) = ((d * w : Nat) : Int) ∧ d * w ≤ 4096 ∧ d * (w + 2) ≤ 20000 ∧ L ≤ 4096 ∧ ¬ (x0 = 0 ∧ y0 = 0 ∧ x1 = 0 ∧ y1 = 0) ∧ V x0 y0 x1 y1 ∧ wrap64 (w : Int) = (w : Int) ∧ wrap64 (d : Int) = (d : Int) := by
 obtain ⟨i1, i2, i3, i4, i5, i6⟩ := hI
 obtain ⟨s1, s2, s3, s4, s5, s6, s7⟩ := hS
 obtain ⟨w, hw⟩ : ∃ w : Nat, (x1 - x0).toNat = w := ⟨_, rfl⟩
 obtain ⟨d, hd⟩ : ∃ d : Nat, (y1 - y0).toNat = d := ⟨_, rfl⟩
 have hw' : x1 - x0 = (w : Int) := by omega
 have hd' : y1 - y0 = (d : Int) := by omega
 have hdw : d * (w + 2) ≤ 128 * 130 := Nat.mul_le_mul (by omega) (by omega)
 have hwd : (w : Int) * (d : Int) = ((d * w : Nat) : Int) := by rw [Int.mul_comm]; exact (Int.natCast_mul d w).symm
 have h1 : (w : Int) * (d : Int) ≤ W * H := Int.mul_le_mul (by omega) (by omega) (by omega) (by omega)
 have hdm : d * w ≤ 4096 := by
  rw [hwd] at h1
  clear hdw hwd hL
  omega
 have hwd' : (w : Int) * (d : Int) ≤ 4096 := Int.le_trans h1 s5
 refine ⟨w, d, hw, hd, hw', hd', by omega, by omega, by omega, by omega, ⟨by omega, by omega, by omega, by omega, hwd', s6, s7⟩, hwd, hdm, by omega, by omega, by omega, .inr (by omega), wrap_in (by omega) (by omega), wrap_in (by omega) (by omega)⟩
theorem crop_fuel {K n L : Nat} (hK : 30000 ≤ K) (hn : n ≤ 20000) (hL : L ≤ 4096) : ∃ k, K = (k + n + 1) + 1 ∧ L + 1 < K ∧ L ≤ 4611686018427387904 := ⟨K - n - 2, by omega, by omega, by omega⟩
theorem crop_ok {W H m : Int} {P : List Int} (hV : PV W H m P) {x0 y0 x1 y1 : Int} (hI : IN W H x0 y0 x1 y1) {T : List Int} (hT : T.length = (y1 - y0).toNat * (x1 - x0).toNat)
  (hv : ∀ y x : Nat, y < (y1 - y0).toNat → x < (x1 - x0).toNat → rd T ((y * (x1 - x0).toNat + x : Nat) : Int) = rd P (((y : Int) + y0) * W + ((x : Int) + x0))) (K : Nat) (hK : 30000 ≤ K) :
  tilefarmref4_Crop.f K W H m P x0 y0 x1 y1 = some (x1 - x0, y1 - y0, m, T, true) := by
 obtain ⟨w, d, hw, hd, hw', hd', a1, a2, a3, a4, hsz, hwd, hdm, hdw, hlen, hz, hVr, ew, ed⟩ := crop_sz hI hV.1 hV.2.1
 rw [hw, hd] at hT hv
 have hcr : CR W H P x0 y0 w d T := ⟨hI.1, a1, hI.2.2.2.1, a2, hV.1.2.2.2.2.1, hV.2.1, a3, a4, hT, hv⟩
 obtain ⟨k, hk, hk1, hk2⟩ := crop_fuel hK hdw hlen
 have hemp : (x0 == 0 && (y0 == 0 && (x1 == 0 && y1 == 0))) = false := by rw [Bool.eq_false_iff]; simp only [ne_eq, Bool.and_eq_true, beq_iff_eq]; exact hz
 have em : wrap64 ((d * w : Nat) : Int) = ((d * w : Nat) : Int) := by clear hwd hsz hw' hd' a1 a2 hVr hz; exact wrap_in (by omega) (by omega)
 have el : d * w ≤ 35184372088832 := Nat.le_trans hdm (by decide)
 unfold tilefarmref4_Crop.f
 rw [rvalid_same, pvalid_spec K W H m P hk2 hk1, Option.bind_some, decide_eq_true hV, if_pos rfl]
 unfold tilefarmref2_Empty.f tilefarmref4_Cover.f
 rw [Option.bind_some, hemp, if_neg Bool.false_ne_true, Option.bind_some, inside_r hV.1.1 hV.1.2.1 hV.1.2.2.1 hV.1.2.2.2.1 hVr hz, Option.bind_some, decide_eq_true hI, hk, tilefarmref4_Crop.j0, if_neg (show ¬ (!true) = true by decide), hw', hd', ew, ed]
 unfold tilefarmref4_New.f
 rw [rsize_val, Option.bind_some, decide_eq_true hsz, if_pos rfl, hwd, em, if_pos (Int.natCast_nonneg _), Int.toNat_natCast, if_pos el, Option.bind_some]
 exact crop_l0 hcr m d k 0 _ (Nat.zero_add d) ⟨by rw [List.length_replicate, hT], fun i hi => absurd hi (by rw [Nat.zero_mul]; exact Nat.not_lt_zero i)⟩
def EV {α : Type} (f : Nat → Option α) (r : α) : Prop := ∃ N, ∀ K, N ≤ K → f K = some r
theorem EV.step {α : Type} {f g : Nat → Option α} {r : α} (N : Nat) (h : ∀ K, N ≤ K → f (K + 1) = g K) : EV g r → EV f r := by
 rintro ⟨M, hM⟩
 refine ⟨max M N + 1, fun K hK => ?_⟩
 obtain ⟨k, rfl⟩ : ∃ k, K = k + 1 := ⟨K - 1, by omega⟩
 rw [h k (by omega)]
 exact hM k (by omega)
theorem EV.now {α : Type} {f : Nat → Option α} {r : α} (N : Nat) (h : ∀ K, N ≤ K → f K = some r) : EV f r := ⟨N, h⟩
theorem sane_eq : tilefarmlaw4_sane.f 60 = some true := by decide +kernel
abbrev NP : Int × Int × Int × List Int × Bool := (0, 0, 0, ([] : List Int), false)
theorem inside_no {W H a b c d : Int} (h : ¬ V a b c d) : tilefarmref2_Inside.f a b c d 0 0 W H = some false := by
 unfold tilefarmref2_Inside.f
 rw [ref_valid_eq, Option.bind_some, decide_eq_false h, if_neg Bool.false_ne_true]
theorem crop_same {W H m : Int} {P : List Int} (hV : PV W H m P) (hl : P.length ≤ 1000) (x0 y0 x1 y1 : Int) : ∃ r : Int × Int × Int × List Int × Bool, EV (fun K => plane_Crop.f K W H m P x0 y0 x1 y1) r ∧ EV (fun K => tilefarmref4_Crop.f K W H m P x0 y0 x1 y1) r ∧ r.2.2.2.1.length ≤ 10000 := by
 have hS := hV.1
 by_cases ci : IN W H x0 y0 x1 y1
 ·obtain ⟨w, d, e1, e2, hr⟩ := rc_of hV ci
  have hw : (x1 - x0).toNat = w := by omega
  have hd : (y1 - y0).toNat = d := by omega
  have hlen := recl_len hr d (Nat.le_refl _)
  have hle := rc_len hr
  refine ⟨((w : Int), (d : Int), m, recl W P x0 w y0 d, true), EV.now 10000 (fun K hK => ?_), EV.now 30000 (fun K hK => ?_), by show (recl W P x0 w y0 d).length ≤ 10000; omega⟩
  ·rw [e1, e2]; exact crop_p hV hr K hK
  ·have h := crop_ok hV ci (T := recl W P x0 w y0 d) (by rw [hw, hd]; exact hlen) (fun y x hy hx => by
    rw [hw] at hx ⊢
    rw [hd] at hy
    rw [recl_rd hr d (Nat.le_refl _) y x hy hx]
    congr 1
    rw [Int.add_comm y0 (y : Int)]
    omega) K hK
   rw [h, show x1 - x0 = (w : Int) by omega, show y1 - y0 = (d : Int) by omega]
 ·refine ⟨NP, EV.now 2000 (fun K hK => ?_), EV.now 2000 (fun K hK => ?_), Nat.zero_le _⟩
  ·obtain ⟨k, rfl⟩ : ∃ k, K = k + 1 := ⟨K - 1, by omega⟩
   unfold plane_Crop.f
   rw [pvalid_spec (k + 1) W H m P (by omega) (by omega), Option.bind_some, decide_eq_true hV, if_pos rfl, empty_eq, Option.bind_some]
   by_cases hz : x0 = 0 ∧ y0 = 0 ∧ x1 = 0 ∧ y1 = 0
   ·rw [decide_eq_true hz, if_pos rfl, plane_Crop.j0, if_pos rfl]
   ·rw [decide_eq_false hz, if_neg Bool.false_ne_true]
    unfold plane_covered.f
    rw [Option.bind_some, inside_p _ hS.1 hS.2.1 hS.2.2.1 hS.2.2.2.1 hz, Option.bind_some, decide_eq_false ci, plane_Crop.j0, if_pos (show (!false) = true from rfl)]
  ·obtain ⟨k, rfl⟩ : ∃ k, K = k + 1 := ⟨K - 1, by omega⟩
   unfold tilefarmref4_Crop.f
   rw [rvalid_same, pvalid_spec (k + 1) W H m P (by omega) (by omega), Option.bind_some, decide_eq_true hV, if_pos rfl]
   unfold tilefarmref2_Empty.f tilefarmref4_Cover.f
   rw [Option.bind_some]
   by_cases hz : x0 = 0 ∧ y0 = 0 ∧ x1 = 0 ∧ y1 = 0
   ·rw [show (x0 == 0 && (y0 == 0 && (x1 == 0 && y1 == 0))) = true by simp only [Bool.and_eq_true, beq_iff_eq]; exact hz, if_pos rfl, tilefarmref4_Crop.j0, if_pos rfl]
   ·have hemp : (x0 == 0 && (y0 == 0 && (x1 == 0 && y1 == 0))) = false := by rw [Bool.eq_false_iff]; simp only [ne_eq, Bool.and_eq_true, beq_iff_eq]; exact hz
    rw [hemp, if_neg Bool.false_ne_true, Option.bind_some]
    by_cases hv : V x0 y0 x1 y1
    ·rw [inside_r hS.1 hS.2.1 hS.2.2.1 hS.2.2.2.1 hv hz, Option.bind_some, decide_eq_false ci, tilefarmref4_Crop.j0, if_pos (show (!false) = true from rfl)]
    ·rw [inside_no hv, Option.bind_some, tilefarmref4_Crop.j0, if_pos (show (!false) = true from rfl)]
theorem max_ge {l : List Int} (hl : l.length ≤ 5000) : ∀ (d k i : Nat) (b : Int), i + d = l.length → ∃ v, slices_Max_int_int.l0 (k + d + 1) l b (i : Int) = some v ∧ b ≤ v ∧ ∀ j : Nat, i ≤ j → j < l.length → rd l (j : Int) ≤ v
 | 0, k, i, b, hi => by
  rw [slices_Max_int_int.l0, if_neg (show ¬ (i : Int) < (l.length : Int) by omega)]
  exact ⟨b, rfl, Int.le_refl _, fun j h1 h2 => by omega⟩
 | d + 1, k, i, b, hi => by
  rw [show k + (d + 1) + 1 = (k + d + 1) + 1 from rfl, slices_Max_int_int.l0, if_pos (show (i : Int) < (l.length : Int) by omega), if_pos (show 0 ≤ (i : Int) by omega), wrap_in (n := (i : Int) + 1) (by omega) (by omega)]
  obtain ⟨v, v1, v2, v3⟩ := max_ge hl d k (i + 1) (mx b (rd l (i : Int))) (by omega)
  rw [mx_max] at v2
  refine ⟨v, v1, by omega, fun j h1 h2 => ?_⟩
  by_cases q : j = i
  ·rw [q]; omega
  ·exact v3 j (by omega) h2
theorem max_pg {l : List Int} (h0 : 0 < l.length) (hl : l.length ≤ 5000) (K : Nat) (hK : 6000 ≤ K) : ∃ v, slices_Max_int_int.f K l = some v ∧ ∀ e ∈ l, e ≤ v := by
 obtain ⟨k, hk⟩ : ∃ k, K = k + (l.length - 1) + 1 := ⟨K - (l.length - 1) - 1, by omega⟩
 obtain ⟨v, g1, g2, g3⟩ := max_ge hl (l.length - 1) k 1 (rd l 0) (by omega)
 refine ⟨v, ?_, fun e he => ?_⟩
 ·unfold slices_Max_int_int.f
  rw [if_neg (show ¬ (l.length : Int) < 1 by omega), if_pos (show 0 < (l.length : Int) by omega), hk]
  exact g1
 ·obtain ⟨j, hj, e1⟩ := List.mem_iff_getElem.1 he
  have e2 : rd l (j : Int) = e := by simp [rd, hj, e1]
  by_cases q : j = 0
  ·rw [← e2, q]; exact g2
  ·rw [← e2]; exact g3 j (by omega) hj
theorem cell_of {W H : Int} {n i : Nat} (hW : 1 ≤ W) (hn : (n : Int) = W * H) (hi : i < n) : 0 ≤ (i : Int) % W ∧ (i : Int) % W < W ∧ 0 ≤ (i : Int) / W ∧ (i : Int) / W < H ∧ (i : Int) = (i : Int) / W * W + (i : Int) % W := by
 have h1 := Int.emod_nonneg (i : Int) (show W ≠ 0 by omega)
 have h2 := Int.emod_lt_of_pos (i : Int) (show 0 < W by omega)
 have h3 : 0 ≤ (i : Int) / W := Int.ediv_nonneg (Int.natCast_nonneg i) (by omega)
 have h4 : (i : Int) / W < H := by rw [Int.ediv_lt_iff_lt_mul (by omega), Int.mul_comm, ← hn]; exact Int.ofNat_lt.2 hi
 have h5 := Int.mul_ediv_add_emod (i : Int) W
 rw [Int.mul_comm] at h5
 exact ⟨h1, h2, h3, h4, h5.symm⟩
theorem uniq {x y x' y' n : Int} (hy : 0 ≤ y) (hy' : y < n) (hy2 : 0 ≤ y') (hy2' : y' < n) (h : x * n + y = x' * n + y') : x = x' ∧ y = y' := by
 have e1 : (x * n + y) / n = x := by rw [Int.add_comm, Int.add_mul_ediv_right _ _ (by omega), Int.ediv_eq_zero_of_lt hy hy', Int.zero_add]
 have e2 : (x' * n + y') / n = x' := by rw [Int.add_comm, Int.add_mul_ediv_right _ _ (by omega), Int.ediv_eq_zero_of_lt hy2 hy2', Int.zero_add]
 rw [h, e2] at e1
 subst e1
 exact ⟨rfl, by omega⟩
structure PB (W H : Int) (P : List Int) (x y : Int) (w d : Nat) (Q G : List Int) (c : Int) : Prop where
 len : G.length = P.length
 at_ : ∀ U V : Int, 0 ≤ U → U < W → 0 ≤ V → V < H → rd G (V * W + U) = if (y ≤ V ∧ V < y + (d : Int) ∧ x ≤ U ∧ U < x + (w : Int)) ∧ (V - y) * (w : Int) + (U - x) < c then rd Q ((V - y) * (w : Int) + (U - x)) else rd P (V * W + U)
theorem pb_step {W H : Int} {P Q G : List Int} {x y : Int} {w d : Nat} (h : RC W H P x y w d) {c : Int} (hb : PB W H P x y w d Q G c) {j i : Nat} (hj : j < d) (hi : i < w) (hc : c = (j : Int) * (w : Int) + (i : Int)) : PB W H P x y w d Q (G.set (((j : Int) + y) * W + ((i : Int) + x)).toNat (rd Q c)) (c + 1) := by
 have hx0 := h.hx0
 have hx1 := h.hx1
 have hy0 := h.hy0
 have hy1 := h.hy1
 have hcell := cell_in (i := (i : Int) + x) (j := (j : Int) + y) (W := W) (H := H) (by omega) (by omega) (by omega) (by omega)
 refine ⟨by rw [List.length_set]; exact hb.len, fun U V hU hU' hV hV' => ?_⟩
 have hcell2 := cell_in (i := U) (j := V) (W := W) (H := H) hU hU' hV hV'
 have hlen : ((j : Int) + y) * W + ((i : Int) + x) < (G.length : Int) := by rw [hb.len, h.hL]; exact hcell.2
 rw [rd_set (Int.add_nonneg hcell.1 (by omega)) hlen (Int.add_nonneg hcell2.1 hU)]
 by_cases q : ((j : Int) + y) * W + ((i : Int) + x) = V * W + U
 ·obtain ⟨q1, q2⟩ := uniq (by omega) (by omega) hU hU' q
  have e : (V - y) * (w : Int) + (U - x) = c := by rw [hc, ← q1, ← q2, show (j : Int) + y - y = (j : Int) by omega, show (i : Int) + x - x = (i : Int) by omega]
  rw [if_pos q, if_pos ⟨⟨by omega, by omega, by omega, by omega⟩, by rw [e]; exact Int.lt_succ c⟩, e]
 ·rw [if_neg q, hb.at_ U V hU hU' hV hV']
  by_cases r : y ≤ V ∧ V < y + (d : Int) ∧ x ≤ U ∧ U < x + (w : Int)
  ·have hne : (V - y) * (w : Int) + (U - x) ≠ c := fun e => by
    rw [hc] at e
    obtain ⟨e1, e2⟩ := uniq (n := (w : Int)) (by omega) (by omega) (by omega) (by omega) e
    exact q (by rw [show V = (j : Int) + y by omega, show U = (i : Int) + x by omega])
   by_cases z : (V - y) * (w : Int) + (U - x) < c
   ·rw [if_pos ⟨r, z⟩, if_pos ⟨r, Int.lt_of_lt_of_le z (Int.le_of_lt (Int.lt_succ c))⟩]
   ·rw [if_neg (fun k => z k.2), if_neg (fun k => by have := k.2; omega)]
  ·rw [if_neg (fun k => r k.1), if_neg (fun k => r k.1)]
theorem pb_end {W H : Int} {P Q G L : List Int} {x y : Int} {w d : Nat} (h : RC W H P x y w d) (hW : 1 ≤ W) (hg : PB W H P x y w d Q G ((d : Int) * (w : Int))) (hl : BL W H P x y w Q L d) : G = L := by
 refine rd_ext (by rw [hg.len, hl.len]) (fun i hi => ?_)
 rw [hg.len] at hi
 obtain ⟨a1, a2, a3, a4, a5⟩ := cell_of hW h.hL hi
 rw [a5, hg.at_ _ _ a1 a2 a3 a4, hl.rd _ _ a1 a2 a3 a4]
 by_cases r : y ≤ (i : Int) / W ∧ (i : Int) / W < y + (d : Int) ∧ x ≤ (i : Int) % W ∧ (i : Int) % W < x + (w : Int)
 ·have hc := cell_in (i := (i : Int) % W - x) (j := (i : Int) / W - y) (W := (w : Int)) (H := (d : Int)) (by omega) (by omega) (by omega) (by omega)
  rw [if_pos ⟨r, by rw [Int.mul_comm (d : Int)]; exact hc.2⟩, if_pos r]
 ·rw [if_neg (fun k => r k.1), if_neg r]
section
variable {W H m mq x y : Int} {P Q : List Int} {w d : Nat}
structure BH (W H m mq x y : Int) (P Q : List Int) (w d : Nat) : Prop where
 pv : PV W H m P
 qv : PV (w : Int) (d : Int) mq Q
 rc : RC W H P x y w d
 pl : P.length ≤ 1000
 ql : Q.length = d * w
theorem b_idx (h : BH W H m mq x y P Q w d) {j i : Nat} (hj : j < d) (hi : i < w) :
  wrap64 ((wrap64 ((j : Int) * (w : Int))) + (i : Int)) = ((j * w + i : Nat) : Int) ∧ j * w + i < Q.length ∧ wrap64 ((wrap64 ((wrap64 ((wrap64 ((j : Int) + y)) * W)) + (i : Int))) + x) = ((j : Int) + y) * W + ((i : Int) + x) ∧ 0 ≤ ((j : Int) + y) * W + ((i : Int) + x) ∧ ((j : Int) + y) * W + ((i : Int) + x) < (P.length : Int) ∧ wrap64 ((i : Int) + 1) = ((i + 1 : Nat) : Int) ∧ wrap64 ((j : Int) + 1) = ((j + 1 : Nat) : Int) := by
 have hx0 := h.rc.hx0
 have hx1 := h.rc.hx1
 have hy0 := h.rc.hy0
 have hy1 := h.rc.hy1
 have hw' := h.rc.hw'
 have hd' := h.rc.hd'
 have hW := h.rc.hW
 have hH := h.rc.hH
 have hWH := h.rc.hWH
 have hL := h.rc.hL
 have hrl := rc_len h.rc
 have hpl := h.pl
 have hql := h.ql
 have h1 : (j + 1) * w ≤ d * w := Nat.mul_le_mul_right w hj
 rw [Nat.succ_mul] at h1
 have hcell := cell_in (i := (i : Int) + x) (j := (j : Int) + y) (W := W) (H := H) (by omega) (by omega) (by omega) (by omega)
 refine ⟨?_, by omega, ?_, by omega, by omega, ?_, ?_⟩
 ·rw [← Int.natCast_mul, wrap_in (n := ((j * w : Nat) : Int)) (by omega) (by omega), wrap_in (by omega) (by omega)]; rfl
 ·rw [wrap_in (n := (j : Int) + y) (by omega) (by omega), wrap_in (n := ((j : Int) + y) * W) (by omega) (by omega), wrap_in (n := ((j : Int) + y) * W + (i : Int)) (by omega) (by omega), wrap_in (by omega) (by omega)]; omega
 ·rw [wrap_in (by omega) (by omega)]; rfl
 ·rw [wrap_in (by omega) (by omega)]; rfl
theorem b_l1 (h : BH W H m mq x y P Q w d) (j : Nat) (hj : j < d) {r : Int × Int × Int × List Int × Bool} (hbad : ¬ (∀ e ∈ Q, e ≤ m) → r = NP) (hnext : ∀ G', PB W H P x y w d Q G' (((j + 1 : Nat) : Int) * (w : Int)) → (∀ k : Nat, k < (j + 1) * w → rd Q (k : Int) ≤ m) → EV (fun K => tilefarmref4_Blit.l0 K x y ((j + 1 : Nat) : Int) W H m P (w : Int) (d : Int) mq Q W H m G') r) : ∀ (e i : Nat) (G : List Int), i + e = w → PB W H P x y w d Q G ((j : Int) * (w : Int) + (i : Int)) → (∀ k : Nat, k < j * w + i → rd Q (k : Int) ≤ m) →
  EV (fun K => tilefarmref4_Blit.l1 K x y (j : Int) (i : Int) W H m P (w : Int) (d : Int) mq Q W H m G) r
 | 0, i, G, hi, hg, hok => by
  have hi' : i = w := hi
  have hd' := h.rc.hd'
  have ej : wrap64 ((j : Int) + 1) = ((j + 1 : Nat) : Int) := by rw [wrap_in (by omega) (by omega)]; rfl
  rw [hi'] at hg hok ⊢
  refine EV.step 0 (fun K _ => ?_) (hnext G (by rw [Int.natCast_succ, Int.add_mul, Int.one_mul]; exact hg) (by rw [Nat.succ_mul]; exact hok))
  rw [tilefarmref4_Blit.l1, if_neg (Int.lt_irrefl _), ej]
 | e + 1, i, G, hi, hg, hok => by
  have hi' : i < w := Nat.lt_of_lt_of_le (Nat.lt_add_of_pos_right (Nat.succ_pos e)) (Nat.le_of_eq hi)
  have hie : i + 1 + e = w := by rw [← hi]; exact Nat.succ_add_eq_add_succ i e
  obtain ⟨a1, a2, a3, a4, a5, a6, -⟩ := b_idx h hj hi'
  have hm := rd_mem Q (j * w + i) a2
  have hql : ((j * w + i : Nat) : Int) < (Q.length : Int) := Int.ofNat_lt.2 a2
  have hgl : ((j : Int) + y) * W + ((i : Int) + x) < (G.length : Int) := by rw [hg.len]; exact a5
  have ec : ((j * w + i : Nat) : Int) = (j : Int) * (w : Int) + (i : Int) := by rw [Int.natCast_add, Int.natCast_mul]
  by_cases c : rd Q ((j * w + i : Nat) : Int) ≤ m
  ·have st := pb_step h.rc hg hj hi' rfl
   rw [← ec] at st
   have st2 : PB W H P x y w d Q (G.set (((j : Int) + y) * W + ((i : Int) + x)).toNat (rd Q ((j * w + i : Nat) : Int))) ((j : Int) * (w : Int) + ((i + 1 : Nat) : Int)) := by
    rw [show (j : Int) * (w : Int) + ((i + 1 : Nat) : Int) = ((j * w + i : Nat) : Int) + 1 by rw [ec, Int.natCast_succ, Int.add_assoc]]
    exact st
   refine EV.step 0 (fun K _ => ?_) (b_l1 h j hj hbad hnext e (i + 1) _ hie st2 (fun k hk => by
    rcases Nat.lt_or_ge k (j * w + i) with z | z
    ·exact hok k z
    ·rw [Nat.le_antisymm (Nat.le_of_lt_succ hk) z]; exact c))
   rw [tilefarmref4_Blit.l1, if_pos (Int.ofNat_lt.2 hi'), a1, if_pos (Int.natCast_nonneg _), if_pos hql, if_neg (Int.not_lt.2 c), a3, if_pos a4, if_pos hgl, a6]
  ·have hb := hbad (fun q => c (q _ hm))
   refine EV.now 1 (fun K hK => ?_)
   obtain ⟨k, rfl⟩ : ∃ k, K = k + 1 := ⟨K - 1, by omega⟩
   rw [hb, tilefarmref4_Blit.l1, if_pos (Int.ofNat_lt.2 hi'), a1, if_pos (Int.natCast_nonneg _), if_pos hql, if_pos (show rd Q ((j * w + i : Nat) : Int) > m from Int.not_le.1 c)]
theorem b_l0 (h : BH W H m mq x y P Q w d) {r : Int × Int × Int × List Int × Bool} (hbad : ¬ (∀ e ∈ Q, e ≤ m) → r = NP) (hgood : (∀ e ∈ Q, e ≤ m) → ∀ G, PB W H P x y w d Q G ((d : Int) * (w : Int)) → r = (W, H, m, G, true)) : ∀ (e j : Nat) (G : List Int), j + e = d → PB W H P x y w d Q G ((j : Int) * (w : Int)) → (∀ k : Nat, k < j * w → rd Q (k : Int) ≤ m) →
  EV (fun K => tilefarmref4_Blit.l0 K x y (j : Int) W H m P (w : Int) (d : Int) mq Q W H m G) r
 | 0, j, G, hj, hg, hok => by
  have hj' : j = d := hj
  rw [hj'] at hg hok ⊢
  refine EV.now 1 (fun K hK => ?_)
  obtain ⟨k, rfl⟩ : ∃ k, K = k + 1 := ⟨K - 1, by omega⟩
  have hall : ∀ e ∈ Q, e ≤ m := fun e he => by
   obtain ⟨i, hi, e1⟩ := List.mem_iff_getElem.1 he
   have := hok i (by rw [← h.ql]; exact hi)
   rw [show rd Q (i : Int) = e by simp [rd, hi, e1]] at this
   exact this
  rw [hgood hall G hg, tilefarmref4_Blit.l0, if_neg (Int.lt_irrefl _)]
 | e + 1, j, G, hj, hg, hok => by
  have hj' : j < d := Nat.lt_of_lt_of_le (Nat.lt_add_of_pos_right (Nat.succ_pos e)) (Nat.le_of_eq hj)
  have hje : j + 1 + e = d := by rw [← hj]; exact Nat.succ_add_eq_add_succ j e
  refine EV.step 0 (fun K _ => ?_) (b_l1 h j hj' hbad (fun G' hg' hok' => b_l0 h hbad hgood e (j + 1) G' hje hg' hok') w 0 G (Nat.zero_add w) (by rw [show ((0 : Nat) : Int) = 0 from rfl, Int.add_zero]; exact hg) (by rw [Nat.add_zero]; exact hok))
  rw [tilefarmref4_Blit.l0, if_pos (Int.ofNat_lt.2 hj')]
  rfl
end
theorem blit_same {W H m : Int} {P : List Int} (hV : PV W H m P) (hl : P.length ≤ 1000) {w d mq : Int} {Q : List Int} (hQ : PV w d mq Q) (hql : Q.length ≤ 1000) (x y : Int) : ∃ r : Int × Int × Int × List Int × Bool, EV (fun K => plane_Blit.f K W H m P w d mq Q x y) r ∧ EV (fun K => tilefarmref4_Blit.f K W H m P w d mq Q x y) r ∧ r.2.2.2.1.length ≤ 10000 := by
 have hS := hV.1
 have hT := hQ.1
 have ew : wrap64 (W - w) = W - w := wrap_in (by omega) (by omega)
 have ed : wrap64 (H - d) = H - d := wrap_in (by omega) (by omega)
 by_cases c : 0 ≤ x ∧ 0 ≤ y ∧ x ≤ W - w ∧ y ≤ H - d
 ·obtain ⟨c1, c2, c3, c4⟩ := c
  obtain ⟨n, hn⟩ : ∃ n : Nat, w = (n : Int) := ⟨w.toNat, (Int.toNat_of_nonneg (by omega)).symm⟩
  obtain ⟨h, hh⟩ : ∃ h : Nat, d = (h : Int) := ⟨d.toNat, (Int.toNat_of_nonneg (by omega)).symm⟩
  rw [hn, hh] at hQ ⊢
  have hr : RC W H P x y n h := ⟨c1, by omega, c2, by omega, hS.2.1, hS.2.2.2.1, hS.2.2.2.2.1, hV.2.1, by omega, by omega, by omega, by omega⟩
  have hQl : Q.length = h * n := by
   have := hQ.2.1
   rw [← Int.natCast_mul, Nat.mul_comm] at this
   exact Int.ofNat.inj this
  have hbh : BH W H m mq x y P Q n h := ⟨hV, hQ, hr, hl, hQl⟩
  have hq0 : 0 < Q.length := by
   have : 1 * 1 ≤ h * n := Nat.mul_le_mul hr.hd hr.hw
   omega
  have front : ∀ K, 2000 ≤ K → tilefarmref4_Blit.f (K + 1) W H m P (n : Int) (h : Int) mq Q x y = tilefarmref4_Blit.l0 K x y 0 W H m P (n : Int) (h : Int) mq Q W H m P := fun K hK => by
   unfold tilefarmref4_Blit.f
   rw [rvalid_same, pvalid_spec (K + 1) W H m P (by omega) (by omega), Option.bind_some, decide_eq_true hV, if_pos rfl, rvalid_same, pvalid_spec (K + 1) (n : Int) (h : Int) mq Q (by omega) (by omega), Option.bind_some, decide_eq_true hQ, if_pos rfl, if_neg (show ¬ x < 0 by omega), if_neg (show ¬ y < 0 by omega), ← hn, ew, if_neg (show ¬ x > W - w by omega), ← hh, ed, decide_eq_false (show ¬ y > H - d by omega), tilefarmref4_Blit.j0, if_neg Bool.false_ne_true]
   unfold tilefarmref4_Copy.f
   rw [if_pos (show ([] : List Int).length + P.length < 17592186044416 by rw [List.length_nil]; omega), Option.bind_some, List.nil_append]
  have st : PB W H P x y n h Q P (((0 : Nat) : Int) * (n : Int)) := ⟨rfl, fun U V hU hU' hV hV' => by
   rw [if_neg (fun k => ?_)]
   have := Int.mul_nonneg (show 0 ≤ V - y by omega) (show 0 ≤ (n : Int) by omega)
   have := k.2
   rw [show ((0 : Nat) : Int) = 0 from rfl, Int.zero_mul] at this
   omega⟩
  by_cases ca : ∀ e ∈ Q, e ≤ m
  ·obtain ⟨L, g1, g2⟩ := blit_p hV hr hQ ca 20000 (Nat.le_refl _)
   refine ⟨(W, H, m, L, true), EV.now 20000 (fun K hK => ?_), ?_, by show L.length ≤ 10000; rw [g2.len]; omega⟩
   ·obtain ⟨L', f1, f2⟩ := blit_p hV hr hQ ca K hK
    have : L' = L := by
     refine rd_ext (by rw [f2.len, g2.len]) (fun i hi => ?_)
     rw [f2.len] at hi
     obtain ⟨a1, a2, a3, a4, a5⟩ := cell_of hS.1 hV.2.1 hi
     rw [a5, f2.rd _ _ a1 a2 a3 a4, g2.rd _ _ a1 a2 a3 a4]
    rw [f1, this]
   ·refine EV.step 2000 (fun K hK => front K hK) (b_l0 hbh (fun q => absurd ca q) (fun _ G hG => by rw [pb_end hr hS.1 hG g2]) h 0 P (Nat.zero_add h) st (fun k hk => absurd hk (by rw [Nat.zero_mul]; exact Nat.not_lt_zero k)))
  ·obtain ⟨e0, he0, hem⟩ : ∃ e, e ∈ Q ∧ m < e := by
    refine Classical.byContradiction (fun q => ca (fun e he => Int.not_lt.1 (fun z => q ⟨e, he, z⟩)))
   refine ⟨NP, EV.now 20001 (fun K hK => ?_), ?_, Nat.zero_le _⟩
   ·obtain ⟨k, rfl⟩ : ∃ k, K = k + 1 := ⟨K - 1, by omega⟩
    obtain ⟨v, v1, v2⟩ := max_pg hq0 (by omega) k (by omega)
    have := v2 e0 he0
    unfold plane_Blit.f
    rw [pvalid_spec (k + 1) W H m P (by omega) (by omega), Option.bind_some, decide_eq_true hV, if_pos rfl, pvalid_spec (k + 1) (n : Int) (h : Int) mq Q (by omega) (by omega), Option.bind_some, decide_eq_true hQ, if_pos rfl, if_neg (show ¬ x < 0 by omega), if_neg (show ¬ y < 0 by omega), ← hn, ew, if_neg (show ¬ x > W - w by omega), ← hh, ed, decide_eq_false (show ¬ y > H - d by omega), plane_Blit.j0, if_neg Bool.false_ne_true, v1, Option.bind_some, if_pos (show v > m by omega)]
   ·exact EV.step 2000 (fun K hK => front K hK) (b_l0 hbh (fun _ => rfl) (fun q => absurd q ca) h 0 P (Nat.zero_add h) st (fun k hk => absurd hk (by rw [Nat.zero_mul]; exact Nat.not_lt_zero k)))
 ·refine ⟨NP, EV.now 2001 (fun K hK => ?_), EV.now 2001 (fun K hK => ?_), Nat.zero_le _⟩
  ·obtain ⟨k, rfl⟩ : ∃ k, K = k + 1 := ⟨K - 1, by omega⟩
   unfold plane_Blit.f
   rw [pvalid_spec (k + 1) W H m P (by omega) (by omega), Option.bind_some, decide_eq_true hV, if_pos rfl, pvalid_spec (k + 1) w d mq Q (by omega) (by omega), Option.bind_some, decide_eq_true hQ, if_pos rfl, ew, ed]
   by_cases d1 : x < 0
   ·rw [if_pos d1, plane_Blit.j0, if_pos rfl]
   rw [if_neg d1]
   by_cases d2 : y < 0
   ·rw [if_pos d2, plane_Blit.j0, if_pos rfl]
   rw [if_neg d2]
   by_cases d3 : x > W - w
   ·rw [if_pos d3, plane_Blit.j0, if_pos rfl]
   rw [if_neg d3, decide_eq_true (show y > H - d by omega), plane_Blit.j0, if_pos rfl]
  ·obtain ⟨k, rfl⟩ : ∃ k, K = k + 1 := ⟨K - 1, by omega⟩
   unfold tilefarmref4_Blit.f
   rw [rvalid_same, pvalid_spec (k + 1) W H m P (by omega) (by omega), Option.bind_some, decide_eq_true hV, if_pos rfl, rvalid_same, pvalid_spec (k + 1) w d mq Q (by omega) (by omega), Option.bind_some, decide_eq_true hQ, if_pos rfl, ew, ed]
   by_cases d1 : x < 0
   ·rw [if_pos d1, tilefarmref4_Blit.j0, if_pos rfl]
   rw [if_neg d1]
   by_cases d2 : y < 0
   ·rw [if_pos d2, tilefarmref4_Blit.j0, if_pos rfl]
   rw [if_neg d2]
   by_cases d3 : x > W - w
   ·rw [if_pos d3, tilefarmref4_Blit.j0, if_pos rfl]
   rw [if_neg d3, decide_eq_true (show y > H - d by omega), tilefarmref4_Blit.j0, if_pos rfl]
theorem cmp_j1 (t : List Int) {W H m : Int} {P : List Int} (hV : PV W H m P) (hl : P.length ≤ 1000) {w d mq : Int} {Q : List Int} (hQ : PV w d mq Q) (hql : Q.length ≤ 1000) (X Y i u v r0 r1 r2 r3 s x0 y0 x1 y1 : Int) (hi0 : 0 ≤ i) (hi5 : i < 5) (hnext : EV (fun K => tilefarmlaw4_PlaneCrops.l0 K X Y (i + 1) r0 r1 r2 r3 t s W H m P w d mq Q) true) :
  EV (fun K => tilefarmlaw4_PlaneCrops.j1 K X Y i u v r0 r1 r2 r3 t s W H m P w d mq Q x0 y0 x1 y1) true := by
 obtain ⟨a, ⟨N1, e1⟩, ⟨N2, e2⟩, ha⟩ := crop_same hV hl x0 y0 x1 y1
 obtain ⟨b, ⟨N3, e3⟩, ⟨N4, e4⟩, hb⟩ := blit_same hV hl hQ hql u v
 refine EV.step (N1 + N2 + N3 + N4 + 20001) (fun K hK => ?_) hnext
 have f1 := e1 K (by omega)
 have f2 := e2 K (by omega)
 have f3 := e3 K (by omega)
 have f4 := e4 K (by omega)
 simp only at f1 f2 f3 f4
 rw [tilefarmlaw4_PlaneCrops.j1, f1, Option.bind_some, f2, Option.bind_some, f3, Option.bind_some, f4, Option.bind_some, equal_eq _ _ _ _ ha K (by omega), Option.bind_some, if_pos rfl, bne_self_eq_false, if_neg Bool.false_ne_true, equal_eq _ _ _ _ hb K (by omega), Option.bind_some, if_pos rfl, bne_self_eq_false, if_neg Bool.false_ne_true, wrap_in (n := i + 1) (by omega) (by omega)]
theorem ll0 (t : List Int) (ht : t.length ≤ 4611686018427387904) {W H m : Int} {P : List Int} (hV : PV W H m P) (hl : P.length ≤ 1000) {w d mq : Int} {Q : List Int} (hQ : PV w d mq Q) (hql : Q.length ≤ 1000) (X Y r0 r1 r2 r3 : Int) : ∀ (n : Nat) (i s : Int), i + (n : Int) = 5 → 0 ≤ i → 0 ≤ s → EV (fun K => tilefarmlaw4_PlaneCrops.l0 K X Y i r0 r1 r2 r3 t s W H m P w d mq Q) true
 | 0, i, s, hi, i0, hs => by
  refine EV.now 101 (fun K hK => ?_)
  obtain ⟨k, rfl⟩ : ∃ k, K = k + 1 := ⟨K - 1, by omega⟩
  have hsane : tilefarmlaw4_sane.f k = some true := at_rounds tilefarmlaw4_sane.mono (by omega) sane_eq
  rw [tilefarmlaw4_PlaneCrops.l0, if_neg (show ¬ i < 5 by omega), hsane, Option.bind_some]
 | n + 1, i, s, hi, i0, hs => by
  obtain ⟨a, b, c, e, s', w1, w2⟩ := rect_spec t s hs ht
  obtain ⟨p, p1, p2, p3, p4⟩ := next_o t s' 5 w2 ht (by omega) (by omega)
  obtain ⟨q, q1, q2, q3, q4⟩ := next_o t p.2 5 p4 ht (by omega) (by omega)
  have hnx := ll0 t ht hV hl hQ hql X Y r0 r1 r2 r3 n (i + 1) q.2 (by omega) (by omega) q4
  by_cases c4 : i = 4
  ·refine EV.step 0 (fun K hK => ?_) (cmp_j1 t hV hl hQ hql X Y i X Y r0 r1 r2 r3 q.2 r0 r1 r2 r3 i0 (by omega) hnx)
   rw [tilefarmlaw4_PlaneCrops.l0, if_pos (show i < 5 by omega), w1, Option.bind_some, p1, Option.bind_some, q1, Option.bind_some, if_pos c4]
  ·refine EV.step 0 (fun K hK => ?_) (cmp_j1 t hV hl hQ hql X Y i (wrap64 (p.1 - 1)) (wrap64 (q.1 - 1)) r0 r1 r2 r3 q.2 a b c e i0 (by omega) hnx)
   rw [tilefarmlaw4_PlaneCrops.l0, if_pos (show i < 5 by omega), w1, Option.bind_some, p1, Option.bind_some, q1, Option.bind_some, if_neg c4]
theorem PlaneCrops : tilefarmlaw4_PlaneCrops.Pure := by
 intro t r0 r1 r2 r3 X Y _ hl _ _ _ _ _ _ _
 have ht : t.length ≤ 4611686018427387904 := by omega
 obtain ⟨a, a1, a2, a3, a4⟩ := next_o t 0 5 (Int.le_refl _) ht (by omega) (by omega)
 obtain ⟨b, b1, b2, b3, b4⟩ := next_o t a.2 4 a4 ht (by omega) (by omega)
 obtain ⟨p, p1, p2, p3, p4, p5, p6, p7, p8⟩ := sized_spec 2000 (by omega) t ht b.2 (2 + a.1) (2 + b.1) b4 (by omega) (by omega) (by omega) (by omega)
 obtain ⟨hV, hPl⟩ := sized_PV p2 p3 p4 p5 p6 p7 (by omega) (by omega) (by omega) (by omega)
 obtain ⟨q, q1, q2, q3, q4, q5, q6, q7, q8, q9, q10⟩ := plane_spec 2000 (by omega) t ht p.2.2.2.2 p8
 obtain ⟨hQ, hQl⟩ := plane_PV q2 q3 q4 q5 q6 q7 q8 q9
 obtain ⟨N, hN⟩ := ll0 t ht hV (by omega) hQ (by omega) X Y r0 r1 r2 r3 5 0 q.2.2.2.2 (by decide) (by decide) q10
 obtain ⟨K, hK1, hK2⟩ : ∃ K, N ≤ K ∧ 2000 ≤ K := ⟨N + 2000, by omega, by omega⟩
 have hrun := hN K hK1
 refine ⟨K, ?_⟩
 have g1 := at_rounds (tilefarmgen_Tape_Sized.mono t b.2 (2 + a.1) (2 + b.1)) hK2 p1
 have g2 := at_rounds (tilefarmgen_Tape_Plane.mono t p.2.2.2.2) hK2 q1
 unfold tilefarmlaw4_PlaneCrops.f tilefarmgen_New.f
 rw [Option.bind_some, a1, Option.bind_some, b1, Option.bind_some, wrap_in (n := 2 + a.1) (by omega) (by omega), wrap_in (n := 2 + b.1) (by omega) (by omega), g1, Option.bind_some, g2, Option.bind_some]
 exact hrun
end Go.Proofs.Ytgkccacenlcebaa.Pure
namespace Go.Proofs.Ytgkccacenlcebaa
open Go.ChangeShapes Go.WideShapes
theorem PrintWords.sized_ints {H : Type} {enc : TypeId × Value → H} {P : Program} {W : World} {base : Nat} {spare : Nat → Bool} {held : Bool} {t e : TypeId} {k : IntKind} {a : Option Addr} {len cap : Nat} {d : DataW H} {ps : List MemPlace} {ts : List TypeId} {ds : List (DataW H)} {j : Nat}
  (hsz : (DataW.weightsEach P ts ds).all (· ≤ reachBytes) = true) (ht : ts[j]? = some t) (hd : ds[j]? = some d) (hu : P.underlying t = some (.slice e)) (he : P.underlying e = some (.int k)) (hc : P.cellsOf e = 1) {B : Nat} (hB : P.bytesOf e = B)
  (h : DataW.Trod enc P W base spare held t (.slice a len cap) d ps) : len * B ≤ 140737488351232 :=
 Go.Proofs.YtgkccacenlcebaaW.PrintWords.sized_ints hsz ht hd hu he hc hB h
end Go.Proofs.Ytgkccacenlcebaa

/- The pixels of planes, also outside of them, are those of the reference: for every tape and all integers. -/
import Derived.Test.YtgkccacenlcebaaKPlaneReadsx13
import Derived.Test.YtgkccacenlcebaaKPlaneReadsa
namespace Go.Proofs.Ytgkccacenlcebaa.Pure
open Go.RowKit Go.Proofs.Ytgkccacenlcebaa.PPlaneReads Go.Proofs.YtgkccacenlcebaaW.PrintWords Go.Proofs.YtgkccacenlcebaaW.PrintLast Go.Proofs.YtgkccacenlcebaaW.PrintMore
set_option linter.unusedVariables false
set_option linter.unusedSimpArgs false

theorem wrap_in {n : Int} (h : -9223372036854775808 ≤ n) (h' : n ≤ 9223372036854775807) : wrap64 n = n := by unfold wrap64; omega

theorem tmod_emod (a n : Int) (h : 0 < n) : (0 ≤ Int.tmod a n ∧ Int.tmod a n = a % n) ∨ (Int.tmod a n < 0 ∧ Int.tmod a n + n = a % n) := by
  have h1 := Int.tmod_eq_emod (a := a) (b := n)
  have h2 := Int.emod_nonneg a (by omega : n ≠ 0)
  have h3 := Int.emod_lt_of_pos a h
  split at h1 <;> omega

theorem mod_eq (a n : Int) (h : 0 < n) (hn : n ≤ 4611686018427387904) : tilefarmgen_Mod.f a n = some (a % n) := by
  have h2 := Int.emod_nonneg a (by omega : n ≠ 0)
  have h3 := Int.emod_lt_of_pos a h
  unfold tilefarmgen_Mod.f
  rw [if_neg (by omega)]
  rcases tmod_emod a n h with ⟨h4, h5⟩ | ⟨h4, h5⟩
  · rw [if_neg (by omega), h5]
  · rw [if_pos h4, wrap_in (by omega) (by omega), h5]

theorem sd_true {p : Prop} [Decidable p] (h : p) : some true = some (decide p) := by rw [decide_eq_true h]
theorem sd_false {p : Prop} [Decidable p] (h : ¬ p) : some false = some (decide p) := by rw [decide_eq_false h]
theorem sd_iff {p q : Prop} [Decidable p] [Decidable q] (h : q ↔ p) : some (decide q) = some (decide p) := by rw [decide_eq_decide.2 h]

theorem mx_max (a b : Int) : mx a b = max a b := by unfold mx; omega
theorem mn_min (a b : Int) : mn a b = min a b := by unfold mn; omega

theorem mul_bd {x y B C : Int} (hx : 0 ≤ x) (hy : 0 ≤ y) (hxB : x ≤ B) (hyB : y ≤ C) : 0 ≤ x * y ∧ x * y ≤ B * C :=
  ⟨Int.mul_nonneg hx hy, Int.mul_le_mul hxB hyB hy (by omega)⟩

theorem dec_iff {p q : Prop} [Decidable p] [Decidable q] (h : p ↔ q) : decide p = decide q := decide_eq_decide.2 h
theorem and_not_dec (p q : Prop) [Decidable p] [Decidable q] : (decide p && !decide q) = decide (p ∧ ¬ q) := by
  by_cases hp : p <;> by_cases hq : q <;> simp [hp, hq]

theorem wrap64_range (n : Int) : -9223372036854775808 ≤ wrap64 n ∧ wrap64 n ≤ 9223372036854775807 := by unfold wrap64; omega

theorem wf_range {n : Int} (h : (Lit.int .i64 n).wf = true) : -9223372036854775808 ≤ n ∧ n ≤ 9223372036854775807 := by
  simp only [Lit.wf, IntKind.min, IntKind.max, IntKind.signed, IntKind.bits, Bool.and_eq_true, decide_eq_true_eq, if_true] at h
  omega


theorem next_spec (l : List Int) (s n : Int) (hs : 0 ≤ s) (hl : l.length ≤ 4611686018427387904) (h : 0 < n) (hn : n ≤ 4611686018427387904) :
    ∃ r s', tilefarmgen_Tape_Next.f l s n = some (r, s') ∧ 0 ≤ r ∧ r < n ∧ 0 ≤ s' := by
  unfold tilefarmgen_Tape_Next.f
  rw [if_neg (by omega)]
  by_cases h1 : s ≥ (l.length : Int)
  · rw [if_pos h1]; exact ⟨_, _, rfl, by omega, by omega, hs⟩
  · have e1 : wrap64 (s + 1) = s + 1 := wrap_in (by omega) (by omega)
    have e2 : wrap64 (s + 1 - 1) = s := by rw [wrap_in (by omega) (by omega)]; omega
    rw [if_neg h1]
    simp only [e1, e2]
    rw [if_pos hs, if_pos (by omega), mod_eq _ _ h hn]
    exact ⟨_, _, rfl, Int.emod_nonneg _ (by omega), Int.emod_lt_of_pos _ h, by omega⟩


theorem rd_mem (l : List Int) (i : Nat) (h : i < l.length) : rd l (i : Int) ∈ l := by
  simp [rd, h]

theorem rd_drop (l : List Int) (i : Nat) (h : i < l.length) : l.drop i = rd l (i : Int) :: l.drop (i + 1) := by
  rw [List.drop_eq_getElem_cons h]
  simp [rd, h]

theorem next_o (l : List Int) (s n : Int) (hs : 0 ≤ s) (hl : l.length ≤ 4611686018427387904) (h : 0 < n) (hn : n ≤ 4611686018427387904) :
    ∃ bt, tilefarmgen_Tape_Next.f l s n = some bt ∧ 0 ≤ bt.1 ∧ bt.1 < n ∧ 0 ≤ bt.2 := by
  obtain ⟨r, s', h1, h2, h3, h4⟩ := next_spec l s n hs hl h hn
  exact ⟨(r, s'), h1, h2, h3, h4⟩

theorem pick_o (l : List Int) (s : Int) (xs : List Int) (hs : 0 ≤ s) (hl : l.length ≤ 4611686018427387904) (h : 0 < xs.length) (hx : xs.length ≤ 100) :
    ∃ bt, tilefarmgen_Tape_Pick.f l s xs = some bt ∧ bt.1 ∈ xs ∧ 0 ≤ bt.2 := by
  obtain ⟨r, s', h1, h2, h3, h4⟩ := next_spec l s (xs.length : Int) hs hl (by omega) (by omega)
  refine ⟨(rd xs r, s'), ?_, ?_, h4⟩
  · unfold tilefarmgen_Tape_Pick.f
    rw [h1, Option.bind_some, if_pos h2, if_pos h3]
  · obtain ⟨n, rfl⟩ := Int.eq_ofNat_of_zero_le h2
    exact rd_mem xs n (by omega)


theorem mul_some (a b c : Int) : ∃ p, extent_Mul.f a b c = some p := by
  unfold extent_Mul.f
  by_cases c1 : a < 0
  · rw [if_pos c1]; exact ⟨_, rfl⟩
  · rw [if_neg c1]
    by_cases c2 : b < 0
    · rw [if_pos c2]; exact ⟨_, rfl⟩
    · rw [if_neg c2]
      by_cases c3 : c < 0
      · rw [if_pos c3]; exact ⟨_, rfl⟩
      · rw [if_neg c3]
        by_cases c4 : a = 0
        · rw [if_pos c4]; exact ⟨_, rfl⟩
        · rw [if_neg c4]
          by_cases c5 : b > wrap64 (Int.tdiv c a)
          · rw [if_pos c5]; exact ⟨_, rfl⟩
          · rw [if_neg c5]; exact ⟨_, rfl⟩

/-- Which sizes a plane can have. -/
abbrev SZ (a b m : Int) : Prop := 1 ≤ a ∧ a ≤ 128 ∧ 1 ≤ b ∧ b ≤ 128 ∧ a * b ≤ 4096 ∧ 1 ≤ m ∧ m ≤ 4294967296

theorem size_no {a b m : Int} (h : ¬ SZ a b m) : some false = some (decide (SZ a b m)) := by rw [decide_eq_false h]

theorem size_val (a b m : Int) : plane_size.f a b m = some (decide (SZ a b m)) := by
  unfold plane_size.f
  by_cases c1 : a ≥ 1
  · by_cases c2 : a ≤ 128
    · by_cases c3 : b ≥ 1
      · by_cases c4 : b ≤ 128
        · obtain ⟨b0, b1⟩ := mul_bd (x := a) (y := b) (B := 128) (C := 128) (by omega) (by omega) c2 c4
          have hq : b ≤ 4096 / a ↔ b * a ≤ 4096 := Int.le_ediv_iff_mul_le (by omega)
          have q0 : 0 ≤ 4096 / a := Int.ediv_nonneg (by decide) (by omega)
          have q1 : 4096 / a ≤ 4096 := Int.ediv_le_self _ (by decide)
          rw [Int.mul_comm b a] at hq
          unfold extent_Mul.f
          rw [if_neg (show ¬ a < 0 by omega), if_neg (show ¬ b < 0 by omega), if_neg (show ¬ (4096 : Int) < 0 by decide), if_neg (show ¬ a = 0 by omega), Int.tdiv_eq_ediv_of_nonneg (by decide), wrap_in (n := 4096 / a) (by omega) (by omega), wrap_in (n := a * b) (by omega) (by omega)]
          by_cases c5 : b > 4096 / a
          · rw [if_pos c5]
            exact size_no (fun h => by have := hq.2 h.2.2.2.2.1; omega)
          · rw [if_neg c5, Option.bind_some]
            simp only [if_pos c1, if_pos c2, if_pos c3, if_pos c4, if_true]
            by_cases c6 : m ≥ 1
            · rw [if_pos c6]
              have := hq.1 (by omega)
              exact congrArg some (decide_eq_decide.2 ⟨fun h => ⟨c1, c2, c3, c4, this, c6, h⟩, fun h => h.2.2.2.2.2.2⟩)
            · rw [if_neg c6]
              exact size_no (fun h => c6 h.2.2.2.2.2.1)
        · obtain ⟨p, hp⟩ := mul_some a b 4096
          rw [hp, Option.bind_some]
          simp only [if_pos c1, if_pos c2, if_pos c3, if_neg c4, ite_self]
          exact size_no (fun h => c4 h.2.2.2.1)
      · obtain ⟨p, hp⟩ := mul_some a b 4096
        rw [hp, Option.bind_some]
        simp only [if_pos c1, if_pos c2, if_neg c3, ite_self]
        exact size_no (fun h => c3 h.2.2.1)
    · obtain ⟨p, hp⟩ := mul_some a b 4096
      rw [hp, Option.bind_some]
      simp only [if_pos c1, if_neg c2, ite_self]
      exact size_no (fun h => c2 h.2.1)
  · obtain ⟨p, hp⟩ := mul_some a b 4096
    rw [hp, Option.bind_some]
    simp only [if_neg c1, ite_self]
    exact size_no (fun h => c1 h.1)

/-- Which planes are valid. -/
abbrev PV (a b m : Int) (l : List Int) : Prop := SZ a b m ∧ (l.length : Int) = a * b ∧ ∀ v ∈ l, 0 ≤ v ∧ v ≤ m

theorem vloop_spec (a b m : Int) (l : List Int) (hl : l.length ≤ 4611686018427387904) : ∀ (d k i : Nat), i + d = l.length → d < k →
    plane_Valid.l0 k l (l.length : Int) (i : Int) a b m l = some (decide (∀ v ∈ l.drop i, 0 ≤ v ∧ v ≤ m))
  | 0, k, i, hi, hk => by
    obtain ⟨k, rfl⟩ : ∃ n, k = n + 1 := ⟨k - 1, by omega⟩
    rw [plane_Valid.l0, if_neg (show ¬ (i : Int) < (l.length : Int) by omega), List.drop_eq_nil_of_le (by omega)]
    simp
  | d + 1, k, i, hi, hk => by
    obtain ⟨k, rfl⟩ : ∃ n, k = n + 1 := ⟨k - 1, by omega⟩
    rw [plane_Valid.l0, rd_drop l i (by omega)]
    simp only [if_pos (show (i : Int) < (l.length : Int) by omega), if_pos (show 0 ≤ (i : Int) by omega), List.mem_cons, forall_eq_or_imp]
    rw [wrap_in (n := (i : Int) + 1) (by omega) (by omega), show ((i : Int) + 1) = ((i + 1 : Nat) : Int) from rfl, vloop_spec a b m l hl d k (i + 1) (by omega) (by omega)]
    by_cases c1 : rd l (i : Int) < 0
    · rw [if_pos c1]
      exact sd_false (fun h => by omega)
    · rw [if_neg c1]
      by_cases c2 : rd l (i : Int) > m
      · rw [if_pos c2]
        exact sd_false (fun h => by omega)
      · rw [if_neg c2]
        exact sd_iff ⟨fun h => ⟨by omega, h⟩, fun h => h.2⟩

theorem pvalid_spec (k : Nat) (a b m : Int) (l : List Int) (hl : l.length ≤ 4611686018427387904) (hk : l.length + 1 < k) : plane_Valid.f k a b m l = some (decide (PV a b m l)) := by
  obtain ⟨k, rfl⟩ : ∃ n, k = n + 1 := ⟨k - 1, by omega⟩
  unfold plane_Valid.f
  rw [size_val, Option.bind_some]
  by_cases c1 : SZ a b m
  · rw [decide_eq_true c1, if_pos rfl]
    obtain ⟨b0, b1⟩ := mul_bd (x := a) (y := b) (B := 128) (C := 128) (by omega) (by omega) c1.2.1 c1.2.2.2.1
    simp only [plane_Valid.j0]
    rw [wrap_in (n := a * b) (by omega) (by omega)]
    by_cases c2 : (l.length : Int) = a * b
    · rw [bne_eq_false_iff_eq.2 c2, if_neg Bool.false_ne_true]
      have hv := vloop_spec a b m l hl l.length k 0 (by omega) (by omega)
      rw [List.drop_zero] at hv
      exact hv.trans (sd_iff ⟨fun h => ⟨c1, c2, h⟩, fun h => h.2.2⟩)
    · rw [bne_iff_ne.2 c2, if_pos rfl]
      exact sd_false (fun h => c2 h.2.1)
  · rw [decide_eq_false c1, if_neg Bool.false_ne_true]
    exact sd_false (fun h => c1 h.1)


theorem set_all (P : Int → Prop) (l : List Int) (i : Nat) (v : Int) (h : ∀ x ∈ l, P x) (hv : P v) : ∀ x ∈ l.set i v, P x := by
  intro x hx
  rcases List.mem_or_eq_of_mem_set hx with hx | hx
  · exact h x hx
  · rw [hx]; exact hv

theorem sized_loop (t : List Int) (ht : t.length ≤ 4611686018427387904) (a b m : Int) (hm : 1 ≤ m) (hm' : m ≤ 4294967296) : ∀ (d k i : Nat) (s : Int) (l : List Int), 0 ≤ s → i + d = l.length → l.length ≤ 100000 → d < k →
    (∀ v ∈ l, 0 ≤ v ∧ v ≤ m) → ∃ bt, tilefarmgen_Tape_Sized.l0 k (i : Int) t s a b m l = some bt ∧ bt.1 = a ∧ bt.2.1 = b ∧ bt.2.2.1 = m ∧ bt.2.2.2.1.length = l.length ∧ (∀ v ∈ bt.2.2.2.1, 0 ≤ v ∧ v ≤ m) ∧ 0 ≤ bt.2.2.2.2
  | 0, k, i, s, l, hs, hi, hl, hk, hv => by
    obtain ⟨k, rfl⟩ : ∃ n, k = n + 1 := ⟨k - 1, by omega⟩
    rw [tilefarmgen_Tape_Sized.l0, if_neg (show ¬ (i : Int) < (l.length : Int) by omega)]
    exact ⟨_, rfl, rfl, rfl, rfl, rfl, hv, hs⟩
  | d + 1, k, i, s, l, hs, hi, hl, hk, hv => by
    obtain ⟨k, rfl⟩ : ∃ n, k = n + 1 := ⟨k - 1, by omega⟩
    rw [tilefarmgen_Tape_Sized.l0, if_pos (show (i : Int) < (l.length : Int) by omega), wrap_in (n := m + 1) (by omega) (by omega)]
    obtain ⟨r1, h1, h1a, h1b, h1c⟩ := next_o t s (m + 1) hs ht (by omega) (by omega)
    obtain ⟨r2, h2, h2a, h2b, h2c⟩ := next_o t r1.2 (m + 1) h1c ht (by omega) (by omega)
    obtain ⟨r3, h3, h3a, h3b⟩ := pick_o t r2.2 [r1.1, r2.1, m, 0] h2c ht (by simp) (by simp)
    rw [h1, Option.bind_some, h2, Option.bind_some, h3, Option.bind_some, if_pos (show 0 ≤ (i : Int) by omega), wrap_in (n := (i : Int) + 1) (by omega) (by omega)]
    have hr : 0 ≤ r3.1 ∧ r3.1 ≤ m := by
      simp only [List.mem_cons, List.not_mem_nil, or_false] at h3a
      clear h1 h2 h3 hv
      omega
    obtain ⟨bt, g1, g2, g3, g4, g5, g6, g7⟩ := sized_loop t ht a b m hm hm' d k (i + 1) r3.2 (l.set (i : Int).toNat r3.1) h3b (by rw [List.length_set]; omega) (by rw [List.length_set]; omega) (by omega) (set_all _ l _ _ hv hr)
    exact ⟨bt, g1, g2, g3, g4, by rw [g5, List.length_set], g6, g7⟩

theorem sized_spec (K : Nat) (hK : 2000 ≤ K) (t : List Int) (ht : t.length ≤ 4611686018427387904) (s a b : Int) (hs : 0 ≤ s) (ha : 1 ≤ a) (ha' : a ≤ 30) (hb : 1 ≤ b) (hb' : b ≤ 30) :
    ∃ bt, tilefarmgen_Tape_Sized.f K t s a b = some bt ∧ bt.1 = a ∧ bt.2.1 = b ∧ 1 ≤ bt.2.2.1 ∧ bt.2.2.1 ≤ 65535 ∧ (bt.2.2.2.1.length : Int) = a * b ∧ (∀ v ∈ bt.2.2.2.1, 0 ≤ v ∧ v ≤ bt.2.2.1) ∧ 0 ≤ bt.2.2.2.2 := by
  obtain ⟨r, h1, h1a, h1b⟩ := pick_o t s [255, 255, 65535, 1, 7] hs ht (by simp) (by simp)
  have hr : 1 ≤ r.1 ∧ r.1 ≤ 65535 := by
    simp only [List.mem_cons, List.not_mem_nil, or_false] at h1a
    clear h1
    omega
  obtain ⟨m0, m1⟩ := mul_bd (x := a) (y := b) (B := 30) (C := 30) (by omega) (by omega) ha' hb'
  unfold tilefarmgen_Tape_Sized.f
  rw [h1, Option.bind_some, wrap_in (n := a * b) (by omega) (by omega), if_pos m0, if_pos (show (a * b : Int).toNat ≤ 35184372088832 by omega)]
  obtain ⟨bt, g1, g2, g3, g4, g5, g6, g7⟩ := sized_loop t ht a b r.1 hr.1 (by omega) (a * b : Int).toNat K 0 r.2 (List.replicate (a * b : Int).toNat 0) h1b (by rw [List.length_replicate]; omega) (by rw [List.length_replicate]; omega) (by omega) (fun v hv => by rw [List.eq_of_mem_replicate hv]; omega)
  rw [List.length_replicate] at g5
  exact ⟨bt, g1, g2, g3, by rw [g4]; exact hr.1, by rw [g4]; exact hr.2, by rw [g5]; omega, by rw [g4]; exact g6, g7⟩


theorem plane_spec (K : Nat) (hK : 2000 ≤ K) (t : List Int) (ht : t.length ≤ 4611686018427387904) (s : Int) (hs : 0 ≤ s) :
    ∃ bt, tilefarmgen_Tape_Plane.f K t s = some bt ∧ 1 ≤ bt.1 ∧ bt.1 ≤ 6 ∧ 1 ≤ bt.2.1 ∧ bt.2.1 ≤ 5 ∧ 1 ≤ bt.2.2.1 ∧ bt.2.2.1 ≤ 65535 ∧ (bt.2.2.2.1.length : Int) = bt.1 * bt.2.1 ∧ (∀ v ∈ bt.2.2.2.1, 0 ≤ v ∧ v ≤ bt.2.2.1) ∧ 0 ≤ bt.2.2.2.2 := by
  obtain ⟨r1, h1, h1a, h1b, h1c⟩ := next_o t s 6 hs ht (by omega) (by omega)
  obtain ⟨r2, h2, h2a, h2b, h2c⟩ := next_o t r1.2 5 h1c ht (by omega) (by omega)
  obtain ⟨bt, g1, g2, g3, g4, g5, g6, g7, g8⟩ := sized_spec K hK t ht r2.2 (1 + r1.1) (1 + r2.1) h2c (by omega) (by omega) (by omega) (by omega)
  refine ⟨bt, ?_, by omega, by omega, by omega, by omega, g4, g5, by rw [g6, g2, g3], g7, g8⟩
  unfold tilefarmgen_Tape_Plane.f
  rw [h1, Option.bind_some, h2, Option.bind_some, wrap_in (n := 1 + r1.1) (by omega) (by omega), wrap_in (n := 1 + r2.1) (by omega) (by omega), g1, Option.bind_some]

theorem plane_PV {a b m : Int} {l : List Int} (h1 : 1 ≤ a) (h2 : a ≤ 6) (h3 : 1 ≤ b) (h4 : b ≤ 5) (h5 : 1 ≤ m) (h6 : m ≤ 65535) (h7 : (l.length : Int) = a * b) (h8 : ∀ v ∈ l, 0 ≤ v ∧ v ≤ m) : PV a b m l ∧ l.length ≤ 30 := by
  obtain ⟨m0, m1⟩ := mul_bd (x := a) (y := b) (B := 6) (C := 5) (by omega) (by omega) h2 h4
  exact ⟨⟨⟨h1, by omega, h3, by omega, by omega, h5, by omega⟩, h7, h8⟩, by omega⟩


theorem spoil_o (t : List Int) (ht : t.length ≤ 4611686018427387904) (s a b m : Int) (l : List Int) (hs : 0 ≤ s) (hl : l.length ≤ 1000) :
    ∃ bt, tilefarmgen_Tape_SpoilPlane.f t s a b m l = some bt ∧ bt.2.2.2.1.length ≤ l.length + 1 ∧ 0 ≤ bt.2.2.2.2 := by
  obtain ⟨r, h1, h1a, h1b, h1c⟩ := next_o t s 6 hs ht (by omega) (by omega)
  unfold tilefarmgen_Tape_SpoilPlane.f
  rw [Option.bind_some, if_pos (show ([] : List Int).length + l.length < 17592186044416 by rw [List.length_nil]; omega), Option.bind_some, h1, Option.bind_some, List.nil_append]
  by_cases c0 : r.1 = 0
  · rw [if_pos c0]
    obtain ⟨q, g1, g2, g3⟩ := pick_o t r.2 [0, wrap64 (a + 1), -1, 129] h1c ht (by simp) (by simp)
    rw [g1, Option.bind_some]
    exact ⟨_, rfl, Nat.le_succ _, g3⟩
  · rw [if_neg c0]
    by_cases c1 : r.1 = 1
    · rw [if_pos c1]
      obtain ⟨q, g1, g2, g3⟩ := pick_o t r.2 [0, wrap64 (b + 1), 4611686018427387904] h1c ht (by simp) (by simp)
      rw [g1, Option.bind_some]
      exact ⟨_, rfl, Nat.le_succ _, g3⟩
    · rw [if_neg c1]
      by_cases c2 : r.1 = 2
      · rw [if_pos c2]
        obtain ⟨q, g1, g2, g3⟩ := pick_o t r.2 [0, 4294967297, -1, 3] h1c ht (by simp) (by simp)
        rw [g1, Option.bind_some]
        exact ⟨_, rfl, Nat.le_succ _, g3⟩
      · rw [if_neg c2]
        by_cases c3 : r.1 = 3
        · rw [if_pos c3, if_pos (show l.length < 17592186044416 by omega)]
          exact ⟨_, rfl, by simp, h1c⟩
        · rw [if_neg c3]
          by_cases c4 : r.1 = 4
          · rw [if_pos c4]
            by_cases c5 : (l.length : Int) > 0
            · rw [if_pos c5]
              obtain ⟨q, g1, g2, g3, g4⟩ := next_o t r.2 (l.length : Int) h1c ht c5 (by omega)
              obtain ⟨z, f1, f2, f3⟩ := pick_o t q.2 [-1, wrap64 (m + 1), m] g4 ht (by simp) (by simp)
              rw [g1, Option.bind_some, f1, Option.bind_some, if_pos g2, if_pos g3]
              exact ⟨_, rfl, by simp, f3⟩
            · rw [if_neg c5]
              exact ⟨_, rfl, Nat.le_succ _, h1c⟩
          · rw [if_neg c4]
            exact ⟨_, rfl, by simp, h1c⟩


theorem bmod_eq (a n : Int) (h : 0 < n) (hn : n ≤ 4611686018427387904) : border_mod.f a n = some (a % n) := by
  have h2 := Int.emod_nonneg a (by omega : n ≠ 0)
  have h3 := Int.emod_lt_of_pos a h
  unfold border_mod.f
  rw [if_neg (by omega)]
  rcases tmod_emod a n h with ⟨h4, h5⟩ | ⟨h4, h5⟩
  · rw [if_neg (by omega), h5]
  · rw [if_pos h4, wrap_in (by omega) (by omega), h5]

/-- What a coordinate is mapped to. -/
def ixv (i n p : Int) : Option Int :=
  if n < 1 ∨ n > 128 then none
  else if p = 0 then some (min (max i 0) (n - 1))
  else if p = 1 then some (min (i % (2 * n)) (2 * n - 1 - i % (2 * n)))
  else if p = 2 then some (i % n)
  else if p = 3 ∧ 0 ≤ i ∧ i < n then some i
  else none

def pr (v : Option Int) : Int × Bool := match v with
  | some v => (v, true)
  | none => (0, false)

theorem index_eq (k : Nat) (i n p : Int) : border_Index.f (k + 1) i n p = some (pr (ixv i n p)) := by
  unfold border_Index.f ixv
  by_cases h1 : n < 1
  · rw [if_pos h1, if_pos (.inl h1)]
    simp only [border_Index.j0, if_true, pr]
  · rw [if_neg h1]
    by_cases h2 : n > 128
    · rw [if_pos (.inr h2), decide_eq_true h2]
      simp only [border_Index.j0, if_true, pr]
    · rw [if_neg (by omega), decide_eq_false h2]
      have e1 : wrap64 (n - 1) = n - 1 := wrap_in (by omega) (by omega)
      have e2 : wrap64 (2 * n) = 2 * n := wrap_in (by omega) (by omega)
      have e3 : wrap64 (2 * n - 1) = 2 * n - 1 := wrap_in (by omega) (by omega)
      have g1 := Int.emod_nonneg i (by omega : 2 * n ≠ 0)
      have g2 := Int.emod_lt_of_pos i (by omega : 0 < 2 * n)
      simp only [border_Index.j0, if_neg Bool.false_ne_true, e1, e2, e3, bmod_eq i (2 * n) (by omega) (by omega), bmod_eq i n (by omega) (by omega), Option.bind_some, mx_max, mn_min]
      rw [wrap_in (n := 2 * n - 1 - i % (2 * n)) (by omega) (by omega)]
      by_cases q0 : p = 0
      · rw [if_pos q0, if_pos q0]; rfl
      · rw [if_neg q0, if_neg q0]
        by_cases q1 : p = 1
        · rw [if_pos q1, if_pos q1]; rfl
        · rw [if_neg q1, if_neg q1]
          by_cases q2 : p = 2
          · rw [if_pos q2, if_pos q2]; rfl
          · rw [if_neg q2, if_neg q2]
            by_cases q3 : p = 3
            · rw [if_pos q3]
              by_cases c1 : i ≥ 0
              · by_cases c2 : i < n
                · rw [if_pos c1, if_pos c2, if_pos (by omega)]; rfl
                · rw [if_pos c1, if_neg c2, if_neg (by omega)]; rfl
              · rw [if_neg c1, if_neg (by omega)]; rfl
            · rw [if_neg q3, if_neg (fun h => q3 h.1)]; rfl

theorem index_eq' {k : Nat} (hk : 0 < k) (i n p : Int) : border_Index.f k i n p = some (pr (ixv i n p)) := by
  obtain ⟨k, rfl⟩ : ∃ m, k = m + 1 := ⟨k - 1, by omega⟩
  exact index_eq k i n p

theorem ixv_none {i n p : Int} (h : n < 1 ∨ n > 128) : ixv i n p = none := by unfold ixv; rw [if_pos h]
theorem ixv_clamp {i n : Int} (h : 1 ≤ n) (h' : n ≤ 128) : ixv i n 0 = some (min (max i 0) (n - 1)) := by unfold ixv; rw [if_neg (by omega), if_pos rfl]
theorem ixv_mirror {i n : Int} (h : 1 ≤ n) (h' : n ≤ 128) : ixv i n 1 = some (min (i % (2 * n)) (2 * n - 1 - i % (2 * n))) := by unfold ixv; rw [if_neg (by omega), if_neg (by omega), if_pos rfl]
theorem ixv_wrap {i n : Int} (h : 1 ≤ n) (h' : n ≤ 128) : ixv i n 2 = some (i % n) := by unfold ixv; rw [if_neg (by omega), if_neg (by omega), if_neg (by omega), if_pos rfl]
theorem ixv_const {i n : Int} (h : 1 ≤ n) (h' : n ≤ 128) : ixv i n 3 = if 0 ≤ i ∧ i < n then some i else none := by
  unfold ixv; rw [if_neg (by omega), if_neg (by omega), if_neg (by omega), if_neg (by omega)]
  by_cases c : 0 ≤ i ∧ i < n
  · rw [if_pos ⟨rfl, c⟩, if_pos c]
  · rw [if_neg (fun h => c h.2), if_neg c]
theorem ixv_other {i n p : Int} (h : p ≠ 0) (h1 : p ≠ 1) (h2 : p ≠ 2) (h3 : p ≠ 3) : ixv i n p = none := by
  unfold ixv
  by_cases c : n < 1 ∨ n > 128
  · rw [if_pos c]
  · rw [if_neg c, if_neg h, if_neg h1, if_neg h2, if_neg (fun h => h3 h.1)]

/-- The policies 1 and 2 repeat after two lengths. -/
theorem emod_two (i n t : Int) (h : 0 < n) : (i + t * (2 * n)) % n = i % n := by
  rw [show t * (2 * n) = n * (t * 2) by grind]
  exact Int.add_mul_emod_self_left ..
theorem ixv_period {i n p t : Int} (hp : p ≠ 0) (hp3 : p ≠ 3) : ixv (i + t * (2 * n)) n p = ixv i n p := by
  unfold ixv
  by_cases c : n < 1 ∨ n > 128
  · rw [if_pos c, if_pos c]
  · rw [if_neg c, if_neg c, if_neg hp, if_neg hp, show (i + t * (2 * n)) % (2 * n) = i % (2 * n) from Int.add_mul_emod_self_right .., emod_two i n t (by omega)]
    by_cases c1 : p = 1
    · rw [if_pos c1, if_pos c1]
    · rw [if_neg c1, if_neg c1]
      by_cases c2 : p = 2
      · rw [if_pos c2, if_pos c2]
      · rw [if_neg c2, if_neg c2, if_neg (fun h => hp3 h.1), if_neg (fun h => hp3 h.1)]

theorem ixv_bounds {i n p v : Int} (h : ixv i n p = some v) : 0 ≤ v ∧ v < n ∧ 1 ≤ n ∧ n ≤ 128 := by
  unfold ixv at h
  split at h
  · cases h
  · next hn =>
    have g1 := Int.emod_nonneg i (by omega : 2 * n ≠ 0)
    have g2 := Int.emod_lt_of_pos i (by omega : 0 < 2 * n)
    have g3 := Int.emod_nonneg i (by omega : n ≠ 0)
    have g4 := Int.emod_lt_of_pos i (by omega : 0 < n)
    generalize i % (2 * n) = m at *
    generalize i % n = m2 at *
    split at h
    · cases h; omega
    · split at h
      · cases h; omega
      · split at h
        · cases h; omega
        · split at h
          · cases h; omega
          · cases h

theorem rmod_eq (a n : Int) (h : 0 < n) (hn : n ≤ 4611686018427387904) : tilefarmref3_mod.f a n = some (a % n) := by
  have h2 := Int.emod_nonneg a (by omega : n ≠ 0)
  have h3 := Int.emod_lt_of_pos a h
  unfold tilefarmref3_mod.f
  rw [if_neg (by omega)]
  rcases tmod_emod a n h with ⟨h4, h5⟩ | ⟨h4, h5⟩
  · rw [if_neg (by omega), h5]
  · rw [if_pos h4, wrap_in (by omega) (by omega), h5]

theorem rindex_eq {k : Nat} (hk : 0 < k) (i n p : Int) : tilefarmref3_Index.f k i n p = some (pr (ixv i n p)) := by
  obtain ⟨k, rfl⟩ : ∃ m, k = m + 1 := ⟨k - 1, by omega⟩
  unfold tilefarmref3_Index.f ixv
  by_cases h1 : n < 1
  · rw [if_pos h1, if_pos (.inl h1)]
    simp only [tilefarmref3_Index.j0, if_true, pr]
  · rw [if_neg h1]
    by_cases h2 : n > 128
    · rw [if_pos (.inr h2), decide_eq_true h2]
      simp only [tilefarmref3_Index.j0, if_true, pr]
    · rw [if_neg (by omega), decide_eq_false h2]
      have e1 : wrap64 (n - 1) = n - 1 := wrap_in (by omega) (by omega)
      have e2 : wrap64 (2 * n) = 2 * n := wrap_in (by omega) (by omega)
      have e3 : wrap64 (2 * n - 1) = 2 * n - 1 := wrap_in (by omega) (by omega)
      have g1 := Int.emod_nonneg i (by omega : 2 * n ≠ 0)
      have g2 := Int.emod_lt_of_pos i (by omega : 0 < 2 * n)
      simp only [tilefarmref3_Index.j0, if_neg Bool.false_ne_true, e1, e2, e3, rmod_eq i (2 * n) (by omega) (by omega), rmod_eq i n (by omega) (by omega), Option.bind_some, mx_max, mn_min]
      rw [wrap_in (n := 2 * n - 1 - i % (2 * n)) (by omega) (by omega)]
      by_cases q0 : p = 0
      · rw [if_pos q0, if_pos q0]; rfl
      · rw [if_neg q0, if_neg q0]
        by_cases q1 : p = 1
        · rw [if_pos q1, if_pos q1]
          by_cases c : i % (2 * n) ≥ n
          · rw [if_pos c, Int.min_eq_right (by omega)]; rfl
          · rw [if_neg c, Int.min_eq_left (by omega)]; rfl
        · rw [if_neg q1, if_neg q1]
          by_cases q2 : p = 2
          · rw [if_pos q2, if_pos q2]; rfl
          · rw [if_neg q2, if_neg q2]
            by_cases q3 : p = 3
            · rw [if_pos q3]
              by_cases c1 : i ≥ 0
              · by_cases c2 : i < n
                · rw [if_pos c1, if_pos c2, if_pos (by omega)]; rfl
                · rw [if_pos c1, if_neg c2, if_neg (by omega)]; rfl
              · rw [if_neg c1, if_neg (by omega)]; rfl
            · rw [if_neg q3, if_neg (fun h => q3 h.1)]; rfl


theorem cell_in {i j W H : Int} (h0 : 0 ≤ i) (h1 : i < W) (h2 : 0 ≤ j) (h3 : j < H) : 0 ≤ j * W ∧ j * W + i < W * H := by
  refine ⟨Int.mul_nonneg h2 (by omega), ?_⟩
  have := Int.mul_le_mul_of_nonneg_right (show j + 1 ≤ H by omega) (show 0 ≤ W by omega)
  rw [Int.add_mul, Int.one_mul, Int.mul_comm H W] at this
  omega


/-! A pixel, which can lie outside. -/
def pix (W H : Int) (P : List Int) (p f x y : Int) : Int :=
  match ixv x W p, ixv y H p with
  | some i, some j => rd P (j * W + i)
  | _, _ => f

theorem rd_bd' {o : List Int} {B : Int} (hB : 0 ≤ B) (ho : ∀ v ∈ o, 0 ≤ v ∧ v ≤ B) (b : Int) : 0 ≤ rd o b ∧ rd o b ≤ B := by
  simp only [rd, List.getD_eq_getElem?_getD]
  rcases h : o[b.toNat]? with _ | v
  · exact ⟨Int.le_refl _, hB⟩
  · exact ho v (List.mem_of_getElem? h)

theorem pix_bd {W H m : Int} {P : List Int} (hP : ∀ v ∈ P, 0 ≤ v ∧ v ≤ m) (hm : 0 ≤ m) (p : Int) {f : Int} (hf : 0 ≤ f ∧ f ≤ m) (x y : Int) : 0 ≤ pix W H P p f x y ∧ pix W H P p f x y ≤ m := by
  unfold pix
  split
  · exact rd_bd' hm hP _
  · exact hf

theorem pixel_eq (k : Nat) (hk : 0 < k) (W H m : Int) (P : List Int) (p f x y : Int) (hl : (P.length : Int) = W * H) (hWH : W * H ≤ 4096) : plane_Pixel.f k W H m P p f x y = some (pix W H P p f x y) := by
  unfold plane_Pixel.f pix
  rw [index_eq' hk, index_eq' hk, Option.bind_some, Option.bind_some]
  rcases hx : ixv x W p with _ | i
  · rw [if_neg (show ¬ (pr none).2 = true by decide)]
  · rcases hy : ixv y H p with _ | j
    · rw [if_pos (show (pr (some i)).2 = true from rfl), if_neg (show ¬ (pr none).2 = true by decide)]
    · obtain ⟨a1, a2, a3, a4⟩ := ixv_bounds hx
      obtain ⟨b1, b2, b3, b4⟩ := ixv_bounds hy
      obtain ⟨c1, c2⟩ := cell_in a1 a2 b1 b2
      have e : wrap64 (wrap64 ((pr (some j)).1 * W) + (pr (some i)).1) = j * W + i := by
        show wrap64 (wrap64 (j * W) + i) = _
        rw [wrap_in (n := j * W) (by omega) (by omega), wrap_in (n := j * W + i) (by omega) (by omega)]
      rw [if_pos (show (pr (some i)).2 = true from rfl), if_pos (show (pr (some j)).2 = true from rfl), e, if_pos (show 0 ≤ j * W + i by omega), if_pos (show j * W + i < (P.length : Int) by omega)]

theorem pix_in {W H : Int} (P : List Int) {p f x y : Int} (hp : 0 ≤ p) (hp3 : p ≤ 3) (hW : W ≤ 128) (hH : H ≤ 128) (h0 : 0 ≤ x) (h1 : x < W) (h2 : 0 ≤ y) (h3 : y < H) : pix W H P p f x y = rd P (y * W + x) := by
  have e : ∀ {i n : Int}, 0 ≤ i → i < n → n ≤ 128 → ixv i n p = some i := by
    intro i n h0 h hn
    unfold ixv
    rw [if_neg (by omega), Int.emod_eq_of_lt h0 (by omega : i < 2 * n), Int.emod_eq_of_lt h0 h]
    by_cases q0 : p = 0
    · rw [if_pos q0]; congr 1; omega
    · rw [if_neg q0]
      by_cases q1 : p = 1
      · rw [if_pos q1]; congr 1; omega
      · rw [if_neg q1]
        by_cases q2 : p = 2
        · rw [if_pos q2]
        · rw [if_neg q2, if_pos (by omega)]
  unfold pix
  rw [e h0 h1 hW, e h2 h3 hH]


def vld (p f m : Int) : Bool := decide ((p = 3 ∧ 0 ≤ f ∧ f ≤ m) ∨ (0 ≤ p ∧ p < 3 ∧ f = 0))

theorem bvalid_eq {k : Nat} (hk : 0 < k) (p f m : Int) : border_Valid.f k p f m = some (vld p f m) := by
  obtain ⟨k, rfl⟩ : ∃ n, k = n + 1 := ⟨k - 1, by omega⟩
  have hj : ∀ q : Bool, (q = true ↔ p = 0 ∨ p = 1 ∨ p = 2) → border_Valid.j0 (k + 1) m p q p f = some (vld p f m) := by
    intro q hq
    simp only [border_Valid.j0]
    by_cases c : q = true
    · rw [if_pos c]
      have := hq.1 c
      unfold vld
      congr 1
      rw [Bool.eq_iff_iff]
      simp only [beq_iff_eq, decide_eq_true_eq]
      omega
    · rw [if_neg c]
      have h' : ¬ (p = 0 ∨ p = 1 ∨ p = 2) := fun h => c (hq.2 h)
      unfold vld
      repeat' split
      · exact sd_iff (by omega)
      · exact sd_false (by omega)
      · exact sd_false (by omega)
  unfold border_Valid.f
  by_cases h0 : p = 0
  · rw [if_pos h0]; exact hj _ (by simp [h0])
  · rw [if_neg h0]
    by_cases h1 : p = 1
    · rw [if_pos h1]; exact hj _ (by simp [h1])
    · rw [if_neg h1]; exact hj _ (by simp [h0, h1])

theorem brvalid_eq (p f m : Int) : tilefarmref3_Valid.f p f m = some (vld p f m) := by
  unfold tilefarmref3_Valid.f vld
  repeat' split
  · exact sd_iff (by omega)
  · exact sd_false (by omega)
  · congr 1
    rw [Bool.eq_iff_iff]
    simp only [beq_iff_eq, decide_eq_true_eq]
    omega
  · exact sd_false (by omega)
  · exact sd_false (by omega)


theorem vloop_eq : ∀ (k : Nat) (l : List Int) (i a b m : Int), plane_Valid.l0 k l (l.length : Int) i a b m l = tilefarmref4_Valid.l0 k i a b m l
  | 0, _, _, _, _, _ => rfl
  | k + 1, l, i, a, b, m => by
    simp only [plane_Valid.l0, tilefarmref4_Valid.l0]
    by_cases c1 : i < (l.length : Int)
    · by_cases c2 : 0 ≤ i
      · simp only [if_pos c1, if_pos c2, vloop_eq k]
      · simp only [if_pos c1, if_neg c2]
    · simp only [if_neg c1]

theorem rsize_no {a b m : Int} (h : ¬ SZ a b m) : some false = some (decide (SZ a b m)) := by rw [decide_eq_false h]

theorem rsize_val (a b m : Int) : tilefarmref4_Size.f a b m = some (decide (SZ a b m)) := by
  unfold tilefarmref4_Size.f
  by_cases c1 : a ≥ 1
  · rw [if_pos c1]
    by_cases c2 : a ≤ 128
    · rw [if_pos c2]
      by_cases c3 : b ≥ 1
      · rw [if_pos c3]
        by_cases c4 : b ≤ 128
        · obtain ⟨b0, b1⟩ := mul_bd (x := a) (y := b) (B := 128) (C := 128) (by omega) (by omega) c2 c4
          rw [if_pos c4, wrap_in (n := a * b) (by omega) (by omega)]
          by_cases c5 : a * b ≤ 4096
          · rw [if_pos c5]
            by_cases c6 : m ≥ 1
            · rw [if_pos c6]
              exact congrArg some (decide_eq_decide.2 ⟨fun h => ⟨c1, c2, c3, c4, c5, c6, h⟩, fun h => h.2.2.2.2.2.2⟩)
            · rw [if_neg c6]; exact rsize_no (fun h => c6 h.2.2.2.2.2.1)
          · rw [if_neg c5]; exact rsize_no (fun h => c5 h.2.2.2.2.1)
        · rw [if_neg c4]; exact rsize_no (fun h => c4 h.2.2.2.1)
      · rw [if_neg c3]; exact rsize_no (fun h => c3 h.2.2.1)
    · rw [if_neg c2]; exact rsize_no (fun h => c2 h.2.1)
  · rw [if_neg c1]; exact rsize_no (fun h => c1 h.1)

theorem rvalid_same (k : Nat) (a b m : Int) (l : List Int) : tilefarmref4_Valid.f k a b m l = plane_Valid.f k a b m l := by
  have hj : ∀ k t, plane_Valid.j0 k t a b m l = tilefarmref4_Valid.j0 k t a b m l := by
    intro k t
    cases k with
    | zero => rfl
    | succ k => simp only [plane_Valid.j0, tilefarmref4_Valid.j0, vloop_eq k]
  unfold plane_Valid.f tilefarmref4_Valid.f
  rw [size_val, rsize_val]
  simp only [hj]


theorem sane_eq : tilefarmlaw4_sane.f 60 = some true := by decide +kernel

theorem rpixel_eq (k : Nat) (hk : 0 < k) (W H m : Int) (P : List Int) (p f x y : Int) (hl : (P.length : Int) = W * H) (hWH : W * H ≤ 4096) : tilefarmref4_Pixel.f k W H m P p f x y = some (pix W H P p f x y) := by
  unfold tilefarmref4_Pixel.f pix
  rw [rindex_eq hk, rindex_eq hk, Option.bind_some, Option.bind_some]
  rcases hx : ixv x W p with _ | i
  · rw [if_neg (show ¬ (pr none).2 = true by decide)]
  · rcases hy : ixv y H p with _ | j
    · rw [if_pos (show (pr (some i)).2 = true from rfl), if_neg (show ¬ (pr none).2 = true by decide)]
    · obtain ⟨a1, a2, a3, a4⟩ := ixv_bounds hx
      obtain ⟨b1, b2, b3, b4⟩ := ixv_bounds hy
      obtain ⟨c1, c2⟩ := cell_in a1 a2 b1 b2
      have e : wrap64 (wrap64 ((pr (some j)).1 * W) + (pr (some i)).1) = j * W + i := by
        show wrap64 (wrap64 (j * W) + i) = _
        rw [wrap_in (n := j * W) (by omega) (by omega), wrap_in (n := j * W + i) (by omega) (by omega)]
      rw [if_pos (show (pr (some i)).2 = true from rfl), if_pos (show (pr (some j)).2 = true from rfl), e, if_pos (show 0 ≤ j * W + i by omega), if_pos (show j * W + i < (P.length : Int) by omega)]

theorem at_same (K : Nat) (W H m : Int) (P : List Int) (p f x y : Int) (hl : P.length ≤ 1000) (hK : 2000 ≤ K) : ∃ v, plane_At.f K W H m P p f x y = some v ∧ tilefarmref4_At.f K W H m P p f x y = some v := by
  unfold plane_At.f tilefarmref4_At.f
  rw [rvalid_same, pvalid_spec K W H m P (by omega) (by omega), Option.bind_some, Option.bind_some]
  by_cases hV : PV W H m P
  · rw [decide_eq_true hV, if_pos rfl, if_pos rfl, bvalid_eq (by omega), brvalid_eq, Option.bind_some, Option.bind_some]
    by_cases c : vld p f m = true
    · rw [if_pos c, if_pos c, pixel_eq K (by omega) W H m P p f x y hV.2.1 hV.1.2.2.2.2.1, rpixel_eq K (by omega) W H m P p f x y hV.2.1 hV.1.2.2.2.2.1, Option.bind_some]
      exact ⟨_, rfl, rfl⟩
    · rw [if_neg c, if_neg c]
      exact ⟨_, rfl, rfl⟩
  · rw [decide_eq_false hV, if_neg Bool.false_ne_true, if_neg Bool.false_ne_true]
    exact ⟨_, rfl, rfl⟩

theorem edge_any (t : List Int) (ht : t.length ≤ 4611686018427387904) (s m : Int) (hs : 0 ≤ s) : ∃ bt, tilefarmgen_Tape_Edge.f t s m = some bt ∧ 0 ≤ bt.2.2 := by
  obtain ⟨r, h1, h1a, h1b, h1c⟩ := next_o t s 4 hs ht (by omega) (by omega)
  unfold tilefarmgen_Tape_Edge.f
  rw [h1, Option.bind_some]
  by_cases c : r.1 = 3
  · obtain ⟨q, g1, g2, g3⟩ := pick_o t r.2 [0, m, wrap64 (Int.tdiv m 2)] h1c ht (by simp) (by simp)
    rw [if_pos c, g1, Option.bind_some]
    exact ⟨_, rfl, g3⟩
  · rw [if_neg c]
    exact ⟨_, rfl, h1c⟩

theorem j3_go (x y i u v e0 e1 : Int) (t : List Int) (s W H m : Int) (P : List Int) (p f : Int) (hl : P.length ≤ 1000) (h0 : 0 ≤ i) (hi : i < 8) (k : Nat) (hk : 2000 ≤ k) :
    tilefarmlaw4_PlaneReads.j3 (k + 1) x y i u v e0 e1 t s W H m P p f = tilefarmlaw4_PlaneReads.l0 k x y (i + 1) e0 e1 t s W H m P := by
  obtain ⟨a, h1, h2⟩ := at_same k W H m P p f u v hl hk
  rw [tilefarmlaw4_PlaneReads.j3, h1, Option.bind_some, h2, Option.bind_some, if_pos rfl, wrap_in (n := i + 1) (by omega) (by omega)]

theorem j2_go (x y i u v e0 e1 : Int) (t : List Int) (s W H m : Int) (P : List Int) (p f : Int) (hl : P.length ≤ 1000) (h0 : 0 ≤ i) (hi : i < 8) (k : Nat) (hk : 2000 ≤ k) :
    tilefarmlaw4_PlaneReads.j2 (k + 1 + 1) x y i u v e0 e1 t s W H m P p f = tilefarmlaw4_PlaneReads.l0 k x y (i + 1) e0 e1 t s W H m P := by
  rw [tilefarmlaw4_PlaneReads.j2]
  by_cases c : i = 7
  · rw [if_pos c]; exact j3_go x y i u v e0 e1 t s W H m P e0 e1 hl h0 hi k hk
  · rw [if_neg c]; exact j3_go x y i u v e0 e1 t s W H m P p f hl h0 hi k hk

theorem l0_go (x y : Int) (e0 e1 : Int) (t : List Int) (ht : t.length ≤ 4611686018427387904) (W H m : Int) (P : List Int) (hl : P.length ≤ 1000) : ∀ (d k : Nat) (i s : Int), i + (d : Int) = 8 → 0 ≤ i → 0 ≤ s → 2000 ≤ k →
    tilefarmlaw4_PlaneReads.l0 (k + 3 * d + 1) x y i e0 e1 t s W H m P = some true
  | 0, k, i, s, hi, h0, hs, hk => by
    have hsane : tilefarmlaw4_sane.f k = some true := at_rounds tilefarmlaw4_sane.mono (by omega) sane_eq
    rw [show k + 3 * 0 + 1 = k + 1 from rfl, tilefarmlaw4_PlaneReads.l0, if_neg (show ¬ i < 8 by omega), hsane, Option.bind_some]
  | d + 1, k, i, s, hi, h0, hs, hk => by
    obtain ⟨e, g1, g2⟩ := edge_any t ht s m hs
    obtain ⟨r1, h1, h1a, h1b, h1c⟩ := next_o t e.2.2 20 g2 ht (by omega) (by omega)
    obtain ⟨r2, h2, h2a, h2b, h2c⟩ := next_o t r1.2 20 h1c ht (by omega) (by omega)
    have ih := l0_go x y e0 e1 t ht W H m P hl d k (i + 1) r2.2 (by omega) (by omega) h2c hk
    rw [show k + 3 * (d + 1) + 1 = (k + 3 * d + 1 + 1 + 1) + 1 by omega, tilefarmlaw4_PlaneReads.l0, if_pos (show i < 8 by omega), g1, Option.bind_some, h1, Option.bind_some, h2, Option.bind_some]
    by_cases c : i > 5
    · rw [if_pos c]
      exact (j2_go x y i x y e0 e1 t r2.2 W H m P e.1 e.2.1 hl h0 (by omega) (k + 3 * d + 1) (by omega)).trans ih
    · rw [if_neg c]
      exact (j2_go x y i _ _ e0 e1 t r2.2 W H m P e.1 e.2.1 hl h0 (by omega) (k + 3 * d + 1) (by omega)).trans ih

theorem PlaneReads : tilefarmlaw4_PlaneReads.Pure := by
  intro t x y e0 e1 hl hl8 _ _ _ _ _
  have ht : t.length ≤ 4611686018427387904 := by omega
  obtain ⟨K, hK⟩ : ∃ K : Nat, 2000 ≤ K := ⟨2000, Nat.le_refl _⟩
  refine ⟨K + 3 * 8 + 1 + 1, ?_⟩
  obtain ⟨p, h1, p1, p2, p3, p4, p5, p6, p7, p8, p9⟩ := plane_spec (K + 3 * 8 + 1 + 1) (by omega) t ht 0 (Int.le_refl _)
  obtain ⟨hV, hlen⟩ := plane_PV p1 p2 p3 p4 p5 p6 p7 p8
  obtain ⟨r, g1, g1a, g1b, g1c⟩ := next_o t p.2.2.2.2 8 p9 ht (by omega) (by omega)
  unfold tilefarmlaw4_PlaneReads.f tilefarmgen_New.f
  rw [Option.bind_some, h1, Option.bind_some, g1, Option.bind_some]
  by_cases c : r.1 = 7
  · obtain ⟨q, f1, f2, f3⟩ := spoil_o t ht r.2 p.1 p.2.1 p.2.2.1 p.2.2.2.1 g1c (by omega)
    rw [if_pos c, f1, Option.bind_some, tilefarmlaw4_PlaneReads.j0]
    exact l0_go x y e0 e1 t ht q.1 q.2.1 q.2.2.1 q.2.2.2.1 (by omega) 8 K 0 q.2.2.2.2 rfl (Int.le_refl _) f3 hK
  · rw [if_neg c, tilefarmlaw4_PlaneReads.j0]
    exact l0_go x y e0 e1 t ht p.1 p.2.1 p.2.2.1 p.2.2.2.1 (by omega) 8 K 0 r.2 rfl (Int.le_refl _) g1c hK


end Go.Proofs.Ytgkccacenlcebaa.Pure
namespace Go.Proofs.Ytgkccacenlcebaa
open Go.ChangeShapes Go.WideShapes
/-- The print's own word, under the name that the printed row uses. -/
theorem PrintWords.sized_ints {H : Type} {enc : TypeId × Value → H} {P : Program} {W : World} {base : Nat} {spare : Nat → Bool} {held : Bool} {t e : TypeId} {k : IntKind} {a : Option Addr} {len cap : Nat} {d : DataW H} {ps : List MemPlace} {ts : List TypeId} {ds : List (DataW H)} {j : Nat}
    (hsz : (DataW.weightsEach P ts ds).all (· ≤ reachBytes) = true) (ht : ts[j]? = some t) (hd : ds[j]? = some d) (hu : P.underlying t = some (.slice e)) (he : P.underlying e = some (.int k)) (hc : P.cellsOf e = 1) {B : Nat} (hB : P.bytesOf e = B)
    (h : DataW.Trod enc P W base spare held t (.slice a len cap) d ps) : len * B ≤ 140737488351232 :=
  Go.Proofs.YtgkccacenlcebaaW.PrintWords.sized_ints hsz ht hd hu he hc hB h
end Go.Proofs.Ytgkccacenlcebaa

/- Merged lists, or the error, are those of the reference: for every tape and for arbitrary lists. -/
import Derived.Test.YticicecobchdiaaPHistogramMergesx9
import Derived.Test.YticicecobchdiaaWSized
namespace Go.Proofs.Yticicecobchdiaa.Pure
open Go.RowKit Go.Proofs.Yticicecobchdiaa.PHistogramMerges Go.Proofs.YticicecobchdiaaW.PrintWords Go.Proofs.YticicecobchdiaaW.PrintLast Go.Proofs.YticicecobchdiaaW.PrintMore
set_option linter.unusedVariables false
set_option linter.unusedSimpArgs false

theorem wrap_in {n : Int} (h : -9223372036854775808 ≤ n) (h' : n ≤ 9223372036854775807) : wrap64 n = n := by unfold wrap64; omega

theorem tmod_emod (a n : Int) (h : 0 < n) : (0 ≤ Int.tmod a n ∧ Int.tmod a n = a % n) ∨ (Int.tmod a n < 0 ∧ Int.tmod a n + n = a % n) := by
  have h1 := Int.tmod_eq_emod (a := a) (b := n)
  have h2 := Int.emod_nonneg a (by omega : n ≠ 0)
  have h3 := Int.emod_lt_of_pos a h
  split at h1 <;> omega

theorem mod_eq (a n : Int) (h : 0 < n) (hn : n ≤ 4611686018427387904) : tilefarmgen_Mod.f a n = some (a % n) := by
  have h2 := Int.emod_nonneg a (by omega : n ≠ 0)
  have h3 := Int.emod_lt_of_pos a h
  unfold tilefarmgen_Mod.f
  rw [if_neg (by omega)]
  rcases tmod_emod a n h with ⟨h4, h5⟩ | ⟨h4, h5⟩
  · rw [if_neg (by omega), h5]
  · rw [if_pos h4, wrap_in (by omega) (by omega), h5]

theorem sd_true {p : Prop} [Decidable p] (h : p) : some true = some (decide p) := by rw [decide_eq_true h]
theorem sd_false {p : Prop} [Decidable p] (h : ¬ p) : some false = some (decide p) := by rw [decide_eq_false h]
theorem sd_iff {p q : Prop} [Decidable p] [Decidable q] (h : q ↔ p) : some (decide q) = some (decide p) := by rw [decide_eq_decide.2 h]

theorem mx_max (a b : Int) : mx a b = max a b := by unfold mx; omega
theorem mn_min (a b : Int) : mn a b = min a b := by unfold mn; omega

theorem mul_bd {x y B C : Int} (hx : 0 ≤ x) (hy : 0 ≤ y) (hxB : x ≤ B) (hyB : y ≤ C) : 0 ≤ x * y ∧ x * y ≤ B * C :=
  ⟨Int.mul_nonneg hx hy, Int.mul_le_mul hxB hyB hy (by omega)⟩

theorem dec_iff {p q : Prop} [Decidable p] [Decidable q] (h : p ↔ q) : decide p = decide q := decide_eq_decide.2 h
theorem and_not_dec (p q : Prop) [Decidable p] [Decidable q] : (decide p && !decide q) = decide (p ∧ ¬ q) := by
  by_cases hp : p <;> by_cases hq : q <;> simp [hp, hq]

theorem wrap64_range (n : Int) : -9223372036854775808 ≤ wrap64 n ∧ wrap64 n ≤ 9223372036854775807 := by unfold wrap64; omega

theorem wf_range {n : Int} (h : (Lit.int .i64 n).wf = true) : -9223372036854775808 ≤ n ∧ n ≤ 9223372036854775807 := by
  simp only [Lit.wf, IntKind.min, IntKind.max, IntKind.signed, IntKind.bits, Bool.and_eq_true, decide_eq_true_eq, if_true] at h
  omega


theorem next_spec (l : List Int) (s n : Int) (hs : 0 ≤ s) (hl : l.length ≤ 4611686018427387904) (h : 0 < n) (hn : n ≤ 4611686018427387904) :
    ∃ r s', tilefarmgen_Tape_Next.f l s n = some (r, s') ∧ 0 ≤ r ∧ r < n ∧ 0 ≤ s' := by
  unfold tilefarmgen_Tape_Next.f
  rw [if_neg (by omega)]
  by_cases h1 : s ≥ (l.length : Int)
  · rw [if_pos h1]; exact ⟨_, _, rfl, by omega, by omega, hs⟩
  · have e1 : wrap64 (s + 1) = s + 1 := wrap_in (by omega) (by omega)
    have e2 : wrap64 (s + 1 - 1) = s := by rw [wrap_in (by omega) (by omega)]; omega
    rw [if_neg h1]
    simp only [e1, e2]
    rw [if_pos hs, if_pos (by omega), mod_eq _ _ h hn]
    exact ⟨_, _, rfl, Int.emod_nonneg _ (by omega), Int.emod_lt_of_pos _ h, by omega⟩


theorem rd_mem (l : List Int) (i : Nat) (h : i < l.length) : rd l (i : Int) ∈ l := by
  simp [rd, h]

theorem rd_drop (l : List Int) (i : Nat) (h : i < l.length) : l.drop i = rd l (i : Int) :: l.drop (i + 1) := by
  rw [List.drop_eq_getElem_cons h]
  simp [rd, h]

theorem next_o (l : List Int) (s n : Int) (hs : 0 ≤ s) (hl : l.length ≤ 4611686018427387904) (h : 0 < n) (hn : n ≤ 4611686018427387904) :
    ∃ bt, tilefarmgen_Tape_Next.f l s n = some bt ∧ 0 ≤ bt.1 ∧ bt.1 < n ∧ 0 ≤ bt.2 := by
  obtain ⟨r, s', h1, h2, h3, h4⟩ := next_spec l s n hs hl h hn
  exact ⟨(r, s'), h1, h2, h3, h4⟩

theorem pick_o (l : List Int) (s : Int) (xs : List Int) (hs : 0 ≤ s) (hl : l.length ≤ 4611686018427387904) (h : 0 < xs.length) (hx : xs.length ≤ 100) :
    ∃ bt, tilefarmgen_Tape_Pick.f l s xs = some bt ∧ bt.1 ∈ xs ∧ 0 ≤ bt.2 := by
  obtain ⟨r, s', h1, h2, h3, h4⟩ := next_spec l s (xs.length : Int) hs hl (by omega) (by omega)
  refine ⟨(rd xs r, s'), ?_, ?_, h4⟩
  · unfold tilefarmgen_Tape_Pick.f
    rw [h1, Option.bind_some, if_pos h2, if_pos h3]
  · obtain ⟨n, rfl⟩ := Int.eq_ofNat_of_zero_le h2
    exact rd_mem xs n (by omega)


theorem sane_eq : tilefarmlaw12_sane.f 40 = some true := by decide +kernel

theorem between_val (a b c : Int) : histogram_between.f a b c = some (decide (b ≤ a ∧ a ≤ c)) := by
  unfold histogram_between.f
  by_cases h : a ≥ b
  · rw [if_pos h]; exact sd_iff ⟨fun g => ⟨h, g⟩, fun g => g.2⟩
  · rw [if_neg h]; exact sd_false (fun g => h g.1)

theorem bins_val (a : Int) : tilefarmref12_Bins.f a = some (decide (1 ≤ a ∧ a ≤ 128)) := by
  unfold tilefarmref12_Bins.f
  by_cases h : a ≥ 1
  · rw [if_pos h]; exact sd_iff ⟨fun g => ⟨h, g⟩, fun g => g.2⟩
  · rw [if_neg h]; exact sd_false (fun g => h g.1)

theorem wnext {i n : Nat} (h : i < n) (hn : n ≤ 1000) : wrap64 ((i : Int) + 1) = ((i + 1 : Nat) : Int) := by
  rw [wrap_in (by omega) (by omega)]; rfl

theorem nidx {i d n : Nat} (h : i + (d + 1) = n) : i + 1 + d = n ∧ i < n := by omega

theorem m0 (L : List (List Int)) (hL : L.length ≤ 500) (h0 : 0 < L.length) : ∀ (d k k' i : Nat), i + d = L.length →
    (histogram_Merge.l0 (k + d + 1) L ((rd_L1 L 0).length : Int) L (L.length : Int) (i : Int) = some ([], 8) ∧ tilefarmref12_Merge.l0 (k' + d + 1) L (i : Int) = some ([], 8)) ∨
    ((∀ j : Nat, i ≤ j → j < L.length → (rd_L1 L (j : Int)).length = (rd_L1 L 0).length) ∧ (0 < d → (rd_L1 L 0).length ≤ 128) ∧
      (histogram_Merge.l0 (k + d + 1) L ((rd_L1 L 0).length : Int) L (L.length : Int) (i : Int) = (if ((rd_L1 L 0).length : Int).toNat ≤ 35184372088832 then histogram_Merge.l1 k (List.replicate ((rd_L1 L 0).length : Int).toNat 0) L (L.length : Int) 0 else none)) ∧
      tilefarmref12_Merge.l0 (k' + d + 1) L (i : Int) = (if ((rd_L1 L 0).length : Int).toNat ≤ 35184372088832 then tilefarmref12_Merge.l1 k' L (List.replicate ((rd_L1 L 0).length : Int).toNat 0) 0 else none))
  | 0, k, k', i, hi => by
    have hiL : i = L.length := hi
    refine .inr ⟨fun j h1 h2 => by omega, fun h => absurd h (Nat.lt_irrefl 0), ?_, ?_⟩
    · rw [hiL, histogram_Merge.l0, if_neg (Int.lt_irrefl _), if_pos (Int.natCast_nonneg _)]
    · rw [hiL, tilefarmref12_Merge.l0, if_neg (Int.lt_irrefl _), if_pos (show 0 < (L.length : Int) by omega), if_pos (Int.natCast_nonneg _)]
  | d + 1, k, k', i, hi => by
    obtain ⟨h1, h2⟩ := nidx hi
    have ih := m0 L hL h0 d k k' (i + 1) h1
    have hP : histogram_Merge.l0 (k + (d + 1) + 1) L ((rd_L1 L 0).length : Int) L (L.length : Int) (i : Int) = (if ((rd_L1 L (i : Int)).length : Int) = ((rd_L1 L 0).length : Int) then (if decide (1 ≤ ((rd_L1 L 0).length : Int) ∧ ((rd_L1 L 0).length : Int) ≤ 128) = true then histogram_Merge.l0 (k + d + 1) L ((rd_L1 L 0).length : Int) L (L.length : Int) ((i + 1 : Nat) : Int) else some ([], 8)) else some ([], 8)) := by
      rw [show k + (d + 1) + 1 = (k + d + 1) + 1 from rfl, histogram_Merge.l0]
      simp only [if_pos (Int.ofNat_lt.2 h2), if_pos (Int.natCast_nonneg i)]
      rw [between_val, Option.bind_some, wnext h2 (by omega)]
    have hR : tilefarmref12_Merge.l0 (k' + (d + 1) + 1) L (i : Int) = (if ((rd_L1 L (i : Int)).length : Int) = ((rd_L1 L 0).length : Int) then (if decide (1 ≤ ((rd_L1 L 0).length : Int) ∧ ((rd_L1 L 0).length : Int) ≤ 128) = true then tilefarmref12_Merge.l0 (k' + d + 1) L ((i + 1 : Nat) : Int) else some ([], 8)) else some ([], 8)) := by
      rw [show k' + (d + 1) + 1 = (k' + d + 1) + 1 from rfl, tilefarmref12_Merge.l0]
      simp only [if_pos (Int.ofNat_lt.2 h2), if_pos (Int.natCast_nonneg i), if_pos (show 0 < (L.length : Int) by omega)]
      rw [bins_val, Option.bind_some, wnext h2 (by omega)]
    rw [hP, hR]
    by_cases c1 : ((rd_L1 L (i : Int)).length : Int) = ((rd_L1 L 0).length : Int)
    · rw [if_pos c1, if_pos c1]
      by_cases c2 : 1 ≤ ((rd_L1 L 0).length : Int) ∧ ((rd_L1 L 0).length : Int) ≤ 128
      · rw [decide_eq_true c2, if_pos rfl, if_pos rfl]
        rcases ih with ih | ⟨a1, a2, a3, a4⟩
        · exact .inl ih
        · refine .inr ⟨fun j hj hjl => ?_, fun _ => by omega, a3, a4⟩
          rcases Nat.eq_or_lt_of_le hj with q | q
          · rw [← q]; exact Int.ofNat.inj c1
          · exact a1 j q hjl
      · rw [decide_eq_false c2, if_neg Bool.false_ne_true, if_neg Bool.false_ne_true]
        exact .inl ⟨rfl, rfl⟩
    · rw [if_neg c1, if_neg c1]
      exact .inl ⟨rfl, rfl⟩

theorem m2 (L : List (List Int)) (i N : Nat) (hi : i < L.length) (hx : (rd_L1 L (i : Int)).length = N) (hN : N ≤ 128) : ∀ (d k k' j : Nat) (o : List Int), j + d = N → o.length = N →
    (histogram_Merge.l2 (k + d + 1) o L (L.length : Int) (i : Int) (rd_L1 L (i : Int)) (N : Int) (j : Int) = some ([], 2) ∧ tilefarmref12_Merge.l2 (k' + d + 1) L o (i : Int) (j : Int) = some ([], 2)) ∨
    ∃ o', o'.length = N ∧ histogram_Merge.l2 (k + d + 1) o L (L.length : Int) (i : Int) (rd_L1 L (i : Int)) (N : Int) (j : Int) = histogram_Merge.l1 k o' L (L.length : Int) (wrap64 ((i : Int) + 1)) ∧ tilefarmref12_Merge.l2 (k' + d + 1) L o (i : Int) (j : Int) = tilefarmref12_Merge.l1 k' L o' (wrap64 ((i : Int) + 1))
  | 0, k, k', j, o, hj, ho => by
    have hjN : j = N := hj
    refine .inr ⟨o, ho, ?_, ?_⟩
    · rw [hjN, histogram_Merge.l2, if_neg (Int.lt_irrefl _)]
    · rw [hjN, tilefarmref12_Merge.l2, if_neg (show ¬ (N : Int) < (o.length : Int) by rw [ho]; exact Int.lt_irrefl _)]
  | d + 1, k, k', j, o, hj, ho => by
    obtain ⟨h1, h2⟩ := nidx hj
    have hjo : (j : Int) < (o.length : Int) := Int.ofNat_lt.2 (by rw [ho]; exact h2)
    have hjx : (j : Int) < ((rd_L1 L (i : Int)).length : Int) := Int.ofNat_lt.2 (by rw [hx]; exact h2)
    have hP : histogram_Merge.l2 (k + (d + 1) + 1) o L (L.length : Int) (i : Int) (rd_L1 L (i : Int)) (N : Int) (j : Int) = (if decide (0 ≤ rd (rd_L1 L (i : Int)) (j : Int) ∧ rd (rd_L1 L (i : Int)) (j : Int) ≤ 4096) = true then histogram_Merge.l2 (k + d + 1) (o.set (j : Int).toNat (wrap64 (rd o (j : Int) + rd (rd_L1 L (i : Int)) (j : Int)))) L (L.length : Int) (i : Int) (rd_L1 L (i : Int)) (N : Int) ((j + 1 : Nat) : Int) else some ([], 2)) := by
      rw [show k + (d + 1) + 1 = (k + d + 1) + 1 from rfl, histogram_Merge.l2, if_pos (Int.ofNat_lt.2 h2), if_pos (Int.natCast_nonneg j), if_pos hjx, between_val, Option.bind_some, wnext h2 (by omega), if_pos hjo]
    have hR : tilefarmref12_Merge.l2 (k' + (d + 1) + 1) L o (i : Int) (j : Int) = (if rd (rd_L1 L (i : Int)) (j : Int) < 0 then some ([], 2) else (if rd (rd_L1 L (i : Int)) (j : Int) > 4096 then some ([], 2) else tilefarmref12_Merge.l2 (k' + d + 1) L (o.set (j : Int).toNat (wrap64 (rd o (j : Int) + rd (rd_L1 L (i : Int)) (j : Int)))) (i : Int) ((j + 1 : Nat) : Int))) := by
      rw [show k' + (d + 1) + 1 = (k' + d + 1) + 1 from rfl, tilefarmref12_Merge.l2, if_pos hjo, if_pos (Int.natCast_nonneg i), if_pos (Int.ofNat_lt.2 hi), if_pos (Int.natCast_nonneg j), if_pos hjx, wnext h2 (by omega)]
    rw [hP, hR]
    by_cases c1 : rd (rd_L1 L (i : Int)) (j : Int) < 0
    · rw [decide_eq_false (fun h => by omega), if_neg Bool.false_ne_true, if_pos c1]
      exact .inl ⟨rfl, rfl⟩
    · rw [if_neg c1]
      by_cases c2 : rd (rd_L1 L (i : Int)) (j : Int) > 4096
      · rw [decide_eq_false (fun h => by omega), if_neg Bool.false_ne_true, if_pos c2]
        exact .inl ⟨rfl, rfl⟩
      · rw [decide_eq_true (show 0 ≤ rd (rd_L1 L (i : Int)) (j : Int) ∧ rd (rd_L1 L (i : Int)) (j : Int) ≤ 4096 by omega), if_pos rfl, if_neg c2]
        exact m2 L i N hi hx hN d k k' (j + 1) _ h1 (by rw [List.length_set]; exact ho)

theorem m1 (L : List (List Int)) (N : Nat) (hL : L.length ≤ 500) (hN : N ≤ 128) (hl : ∀ j : Nat, j < L.length → (rd_L1 L (j : Int)).length = N) : ∀ (d k k' i : Nat) (o : List Int), i + d = L.length → o.length = N →
    (histogram_Merge.l1 (k + d * (N + 2) + 1) o L (L.length : Int) (i : Int) = some ([], 2) ∧ tilefarmref12_Merge.l1 (k' + d * (N + 2) + 1) L o (i : Int) = some ([], 2)) ∨
    ∃ o', o'.length = N ∧ histogram_Merge.l1 (k + d * (N + 2) + 1) o L (L.length : Int) (i : Int) = histogram_Merge.l3 k o' o' (o'.length : Int) 0 ∧ tilefarmref12_Merge.l1 (k' + d * (N + 2) + 1) L o (i : Int) = tilefarmref12_Merge.l3 k' o' 0
  | 0, k, k', i, o, hi, ho => by
    have hiL : i = L.length := hi
    refine .inr ⟨o, ho, ?_, ?_⟩
    · rw [hiL, histogram_Merge.l1, if_neg (Int.lt_irrefl _), Nat.zero_mul]
      rfl
    · rw [hiL, tilefarmref12_Merge.l1, if_neg (Int.lt_irrefl _), Nat.zero_mul]
      rfl
  | d + 1, k, k', i, o, hi, ho => by
    obtain ⟨h1, h2⟩ := nidx hi
    have hf : ∀ q, q + (d + 1) * (N + 2) + 1 = (q + d * (N + 2) + 1 + N + 1) + 1 := fun q => by rw [Nat.add_mul]; omega
    have e := m2 L i N h2 (hl i h2) hN N (k + d * (N + 2) + 1) (k' + d * (N + 2) + 1) 0 o (Nat.zero_add N) ho
    have hP : histogram_Merge.l1 (k + (d + 1) * (N + 2) + 1) o L (L.length : Int) (i : Int) = histogram_Merge.l2 (k + d * (N + 2) + 1 + N + 1) o L (L.length : Int) (i : Int) (rd_L1 L (i : Int)) (N : Int) 0 := by
      rw [hf, histogram_Merge.l1]
      simp only [if_pos (Int.ofNat_lt.2 h2), if_pos (Int.natCast_nonneg i)]
      rw [hl i h2]
    have hR : tilefarmref12_Merge.l1 (k' + (d + 1) * (N + 2) + 1) L o (i : Int) = tilefarmref12_Merge.l2 (k' + d * (N + 2) + 1 + N + 1) L o (i : Int) 0 := by
      rw [hf, tilefarmref12_Merge.l1, if_pos (Int.ofNat_lt.2 h2)]
    rw [hP, hR]
    rcases e with e | ⟨o', g1, g2, g3⟩
    · exact .inl e
    · rw [wnext h2 (by omega)] at g2 g3
      rcases m1 L N hL hN hl d k k' (i + 1) o' h1 g1 with q | ⟨o2, q1, q2, q3⟩
      · exact .inl ⟨g2.trans q.1, g3.trans q.2⟩
      · exact .inr ⟨o2, q1, g2.trans q2, g3.trans q3⟩

theorem m3 (o : List Int) (ho : o.length ≤ 128) : ∀ (d k k' j : Nat), j + d = o.length →
    (histogram_Merge.l3 (k + d + 1) o o (o.length : Int) (j : Int) = some ([], 3) ∧ tilefarmref12_Merge.l3 (k' + d + 1) o (j : Int) = some ([], 3)) ∨ (histogram_Merge.l3 (k + d + 1) o o (o.length : Int) (j : Int) = some (o, 0) ∧ tilefarmref12_Merge.l3 (k' + d + 1) o (j : Int) = some (o, 0))
  | 0, k, k', j, hj => by
    have hjo : j = o.length := hj
    refine .inr ⟨?_, ?_⟩
    · rw [hjo, histogram_Merge.l3, if_neg (Int.lt_irrefl _)]
    · rw [hjo, tilefarmref12_Merge.l3, if_neg (Int.lt_irrefl _)]
  | d + 1, k, k', j, hj => by
    obtain ⟨h1, h2⟩ := nidx hj
    have ih := m3 o ho d k k' (j + 1) h1
    have hP : histogram_Merge.l3 (k + (d + 1) + 1) o o (o.length : Int) (j : Int) = (if rd o (j : Int) > 4096 then some ([], 3) else histogram_Merge.l3 (k + d + 1) o o (o.length : Int) ((j + 1 : Nat) : Int)) := by
      rw [show k + (d + 1) + 1 = (k + d + 1) + 1 from rfl, histogram_Merge.l3]
      simp only [if_pos (Int.ofNat_lt.2 h2), if_pos (Int.natCast_nonneg j)]
      rw [wnext h2 (by omega)]
    have hR : tilefarmref12_Merge.l3 (k' + (d + 1) + 1) o (j : Int) = (if rd o (j : Int) > 4096 then some ([], 3) else tilefarmref12_Merge.l3 (k' + d + 1) o ((j + 1 : Nat) : Int)) := by
      rw [show k' + (d + 1) + 1 = (k' + d + 1) + 1 from rfl, tilefarmref12_Merge.l3, if_pos (Int.ofNat_lt.2 h2), if_pos (Int.natCast_nonneg j), wnext h2 (by omega)]
    rw [hP, hR]
    by_cases c : rd o (j : Int) > 4096
    · rw [if_pos c, if_pos c]; exact .inl ⟨rfl, rfl⟩
    · rw [if_neg c, if_neg c]; exact ih

theorem merge_same (L : List (List Int)) (hL : L.length ≤ 500) (K : Nat) (hK : 70000 ≤ K) : ∃ r, histogram_Merge.f K L = some r ∧ tilefarmref12_Merge.f K L = some r ∧ r.1.length ≤ 128 := by
  unfold histogram_Merge.f tilefarmref12_Merge.f
  rw [between_val, Option.bind_some]
  obtain ⟨K, rfl⟩ : ∃ q, K = q + 1 := ⟨K - 1, by omega⟩
  rcases Nat.eq_zero_or_pos L.length with h0 | h0
  · rw [decide_eq_false (show ¬ (1 ≤ (L.length : Int) ∧ (L.length : Int) ≤ 4096) by omega), if_neg Bool.false_ne_true, if_pos (show (L.length : Int) = 0 by omega), tilefarmref12_Merge.j0, if_pos rfl]
    exact ⟨_, rfl, rfl, by simp⟩
  · rw [decide_eq_true (show 1 ≤ (L.length : Int) ∧ (L.length : Int) ≤ 4096 by omega), if_pos rfl, if_pos (show 0 < (L.length : Int) by omega), if_neg (show ¬ (L.length : Int) = 0 by omega), decide_eq_false (show ¬ (L.length : Int) > 4096 by omega), tilefarmref12_Merge.j0, if_neg Bool.false_ne_true]
    obtain ⟨k, hk⟩ : ∃ k, K + 1 = k + L.length + 1 := ⟨K - L.length, by omega⟩
    obtain ⟨k', hk'⟩ : ∃ k', K = k' + L.length + 1 := ⟨K - L.length - 1, by omega⟩
    have e := m0 L hL h0 L.length k k' 0 (Nat.zero_add _)
    rw [← hk, ← hk'] at e
    have e' : (histogram_Merge.l0 (K + 1) L ((rd_L1 L 0).length : Int) L (L.length : Int) 0 = some ([], 8) ∧ tilefarmref12_Merge.l0 K L 0 = some ([], 8)) ∨ _ := e
    rcases e' with ⟨e1, e2⟩ | ⟨a1, a2, a3, a4⟩
    · exact ⟨_, e1, e2, by simp⟩
    · have hN := a2 h0
      have a3' : histogram_Merge.l0 (K + 1) L ((rd_L1 L 0).length : Int) L (L.length : Int) 0 = _ := a3
      have a4' : tilefarmref12_Merge.l0 K L 0 = _ := a4
      rw [a3', a4', if_pos (show ((rd_L1 L 0).length : Int).toNat ≤ 35184372088832 by omega), if_pos (show ((rd_L1 L 0).length : Int).toNat ≤ 35184372088832 by omega), Int.toNat_natCast]
      have hm : L.length * ((rd_L1 L 0).length + 2) ≤ 500 * 130 := Nat.mul_le_mul hL (by omega)
      obtain ⟨q, hq, hq2⟩ : ∃ q, k = q + L.length * ((rd_L1 L 0).length + 2) + 1 ∧ 1000 ≤ q := ⟨k - L.length * ((rd_L1 L 0).length + 2) - 1, by omega, by omega⟩
      obtain ⟨q', hq', hq2'⟩ : ∃ q', k' = q' + L.length * ((rd_L1 L 0).length + 2) + 1 ∧ 1000 ≤ q' := ⟨k' - L.length * ((rd_L1 L 0).length + 2) - 1, by omega, by omega⟩
      rw [hq, hq']
      rcases m1 L (rd_L1 L 0).length hL hN (fun j hj => a1 j (Nat.zero_le j) hj) L.length q q' 0 (List.replicate (rd_L1 L 0).length 0) (Nat.zero_add _) List.length_replicate with ⟨e1, e2⟩ | ⟨o, b1, b2, b3⟩
      · exact ⟨_, e1, e2, by simp⟩
      · have b2' : histogram_Merge.l1 (q + L.length * ((rd_L1 L 0).length + 2) + 1) (List.replicate (rd_L1 L 0).length 0) L (L.length : Int) 0 = _ := b2
        have b3' : tilefarmref12_Merge.l1 (q' + L.length * ((rd_L1 L 0).length + 2) + 1) L (List.replicate (rd_L1 L 0).length 0) 0 = _ := b3
        rw [b2', b3']
        obtain ⟨p, hp⟩ : ∃ p, q = p + o.length + 1 := ⟨q - o.length - 1, by omega⟩
        obtain ⟨p', hp'⟩ : ∃ p', q' = p' + o.length + 1 := ⟨q' - o.length - 1, by omega⟩
        rw [hp, hp']
        rcases m3 o (by omega) o.length p p' 0 (Nat.zero_add _) with ⟨e1, e2⟩ | ⟨e1, e2⟩
        · exact ⟨_, e1, e2, by simp⟩
        · exact ⟨_, e1, e2, by show o.length ≤ 128; omega⟩

theorem same_loop (L : List Int) (hL : L.length ≤ 100000) (d : Nat) : ∀ (k i : Nat), i + d = L.length → d < k → tilefarmref4_Same.l0 k L L (i : Int) = some true := by
  induction d with
  | zero =>
    intro k i hi hk
    obtain ⟨k, rfl⟩ : ∃ m, k = m + 1 := ⟨k - 1, by omega⟩
    rw [tilefarmref4_Same.l0, if_neg (by omega)]
  | succ d ih =>
    intro k i hi hk
    obtain ⟨k, rfl⟩ : ∃ m, k = m + 1 := ⟨k - 1, by omega⟩
    rw [tilefarmref4_Same.l0, if_pos (by omega), if_pos (by omega), if_pos (by omega), if_pos rfl, wrap_in (n := (i : Int) + 1) (by omega) (by omega)]
    exact ih k (i + 1) (by omega) (by omega)

theorem same_eq (L : List Int) (hL : L.length ≤ 1000) (K : Nat) (hK : 2000 ≤ K) : tilefarmref4_Same.f K L L = some true := by
  unfold tilefarmref4_Same.f
  rw [if_pos rfl]
  exact same_loop L (by omega) L.length K 0 (by omega) (by omega)

theorem round_end (x1 : List (List Int)) (i : Int) (h0 : 0 ≤ i) (hi : i < 4) (X : List (List Int)) (hX : X.length ≤ 500) (n : Int) (t : List Int) (s : Int) (F : Nat) (hF : 70000 ≤ F) :
    tilefarmlaw12_HistogramMerges.l1 (F + 1) x1 i X n 0 t s = tilefarmlaw12_HistogramMerges.l0 F x1 (i + 1) t s := by
  have go : ∀ Y : List (List Int), Y.length ≤ 500 → ((histogram_Merge.f F Y).bind fun bt => ((tilefarmref12_Merge.f F Y).bind fun bu => ((tilefarmref4_Same.f F bt.1 bu.1).bind fun v => (if v = true then (if bt.2 = bu.2 then (tilefarmlaw12_HistogramMerges.l0 F x1 (wrap64 (i + 1)) t s) else (some false)) else (some false))))) = tilefarmlaw12_HistogramMerges.l0 F x1 (i + 1) t s := by
    intro Y hY
    obtain ⟨r, g1, g2, g3⟩ := merge_same Y hY F hF
    rw [g1, Option.bind_some, g2, Option.bind_some, same_eq r.1 (by omega) F (by omega), Option.bind_some, if_pos rfl, if_pos rfl, wrap_in (n := i + 1) (by omega) (by omega)]
  rw [tilefarmlaw12_HistogramMerges.l1, if_neg (show ¬ (0 : Int) > 0 by decide)]
  by_cases c : i = 3
  · rw [if_pos c]
    by_cases c2 : (x1.length : Int) ≤ 500
    · rw [if_pos c2]; exact go x1 (by omega)
    · rw [if_neg c2]; exact go X hX
  · rw [if_neg c]; exact go X hX

theorem l2_go (x1 : List (List Int)) (i : Int) (X : List (List Int)) (hX : X.length ≤ 100) (n m : Int) (hn : 0 ≤ n) (hn' : n ≤ 3) (hm : 1 ≤ m) (hm' : m ≤ 10) (t : List Int) (ht : t.length ≤ 4611686018427387904) : ∀ (d F : Nat) (j s : Int) (y : List Int), j + (d : Int) = n + 1 → 0 ≤ j → 0 ≤ s → y.length + d ≤ 100 → d + 1 ≤ F →
    ∃ F' y' s', 0 ≤ s' ∧ F ≤ F' + d + 1 ∧ tilefarmlaw12_HistogramMerges.l2 F x1 i X n m y j t s = tilefarmlaw12_HistogramMerges.l1 F' x1 i (X ++ [y']) n (m - 1) t s' := by
  intro d
  induction d with
  | zero =>
    intro F j s y hj h0 hs hy hF
    obtain ⟨F, rfl⟩ : ∃ q, F = q + 1 := ⟨F - 1, by omega⟩
    obtain ⟨r, g1, g2, g3, g4⟩ := next_o t s 12 hs ht (by omega) (by omega)
    have hd : 0 ≤ Int.tdiv r.1 11 ∧ Int.tdiv r.1 11 ≤ 1 := by rw [Int.tdiv_eq_ediv_of_nonneg g2]; omega
    refine ⟨F, y, r.2, g4, by omega, ?_⟩
    rw [tilefarmlaw12_HistogramMerges.l2, g1, Option.bind_some, wrap_in (n := Int.tdiv r.1 11) (by omega) (by omega), wrap_in (n := n + Int.tdiv r.1 11) (by omega) (by omega), if_neg (show ¬ j < n + Int.tdiv r.1 11 by omega), if_pos (show X.length < 5864062014805 by omega), wrap_in (n := m - 1) (by omega) (by omega)]
  | succ d ih =>
    intro F j s y hj h0 hs hy hF
    obtain ⟨F, rfl⟩ : ∃ q, F = q + 1 := ⟨F - 1, by omega⟩
    obtain ⟨r, g1, g2, g3, g4⟩ := next_o t s 12 hs ht (by omega) (by omega)
    have hd : 0 ≤ Int.tdiv r.1 11 ∧ Int.tdiv r.1 11 ≤ 1 := by rw [Int.tdiv_eq_ediv_of_nonneg g2]; omega
    by_cases c : j < n + Int.tdiv r.1 11
    · obtain ⟨r2, k1, k2, k3, k4⟩ := next_o t r.2 9 g4 ht (by omega) (by omega)
      obtain ⟨r3, l1, l2, l3, l4⟩ := next_o t r2.2 40 k4 ht (by omega) (by omega)
      obtain ⟨p, p1, _, p3⟩ := pick_o t r3.2 [r2.1, 4096, 0, 2000, wrap64 ((wrap64 (Int.tdiv r3.1 39)) * (-1))] l4 ht (by simp) (by simp)
      obtain ⟨F', y', s', q1, q2, q3⟩ := ih F (j + 1) p.2 (y ++ [p.1]) (by omega) (by omega) p3 (by rw [List.length_append, List.length_singleton]; omega) (by omega)
      refine ⟨F', y', s', q1, by omega, ?_⟩
      rw [← q3, tilefarmlaw12_HistogramMerges.l2, g1, Option.bind_some, wrap_in (n := Int.tdiv r.1 11) (by omega) (by omega), wrap_in (n := n + Int.tdiv r.1 11) (by omega) (by omega), if_pos c, k1, Option.bind_some, l1, Option.bind_some, p1, Option.bind_some, if_pos (show y.length < 17592186044416 by omega), wrap_in (n := j + 1) (by omega) (by omega)]
    · refine ⟨F, y, r.2, g4, by omega, ?_⟩
      rw [tilefarmlaw12_HistogramMerges.l2, g1, Option.bind_some, wrap_in (n := Int.tdiv r.1 11) (by omega) (by omega), wrap_in (n := n + Int.tdiv r.1 11) (by omega) (by omega), if_neg c, if_pos (show X.length < 5864062014805 by omega), wrap_in (n := m - 1) (by omega) (by omega)]

theorem l1_go (x1 : List (List Int)) (i : Int) (n : Int) (hn : 0 ≤ n) (hn' : n ≤ 3) (t : List Int) (ht : t.length ≤ 4611686018427387904) : ∀ (d F : Nat) (s : Int) (X : List (List Int)), 0 ≤ s → X.length + d ≤ 50 → d ≤ 10 → 10 * d ≤ F →
    ∃ F' X' s', 0 ≤ s' ∧ F ≤ F' + 10 * d ∧ X'.length ≤ 50 ∧ tilefarmlaw12_HistogramMerges.l1 F x1 i X n (d : Int) t s = tilefarmlaw12_HistogramMerges.l1 F' x1 i X' n 0 t s' := by
  intro d
  induction d with
  | zero =>
    intro F s X hs hX _ _
    exact ⟨F, X, s, hs, by omega, by omega, rfl⟩
  | succ d ih =>
    intro F s X hs hX hd hF
    obtain ⟨F, rfl⟩ : ∃ q, F = q + 1 := ⟨F - 1, by omega⟩
    obtain ⟨e, he⟩ : ∃ e : Nat, (e : Int) = n + 1 := ⟨(n + 1).toNat, Int.toNat_of_nonneg (by omega)⟩
    obtain ⟨F1, y, s1, a1, a2, a3⟩ := l2_go x1 i X (by omega) n ((d + 1 : Nat) : Int) hn hn' (by omega) (by omega) t ht e F 0 s [] (by omega) (Int.le_refl _) hs (by rw [List.length_nil]; omega) (by omega)
    obtain ⟨F2, X2, s2, b1, b2, b3, b4⟩ := ih F1 s1 (X ++ [y]) a1 (by rw [List.length_append, List.length_singleton]; omega) (by omega) (by omega)
    refine ⟨F2, X2, s2, b1, by omega, b3, ?_⟩
    rw [tilefarmlaw12_HistogramMerges.l1, if_pos (show ((d + 1 : Nat) : Int) > 0 by omega), a3, show ((d + 1 : Nat) : Int) - 1 = (d : Int) by omega, b4]

theorem l0_go (x1 : List (List Int)) (t : List Int) (ht : t.length ≤ 4611686018427387904) : ∀ (d F : Nat) (i s : Int), i + (d : Int) = 4 → 0 ≤ i → 0 ≤ s → 71000 + 100 * d ≤ F → tilefarmlaw12_HistogramMerges.l0 F x1 i t s = some true := by
  intro d
  induction d with
  | zero =>
    intro F i s hi h0 hs hF
    obtain ⟨F, rfl⟩ : ∃ q, F = q + 1 := ⟨F - 1, by omega⟩
    have hsane : tilefarmlaw12_sane.f F = some true := at_rounds tilefarmlaw12_sane.mono (by omega) sane_eq
    rw [tilefarmlaw12_HistogramMerges.l0, if_neg (show ¬ i < 4 by omega), hsane, Option.bind_some]
  | succ d ih =>
    intro F i s hi h0 hs hF
    obtain ⟨F, rfl⟩ : ∃ q, F = q + 1 := ⟨F - 1, by omega⟩
    obtain ⟨p, p1, p2, p3⟩ := pick_o t s [3, 1, 0] hs ht (by simp) (by simp)
    obtain ⟨r, g1, g2, g3, g4⟩ := next_o t p.2 5 p3 ht (by omega) (by omega)
    have hp : 0 ≤ p.1 ∧ p.1 ≤ 3 := by
      simp only [List.mem_cons, List.not_mem_nil, or_false] at p2
      clear p1 g1
      omega
    obtain ⟨m, hm⟩ : ∃ m : Nat, (m : Int) = r.1 := ⟨r.1.toNat, Int.toNat_of_nonneg g2⟩
    obtain ⟨F1, X, s1, a1, a2, a3, a4⟩ := l1_go x1 i p.1 hp.1 hp.2 t ht m F r.2 [] g4 (by rw [List.length_nil]; omega) (by omega) (by omega)
    obtain ⟨F2, rfl⟩ : ∃ q, F1 = q + 1 := ⟨F1 - 1, by omega⟩
    rw [tilefarmlaw12_HistogramMerges.l0, if_pos (show i < 4 by omega), p1, Option.bind_some, g1, Option.bind_some, ← hm, a4, round_end x1 i h0 (by omega) X (by omega) p.1 t s1 F2 (by omega)]
    exact ih F2 (i + 1) s1 (by omega) (by omega) a1 (by omega)

theorem HistogramMerges : tilefarmlaw12_HistogramMerges.Pure := by
  intro t x1 _ hl _ _
  have ht : t.length ≤ 4611686018427387904 := by omega
  obtain ⟨K, hK⟩ : ∃ K : Nat, 71000 + 100 * 4 ≤ K := ⟨71000 + 100 * 4, Nat.le_refl _⟩
  refine ⟨K, ?_⟩
  unfold tilefarmlaw12_HistogramMerges.f tilefarmgen_New.f
  rw [Option.bind_some]
  exact l0_go x1 t ht 4 K 0 0 rfl (Int.le_refl _) (Int.le_refl _) hK


end Go.Proofs.Yticicecobchdiaa.Pure
namespace Go.Proofs.Yticicecobchdiaa
open Go.ChangeShapes Go.WideShapes
/-- The print's own word, under the name that the printed row uses. -/
theorem PrintWords.sized_ints {H : Type} {enc : TypeId × Value → H} {P : Program} {W : World} {base : Nat} {spare : Nat → Bool} {held : Bool} {t e : TypeId} {k : IntKind} {a : Option Addr} {len cap : Nat} {d : DataW H} {ps : List MemPlace} {ts : List TypeId} {ds : List (DataW H)} {j : Nat}
    (hsz : (DataW.weightsEach P ts ds).all (· ≤ reachBytes) = true) (ht : ts[j]? = some t) (hd : ds[j]? = some d) (hu : P.underlying t = some (.slice e)) (he : P.underlying e = some (.int k)) (hc : P.cellsOf e = 1) {B : Nat} (hB : P.bytesOf e = B)
    (h : DataW.Trod enc P W base spare held t (.slice a len cap) d ps) : len * B ≤ 140737488351232 :=
  Go.Proofs.YticicecobchdiaaW.PrintWords.sized_ints hsz ht hd hu he hc hB h
end Go.Proofs.Yticicecobchdiaa

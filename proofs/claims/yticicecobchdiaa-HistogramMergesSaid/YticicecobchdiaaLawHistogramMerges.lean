-- Written by a program of the session (wip/tools/myprint.py) over the kit's printer; checked by Lean.
import Derived.Test.YticicecobchdiaaRows
import Derived.Test.YticicecobchdiaaPHistogramMergesx9
import Derived.Test.YticicecobchdiaaPureHistogramMerges
import Derived.WalkKit
import Derived.ProofKit
import Derived.OpenShut
import Derived.ShutString
import Derived.ChangeOld
import Derived.Below
import Derived.SizedLaws
import Derived.Deep.Matrix
import Derived.Test.YticicecobchdiaaWSized
namespace Go.Proofs.Yticicecobchdiaa.histogramMerges
open Go.ChangeShapes Go.WideShapes Go.ChangeAt Go.RowKit
open Go.ChangeMaps (open_string shut_string)
open Go.Proofs.YticicecobchdiaaW.PrintWords Go.Proofs.YticicecobchdiaaW.PrintMore
set_option linter.unusedVariables false
theorem own : ownKnob Try.prog.godebug = none := by kernel_rfl
theorem laidOut : laidOutB Try.prog = true := by kernel_rfl
def IsRow (k : IntKind) (w : World) (a : Option Addr) (len cap : Nat) (zs : List Int) : Prop :=
  (a = none ∧ len = 0 ∧ cap = 0 ∧ zs = []) ∨
  ∃ x, a = some x ∧ len ≤ cap ∧ cap ≤ maxLen ∧ zs.length = cap ∧ (∀ i, i < zs.length → w.cell? (x.add i) = some (.int k (zs.getD i 0))) ∧ ∀ n ∈ zs, (Lit.int k n).wf = true
theorem take_len {L C : Nat} {Z : List Int} (hl : L ≤ C) (hz : Z.length = C) : (Z.take L).length = L := by
  rw [List.length_take, hz]; omega
theorem rows_C {W : World} (x : Addr) (len cap : Nat) (A : Nat → Option Addr) (L C : Nat → Nat) (Z : Nat → List Int) (hl : len ≤ cap) (hm : cap ≤ maxLen)
    (h : ∀ r, r < cap → W.cell? (x.add r) = some (.slice (A r) (L r) (C r)) ∧ L r ≤ C r ∧ C r ≤ maxLen ∧ (Z r).length = C r ∧ (A r = none → C r = 0) ∧ ∀ a', A r = some a' → ∀ c, c < C r → W.cell? (a'.add c) = some (.int .i64 ((Z r).getD c 0))) :
    ∃ l1 : List (List Int), l1.length = len ∧ Kd.C (Kd.slice 3 (Kd.int .i64)) W (some x) l1.length l1 ∧ l1.length ≤ cap ∧ l1.length ≤ maxLen := by
  have hlen : ((List.range len).map fun r => (Z r).take (L r)).length = len := by rw [List.length_map, List.length_range]
  refine ⟨(List.range len).map fun r => (Z r).take (L r), hlen, ⟨rfl, ?_, fun _ => ⟨x, rfl, ?_⟩⟩, by rw [hlen]; exact hl, by rw [hlen]; exact Nat.le_trans hl hm⟩
  · rw [hlen]; exact Nat.le_trans (Nat.le_trans hl hm) (by decide)
  intro j p hj
  have hjl : j < len := by have := (List.getElem?_eq_some_iff.1 hj).1; rw [hlen] at this; exact this
  have hp : p = (Z j).take (L j) := by
    rw [List.getElem?_map, List.getElem?_range hjl, Option.map_some] at hj
    exact (Option.some.inj hj).symm
  obtain ⟨g1, g2, g3, g4, g5, g6⟩ := h j (Nat.lt_of_lt_of_le hjl hl)
  have hpl : p.length = L j := by rw [hp]; exact take_len g2 g4
  refine ⟨[.slice (A j) (L j) (C j)], rfl, ⟨A j, C j, by rw [hpl], by rw [hpl]; exact g2, ⟨rfl, by rw [hpl]; exact Nat.le_trans (Nat.le_trans g2 g3) (by decide), fun h0 => ?_⟩⟩, ?_⟩
  · rw [hpl] at h0
    cases ha : A j with
    | none => have := g5 ha; omega
    | some a' =>
      refine ⟨a', rfl, fun i q hi => ⟨[.int .i64 q], rfl, rfl, fun i' u hu => ?_⟩⟩
      have hil : i < L j := by have := (List.getElem?_eq_some_iff.1 hi).1; rw [hpl] at this; exact this
      have hu' : i' = 0 ∧ u = .int .i64 q := by
        rcases i' with _ | i'
        · exact ⟨rfl, (Option.some.inj hu).symm⟩
        · exact absurd hu (by simp)
      obtain ⟨rfl, rfl⟩ := hu'
      have hq : (Z j).getD i 0 = q := by
        rw [hp, List.getElem?_take, if_pos hil] at hi
        rw [List.getD_eq_getElem?_getD, hi]; rfl
      have := g6 a' ha i (Nat.lt_of_lt_of_le hil g2)
      rw [hq] at this
      simpa [Kd.int, Kd.scalar] using this
  · intro i u hu
    have hu' : i = 0 ∧ u = .slice (A j) (L j) (C j) := by
      rcases i with _ | i
      · exact ⟨rfl, (Option.some.inj hu).symm⟩
      · exact absurd hu (by simp)
    obtain ⟨rfl, rfl⟩ := hu'
    simpa [Kd.slice] using g1
set_option maxRecDepth 100000 in
theorem lifted (os : Os) (started : os.Started) (H : Type) (enc : TypeId × Value → H) :
    ReturnsInHanded {} Try.checked os 5 .any (Rows.histogramMergesSpec.pre6 enc Try.prog Try.f5 Rows.histogramMergesRow.domain false) (Rows.histogramMergesSpec.post enc Try.prog Try.f5 false true false false) := by
  refine returnsInHanded_of_change_sized (C := Try.checked) own started (by kernel_rfl) Try.func5
    (ChangeSpec.witness6 (enc := enc) (C := Try.checked) false ⟨#[], #[.slice none 0 0, .slice none 0 0], []⟩ 8 (by kernel_rfl) (by kernel_rfl) (by kernel_rfl) (by kernel_rfl)) ?_
  intro W base args ds gs before hval0 hW hcnd hsz0 _
  have hsz : (DataW.weightsEach Try.prog (Try.f5.params.toList ++ Rows.histogramMergesSpec.plain.varTypes Try.prog) (ds ++ gs)).all (· ≤ reachBytes) = true := hsz0
  have hval : ∀ (j : Nat) t v, Try.f5.params[j]? = some t → args[j]? = some v → Value.okWide Try.prog W .any base t v := hval0
  have hW' := hW
  obtain ⟨p, q, hA0, hV, rfl, hfz, hnd⟩ := hW
  have hA : DataW.TrodAll enc Try.prog W 0 (fun _ => true) true Try.f5.params.toList args.toList ds p := hA0
  rw [Try.params5] at hA hval hsz
  obtain ⟨v0, vs0, d0, ds0, p0, q0, hargs, rfl, rfl, h0, r0⟩ := trodAll_cons hA
  obtain ⟨v1, vs1, d1, ds1, p1, q1, rfl, rfl, rfl, h1, r1⟩ := trodAll_cons r0
  obtain ⟨rfl, rfl, rfl⟩ := trodAll_nil r1
  obtain rfl : args = #[v0, v1] := by cases args; simp_all
  obtain ⟨rfl, rfl⟩ := trodVars_none hV
  obtain ⟨a0, len0, cap0, rfl⟩ := okWide_slice Try.underlying22 (hval 0 22 v0 rfl rfl)
  have k0 := h0
  have lt0 : ∀ x ∈ p0, x.block < W.heap.size := by obtain ⟨m, hm⟩ := k0; exact DataW.trod_lt m _ _ _ hm
  obtain ⟨z0, w0⟩ : ∃ zs, IsRow .i64 W a0 len0 cap0 zs := by
    obtain ⟨fuel, hf⟩ := h0
    rcases open_ints Try.underlying22 Try.underlying3 (by kernel_rfl) hf with ⟨hcs, _⟩ | ⟨x, l, c, zs, hcs, _, hl, hm, hz, _, hcell, hwz⟩
    · simp [Value.cells] at hcs
      obtain ⟨rfl, rfl, rfl⟩ := hcs
      exact ⟨[], .inl ⟨rfl, rfl, rfl, rfl⟩⟩
    · simp [Value.cells] at hcs
      obtain ⟨rfl, rfl, rfl⟩ := hcs
      exact ⟨zs, .inr ⟨_, rfl, hl, hm, by simpa using hz, hcell, hwz⟩⟩
  have y0 : len0 * 8 ≤ 140737488351232 := Go.Proofs.YticicecobchdiaaW.PrintWords.sized_ints hsz (j := 0) (t := 22) rfl rfl Try.underlying22 Try.underlying3 (by kernel_rfl) (by kernel_rfl) h0
  obtain ⟨a1, len1, cap1, rfl⟩ := okWide_slice Try.underlying46 (hval 1 46 v1 rfl rfl)
  have k1 := h1
  have lt1 : ∀ x ∈ p1, x.block < W.heap.size := by obtain ⟨m, hm⟩ := k1; exact DataW.trod_lt m _ _ _ hm
  obtain ⟨l1, e1, hr1, hc1, hm1⟩ : ∃ l1 : List (List Int), l1.length = len1 ∧ Kd.C (Kd.slice 3 (Kd.int .i64)) W a1 l1.length l1 ∧ l1.length ≤ cap1 ∧ l1.length ≤ maxLen := by
    obtain ⟨fuel, hf⟩ := h1
    rcases Go.Deep.open_int_rows Try.underlying46 Try.underlying22 Try.underlying3 (by kernel_rfl) (by kernel_rfl) hf with ⟨hcs, _⟩ | ⟨x, l, c, A, L, C, Z, hcs, _, hl, hm, _, hcell⟩
    · simp [Value.cells] at hcs
      obtain ⟨rfl, rfl, rfl⟩ := hcs
      exact ⟨[], rfl, ⟨rfl, Nat.zero_le _, fun h => absurd h (Nat.lt_irrefl 0)⟩, Nat.zero_le _, Nat.zero_le _⟩
    · simp [Value.cells] at hcs
      obtain ⟨rfl, rfl, rfl⟩ := hcs
      exact rows_C x len1 cap1 A L C Z hl hm (fun r hr => ⟨(hcell r hr).1, (hcell r hr).2.1, (hcell r hr).2.2.1, (hcell r hr).2.2.2.1, (hcell r hr).2.2.2.2.2.1, fun a' ha => ((hcell r hr).2.2.2.2.2.2 a' ha).2⟩)
  subst e1
  clear hA0 hval0 hsz0 hsz
  refine (PHistogramMerges.tilefarmlaw12_HistogramMerges.walk Pure.HistogramMerges a0 len0 cap0 z0 a1 cap1 l1 W w0 y0 hr1 hc1 hm1).mono fun e W' ⟨he, bel⟩ => ?_
  subst he
  exact ⟨_, rfl, _, _, _, [], _, [], hW', trodAll_mk1 (shut_bool Try.underlying4 _), (trodAll_cons_mk (Below.trod laidOut (by kernel_rfl) (of_decide_eq_true (by kernel_rfl)) k0 bel lt0) (trodAll_cons_mk (Below.trod laidOut (by kernel_rfl) (of_decide_eq_true (by kernel_rfl)) k1 bel lt1) trodAll_mk0)), rfl, bel.frame _, fun h => by cases h⟩
theorem over : Rows.histogramMergesRow.holds Try.pinned (OpenSpec.ofChange Rows.histogramMergesSpec) :=
  OpenClaim.holds_of_wide 5 Try.f5 rfl rfl rfl rfl rfl rfl rfl ⟨rfl, rfl, rfl, rfl, rfl⟩ rfl rfl rfl rfl rfl (by kernel_rfl) Try.func5 (by kernel_rfl)
    (of_decide_eq_true (by kernel_rfl)) (by unfold Func.isWrapper; first | (rw [if_pos (by decide +kernel)]; kernel_rfl) | (rw [if_neg (by decide +kernel)]; exact ⟨rfl, rfl⟩))
    (fun os started H enc _ => lifted os started H enc)
theorem proved : Rows.HistogramMergesSaid := over
#print axioms proved
end Go.Proofs.Yticicecobchdiaa.histogramMerges
namespace Go.Proofs.Yticicecobchdiaa
/-- The row, under a short name, for the claim. -/
theorem histogramMerges_holds : Rows.HistogramMergesSaid := histogramMerges.proved
end Go.Proofs.Yticicecobchdiaa

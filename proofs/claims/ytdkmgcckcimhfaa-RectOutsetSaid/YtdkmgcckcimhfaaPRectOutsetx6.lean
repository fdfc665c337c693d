-- Written by a program of the session (wip/tools/myprint.py) over the kit's printer; checked by Lean.
import Derived.Test.YtdkmgcckcimhfaaPRectOutsetx0
import Derived.Test.YtdkmgcckcimhfaaPRectOutsetx1
import Derived.Test.YtdkmgcckcimhfaaPRectOutsetx2
import Derived.Test.YtdkmgcckcimhfaaPRectOutsetx3
import Derived.Test.YtdkmgcckcimhfaaPRectOutsetx4
import Derived.Test.YtdkmgcckcimhfaaPRectOutsetx5
namespace Go.Proofs.Ytdkmgcckcimhfaa.PRectOutset
open Go.RowKit Go.Proofs.YtdkmgcckcimhfaaW.PrintWords Go.Proofs.YtdkmgcckcimhfaaW.PrintLast Go.Proofs.YtdkmgcckcimhfaaW.PrintMore
attribute [local go_sem] max2_int min2_int max_two min_two max_three min_three max_four min_four   -- for this text's walks alone
set_option linter.unusedVariables false
set_option linter.unusedSimpArgs false

attribute [local go_sem high] eqA26
/-! ### tilefarmlaw2_RectOutset: function 5 -/
def tilefarmlaw2_RectOutset.f (k : Nat) (l0 : List Int) : Option (Bool) := (tilefarmgen_New.f l0).bind fun bt180 => ((tilefarmgen_Tape_Within.f bt180.1 bt180.2 20 20).bind fun bt183 => ((tilefarmgen_Tape_Next.f bt180.1 bt183.2.2.2.2 50).bind fun bt189 => ((tilefarmgen_Tape_Next.f bt180.1 bt189.2 50).bind fun bt191 => ((tilefarmgen_Tape_Next.f bt180.1 bt191.2 50).bind fun bt193 => ((tilefarmgen_Tape_Next.f bt180.1 bt193.2 50).bind fun bt195 => ((rect_Outset.f k bt183.1 bt183.2.1 bt183.2.2.1 bt183.2.2.2.1 bt189.1 bt191.1 bt193.1 bt195.1).bind fun bt197 => ((rect_Outset.f k bt197.1 bt197.2.1 bt197.2.2.1 bt197.2.2.2 bt191.1 bt189.1 bt195.1 bt193.1).bind fun bt202 => ((rect_Inside.f k bt183.1 bt183.2.1 bt183.2.2.1 bt183.2.2.2.1 bt197.1 bt197.2.1 bt197.2.2.1 bt197.2.2.2).bind fun t207 => (if t207 = true then ((rect_Area.f bt197.1 bt197.2.1 bt197.2.2.1 bt197.2.2.2).bind fun t208 => (if t208 = (wrap64 ((wrap64 ((wrap64 ((wrap64 (bt183.2.2.1 - bt183.1)) + bt189.1)) + bt193.1)) * (wrap64 ((wrap64 ((wrap64 (bt183.2.2.2.1 - bt183.2.1)) + bt191.1)) + bt195.1)))) then ((rect_Outset.f k bt183.1 bt183.2.1 bt183.2.2.1 bt183.2.2.2.1 (wrap64 (bt189.1 + bt191.1)) (wrap64 (bt189.1 + bt191.1)) (wrap64 (bt193.1 + bt195.1)) (wrap64 (bt193.1 + bt195.1))).bind fun bt209 => (if (bt202.1 == bt209.1 && (bt202.2.1 == bt209.2.1 && (bt202.2.2.1 == bt209.2.2.1 && (bt202.2.2.2 == bt209.2.2.2)))) = true then ((rect_Outset.f k bt183.1 bt183.2.1 bt183.2.2.1 bt183.2.2.2.1 0 0 0 0).bind fun bt213 => (if (bt213.1 == bt183.1 && (bt213.2.1 == bt183.2.1 && (bt213.2.2.1 == bt183.2.2.1 && (bt213.2.2.2 == bt183.2.2.2.1)))) = true then ((tilefarmlaw2_sane.f k).bind fun t217 => (some t217)) else (some false))) else (some false))) else (some false))) else (some false))))))))))
theorem tilefarmlaw2_RectOutset.mono : ∀ a0 k, LeO (tilefarmlaw2_RectOutset.f k a0) (tilefarmlaw2_RectOutset.f (k + 1) a0) := by
  intro a0 k
  unfold tilefarmlaw2_RectOutset.f
  repeat' first
      | (with_reducible exact rect_Inside.mono _ _ _ _ _ _ _ _ _)
      | (with_reducible exact rect_Outset.mono _ _ _ _ _ _ _ _ _)
      | (with_reducible exact tilefarmlaw2_sane.mono _)
      | (with_reducible exact LeO.refl _)
      | (with_reducible exact LeO.none _)
      | (with_reducible refine LeO.ite ?_ ?_)
      | (with_reducible refine LeO.bind ?_ (fun _ => ?_))
      | exact rect_Inside.mono _ _ _ _ _ _ _ _ _
      | exact rect_Outset.mono _ _ _ _ _ _ _ _ _
      | exact tilefarmlaw2_sane.mono _
      | exact LeO.none _
      | refine LeO.ite ?_ ?_
      | refine LeO.bind ?_ (fun _ => ?_)
def tilefarmlaw2_RectOutset.T6 : Bool × List (List Nat × List Nat) := (true, [([], []), ([], []), ([0, 1], [0, 1]), ([2, 2], [2]), ([3], [3]), ([4, 3, 3], [3, 4]), ([3], [3]), ([6, 3], [3, 6]), ([3], [3]), ([8, 3], [3, 8]), ([7, 9, 3], [3, 7, 9]), ([3], [3]), ([10, 11, 3], [3, 10, 11]), ([3], [3]), ([12, 13, 3], [3, 12, 13]), ([3], [3]), ([15, 3], [3, 15]), ([3], [3]), ([17, 3], [3, 17]), ([16, 18, 3], [3, 16, 18]), ([3], [3]), ([19, 20, 3], [3, 19, 20]), ([3], [3]), ([21, 22, 3], [3, 21, 22]), ([14, 23, 3], [3, 14, 23]), ([5, 24, 3], [3, 5, 24]), ([3, 25], [3, 25]), ([26, 5], [26]), ([27], [27]), ([27], [27]), ([27], [27]), ([27], [27]), ([30, 31, 27], [27, 30, 31]), ([27], [27]), ([27], [27]), ([33, 34, 27], [27, 33, 34]), ([27], [27]), ([27], [27]), ([36, 37, 27], [27, 36, 37]), ([27], [27]), ([27], [27]), ([39, 40, 27], [27, 39, 40]), ([29, 32, 35, 38, 41, 27, 27], [27, 29, 32, 35, 38, 41]), ([28, 42, 27], [27, 28, 42]), ([27, 43], [27, 43]), ([44, 42], [44]), ([45], [45]), ([46, 45, 45], [45, 46]), ([45], [45]), ([47, 48, 45], [45, 47, 48]), ([45, 49], [45, 49]), ([50, 47], [50]), ([51, 51], [51]), ([51, 52], [51, 52]), ([53, 52, 0, 1, 2, 3, 4, 5, 6, 7, 8, 9, 10, 11, 12, 13, 14, 15, 16, 17, 18, 19, 20, 21, 22, 23, 24, 25, 26, 27, 28, 29, 30, 31, 32, 33, 34, 35, 36, 37, 38, 39, 40, 41, 42, 43, 44, 45, 46, 47, 48, 49, 50, 51, 52, 53], [53])])
def tilefarmlaw2_RectOutset.B6 : List Nat := [0, 0, 3, 7, 15, 31, 15, 79, 15, 271, 975, 15, 4047, 15, 16335, 15, 32783, 15, 131087, 491535, 15, 2064399, 15, 8355855, 16777167, 33554431, 67108863, 134217727, 268435455, 268435455, 268435455, 268435455, 3489660927, 268435455, 268435455, 26038239231, 268435455, 268435455, 206426865663, 268435455, 268435455, 1649535877119, 4397778075647, 8796093022207, 17592186044415, 35184372088831, 70368744177663, 140737488355327, 70368744177663, 562949953421311, 1125899906842623, 2251799813685247, 4503599627370495, 9007199254740991, 18014398509481983]
theorem tilefarmlaw2_RectOutset.tab6 : rtab .any (opsOf Try.f5 6) = tilefarmlaw2_RectOutset.T6 := by kernel_rfl
theorem tilefarmlaw2_RectOutset.bits6 : waitsOk tilefarmlaw2_RectOutset.T6.2 tilefarmlaw2_RectOutset.B6 = true := by kernel_rfl
set_option maxHeartbeats 8000000 in
set_option maxRecDepth 100000 in
theorem tilefarmlaw2_RectOutset.calls (k : Nat) (A0 : Option Addr) (c0 : Nat) (l0 : List Int) (r : Bool) (w : World) (hr0 : Kd.C (Kd.int .i64) w A0 l0.length l0) (hc0 : l0.length ≤ c0) (h : tilefarmlaw2_RectOutset.f k l0 = some r) (hT : r = true := by first | rfl | assumption) :
    Calls Try.prog 5 #[.slice A0 l0.length c0] w fun e w' => e = .returned (.bool r) ∧ Below w.heap.size w w' := by
  have HT := Aside0.mk hT
  clear hT
  have hu26 := Try.underlying26
  have HR0 := Aside0.mk hr0
  have HC0 := Aside0.mk hc0
  clear hr0 hc0
  have HB := Aside0.mk (Below.refl w.heap.size w)
  have H : ((tilefarmgen_New.f l0).bind fun bt180 => ((tilefarmgen_Tape_Within.f bt180.1 bt180.2 20 20).bind fun bt183 => ((tilefarmgen_Tape_Next.f bt180.1 bt183.2.2.2.2 50).bind fun bt189 => ((tilefarmgen_Tape_Next.f bt180.1 bt189.2 50).bind fun bt191 => ((tilefarmgen_Tape_Next.f bt180.1 bt191.2 50).bind fun bt193 => ((tilefarmgen_Tape_Next.f bt180.1 bt193.2 50).bind fun bt195 => ((rect_Outset.f k bt183.1 bt183.2.1 bt183.2.2.1 bt183.2.2.2.1 bt189.1 bt191.1 bt193.1 bt195.1).bind fun bt197 => ((rect_Outset.f k bt197.1 bt197.2.1 bt197.2.2.1 bt197.2.2.2 bt191.1 bt189.1 bt195.1 bt193.1).bind fun bt202 => ((rect_Inside.f k bt183.1 bt183.2.1 bt183.2.2.1 bt183.2.2.2.1 bt197.1 bt197.2.1 bt197.2.2.1 bt197.2.2.2).bind fun t207 => (if t207 = true then ((rect_Area.f bt197.1 bt197.2.1 bt197.2.2.1 bt197.2.2.2).bind fun t208 => (if t208 = (wrap64 ((wrap64 ((wrap64 ((wrap64 (bt183.2.2.1 - bt183.1)) + bt189.1)) + bt193.1)) * (wrap64 ((wrap64 ((wrap64 (bt183.2.2.2.1 - bt183.2.1)) + bt191.1)) + bt195.1)))) then ((rect_Outset.f k bt183.1 bt183.2.1 bt183.2.2.1 bt183.2.2.2.1 (wrap64 (bt189.1 + bt191.1)) (wrap64 (bt189.1 + bt191.1)) (wrap64 (bt193.1 + bt195.1)) (wrap64 (bt193.1 + bt195.1))).bind fun bt209 => (if (bt202.1 == bt209.1 && (bt202.2.1 == bt209.2.1 && (bt202.2.2.1 == bt209.2.2.1 && (bt202.2.2.2 == bt209.2.2.2)))) = true then ((rect_Outset.f k bt183.1 bt183.2.1 bt183.2.2.1 bt183.2.2.2.1 0 0 0 0).bind fun bt213 => (if (bt213.1 == bt183.1 && (bt213.2.1 == bt183.2.1 && (bt213.2.2.1 == bt183.2.2.1 && (bt213.2.2.2 == bt183.2.2.2.1)))) = true then ((tilefarmlaw2_sane.f k).bind fun t217 => (some t217)) else (some false))) else (some false))) else (some false))) else (some false))))))))))) = some r := h
  clear h
  replace H := Option.bind_eq_some_iff.mp H
  obtain ⟨⟨t180, t181⟩, A20, H⟩ := H
  replace H : ((tilefarmgen_Tape_Within.f t180 t181 20 20).bind fun bt183 => ((tilefarmgen_Tape_Next.f t180 bt183.2.2.2.2 50).bind fun bt189 => ((tilefarmgen_Tape_Next.f t180 bt189.2 50).bind fun bt191 => ((tilefarmgen_Tape_Next.f t180 bt191.2 50).bind fun bt193 => ((tilefarmgen_Tape_Next.f t180 bt193.2 50).bind fun bt195 => ((rect_Outset.f k bt183.1 bt183.2.1 bt183.2.2.1 bt183.2.2.2.1 bt189.1 bt191.1 bt193.1 bt195.1).bind fun bt197 => ((rect_Outset.f k bt197.1 bt197.2.1 bt197.2.2.1 bt197.2.2.2 bt191.1 bt189.1 bt195.1 bt193.1).bind fun bt202 => ((rect_Inside.f k bt183.1 bt183.2.1 bt183.2.2.1 bt183.2.2.2.1 bt197.1 bt197.2.1 bt197.2.2.1 bt197.2.2.2).bind fun t207 => (if t207 = true then ((rect_Area.f bt197.1 bt197.2.1 bt197.2.2.1 bt197.2.2.2).bind fun t208 => (if t208 = (wrap64 ((wrap64 ((wrap64 ((wrap64 (bt183.2.2.1 - bt183.1)) + bt189.1)) + bt193.1)) * (wrap64 ((wrap64 ((wrap64 (bt183.2.2.2.1 - bt183.2.1)) + bt191.1)) + bt195.1)))) then ((rect_Outset.f k bt183.1 bt183.2.1 bt183.2.2.1 bt183.2.2.2.1 (wrap64 (bt189.1 + bt191.1)) (wrap64 (bt189.1 + bt191.1)) (wrap64 (bt193.1 + bt195.1)) (wrap64 (bt193.1 + bt195.1))).bind fun bt209 => (if (bt202.1 == bt209.1 && (bt202.2.1 == bt209.2.1 && (bt202.2.2.1 == bt209.2.2.1 && (bt202.2.2.2 == bt209.2.2.2)))) = true then ((rect_Outset.f k bt183.1 bt183.2.1 bt183.2.2.1 bt183.2.2.2.1 0 0 0 0).bind fun bt213 => (if (bt213.1 == bt183.1 && (bt213.2.1 == bt183.2.1 && (bt213.2.2.1 == bt183.2.2.1 && (bt213.2.2.2 == bt183.2.2.2.1)))) = true then ((tilefarmlaw2_sane.f k).bind fun t217 => (some t217)) else (some false))) else (some false))) else (some false))) else (some false)))))))))) = some r := H
  have A2 := Aside0.mk A20
  clear A20
  replace H := Option.bind_eq_some_iff.mp H
  obtain ⟨⟨t183, t184, t185, t186, t187⟩, A30, H⟩ := H
  replace H : ((tilefarmgen_Tape_Next.f t180 t187 50).bind fun bt189 => ((tilefarmgen_Tape_Next.f t180 bt189.2 50).bind fun bt191 => ((tilefarmgen_Tape_Next.f t180 bt191.2 50).bind fun bt193 => ((tilefarmgen_Tape_Next.f t180 bt193.2 50).bind fun bt195 => ((rect_Outset.f k t183 t184 t185 t186 bt189.1 bt191.1 bt193.1 bt195.1).bind fun bt197 => ((rect_Outset.f k bt197.1 bt197.2.1 bt197.2.2.1 bt197.2.2.2 bt191.1 bt189.1 bt195.1 bt193.1).bind fun bt202 => ((rect_Inside.f k t183 t184 t185 t186 bt197.1 bt197.2.1 bt197.2.2.1 bt197.2.2.2).bind fun t207 => (if t207 = true then ((rect_Area.f bt197.1 bt197.2.1 bt197.2.2.1 bt197.2.2.2).bind fun t208 => (if t208 = (wrap64 ((wrap64 ((wrap64 ((wrap64 (t185 - t183)) + bt189.1)) + bt193.1)) * (wrap64 ((wrap64 ((wrap64 (t186 - t184)) + bt191.1)) + bt195.1)))) then ((rect_Outset.f k t183 t184 t185 t186 (wrap64 (bt189.1 + bt191.1)) (wrap64 (bt189.1 + bt191.1)) (wrap64 (bt193.1 + bt195.1)) (wrap64 (bt193.1 + bt195.1))).bind fun bt209 => (if (bt202.1 == bt209.1 && (bt202.2.1 == bt209.2.1 && (bt202.2.2.1 == bt209.2.2.1 && (bt202.2.2.2 == bt209.2.2.2)))) = true then ((rect_Outset.f k t183 t184 t185 t186 0 0 0 0).bind fun bt213 => (if (bt213.1 == t183 && (bt213.2.1 == t184 && (bt213.2.2.1 == t185 && (bt213.2.2.2 == t186)))) = true then ((tilefarmlaw2_sane.f k).bind fun t217 => (some t217)) else (some false))) else (some false))) else (some false))) else (some false))))))))) = some r := H
  have A3 := Aside0.mk A30
  clear A30
  replace H := Option.bind_eq_some_iff.mp H
  obtain ⟨⟨t189, t190⟩, A40, H⟩ := H
  replace H : ((tilefarmgen_Tape_Next.f t180 t190 50).bind fun bt191 => ((tilefarmgen_Tape_Next.f t180 bt191.2 50).bind fun bt193 => ((tilefarmgen_Tape_Next.f t180 bt193.2 50).bind fun bt195 => ((rect_Outset.f k t183 t184 t185 t186 t189 bt191.1 bt193.1 bt195.1).bind fun bt197 => ((rect_Outset.f k bt197.1 bt197.2.1 bt197.2.2.1 bt197.2.2.2 bt191.1 t189 bt195.1 bt193.1).bind fun bt202 => ((rect_Inside.f k t183 t184 t185 t186 bt197.1 bt197.2.1 bt197.2.2.1 bt197.2.2.2).bind fun t207 => (if t207 = true then ((rect_Area.f bt197.1 bt197.2.1 bt197.2.2.1 bt197.2.2.2).bind fun t208 => (if t208 = (wrap64 ((wrap64 ((wrap64 ((wrap64 (t185 - t183)) + t189)) + bt193.1)) * (wrap64 ((wrap64 ((wrap64 (t186 - t184)) + bt191.1)) + bt195.1)))) then ((rect_Outset.f k t183 t184 t185 t186 (wrap64 (t189 + bt191.1)) (wrap64 (t189 + bt191.1)) (wrap64 (bt193.1 + bt195.1)) (wrap64 (bt193.1 + bt195.1))).bind fun bt209 => (if (bt202.1 == bt209.1 && (bt202.2.1 == bt209.2.1 && (bt202.2.2.1 == bt209.2.2.1 && (bt202.2.2.2 == bt209.2.2.2)))) = true then ((rect_Outset.f k t183 t184 t185 t186 0 0 0 0).bind fun bt213 => (if (bt213.1 == t183 && (bt213.2.1 == t184 && (bt213.2.2.1 == t185 && (bt213.2.2.2 == t186)))) = true then ((tilefarmlaw2_sane.f k).bind fun t217 => (some t217)) else (some false))) else (some false))) else (some false))) else (some false)))))))) = some r := H
  have A4 := Aside0.mk A40
  clear A40
  replace H := Option.bind_eq_some_iff.mp H
  obtain ⟨⟨t191, t192⟩, A50, H⟩ := H
  replace H : ((tilefarmgen_Tape_Next.f t180 t192 50).bind fun bt193 => ((tilefarmgen_Tape_Next.f t180 bt193.2 50).bind fun bt195 => ((rect_Outset.f k t183 t184 t185 t186 t189 t191 bt193.1 bt195.1).bind fun bt197 => ((rect_Outset.f k bt197.1 bt197.2.1 bt197.2.2.1 bt197.2.2.2 t191 t189 bt195.1 bt193.1).bind fun bt202 => ((rect_Inside.f k t183 t184 t185 t186 bt197.1 bt197.2.1 bt197.2.2.1 bt197.2.2.2).bind fun t207 => (if t207 = true then ((rect_Area.f bt197.1 bt197.2.1 bt197.2.2.1 bt197.2.2.2).bind fun t208 => (if t208 = (wrap64 ((wrap64 ((wrap64 ((wrap64 (t185 - t183)) + t189)) + bt193.1)) * (wrap64 ((wrap64 ((wrap64 (t186 - t184)) + t191)) + bt195.1)))) then ((rect_Outset.f k t183 t184 t185 t186 (wrap64 (t189 + t191)) (wrap64 (t189 + t191)) (wrap64 (bt193.1 + bt195.1)) (wrap64 (bt193.1 + bt195.1))).bind fun bt209 => (if (bt202.1 == bt209.1 && (bt202.2.1 == bt209.2.1 && (bt202.2.2.1 == bt209.2.2.1 && (bt202.2.2.2 == bt209.2.2.2)))) = true then ((rect_Outset.f k t183 t184 t185 t186 0 0 0 0).bind fun bt213 => (if (bt213.1 == t183 && (bt213.2.1 == t184 && (bt213.2.2.1 == t185 && (bt213.2.2.2 == t186)))) = true then ((tilefarmlaw2_sane.f k).bind fun t217 => (some t217)) else (some false))) else (some false))) else (some false))) else (some false))))))) = some r := H
  have A5 := Aside0.mk A50
  clear A50
  replace H := Option.bind_eq_some_iff.mp H
  obtain ⟨⟨t193, t194⟩, A60, H⟩ := H
  replace H : ((tilefarmgen_Tape_Next.f t180 t194 50).bind fun bt195 => ((rect_Outset.f k t183 t184 t185 t186 t189 t191 t193 bt195.1).bind fun bt197 => ((rect_Outset.f k bt197.1 bt197.2.1 bt197.2.2.1 bt197.2.2.2 t191 t189 bt195.1 t193).bind fun bt202 => ((rect_Inside.f k t183 t184 t185 t186 bt197.1 bt197.2.1 bt197.2.2.1 bt197.2.2.2).bind fun t207 => (if t207 = true then ((rect_Area.f bt197.1 bt197.2.1 bt197.2.2.1 bt197.2.2.2).bind fun t208 => (if t208 = (wrap64 ((wrap64 ((wrap64 ((wrap64 (t185 - t183)) + t189)) + t193)) * (wrap64 ((wrap64 ((wrap64 (t186 - t184)) + t191)) + bt195.1)))) then ((rect_Outset.f k t183 t184 t185 t186 (wrap64 (t189 + t191)) (wrap64 (t189 + t191)) (wrap64 (t193 + bt195.1)) (wrap64 (t193 + bt195.1))).bind fun bt209 => (if (bt202.1 == bt209.1 && (bt202.2.1 == bt209.2.1 && (bt202.2.2.1 == bt209.2.2.1 && (bt202.2.2.2 == bt209.2.2.2)))) = true then ((rect_Outset.f k t183 t184 t185 t186 0 0 0 0).bind fun bt213 => (if (bt213.1 == t183 && (bt213.2.1 == t184 && (bt213.2.2.1 == t185 && (bt213.2.2.2 == t186)))) = true then ((tilefarmlaw2_sane.f k).bind fun t217 => (some t217)) else (some false))) else (some false))) else (some false))) else (some false)))))) = some r := H
  have A6 := Aside0.mk A60
  clear A60
  replace H := Option.bind_eq_some_iff.mp H
  obtain ⟨⟨t195, t196⟩, A70, H⟩ := H
  replace H : ((rect_Outset.f k t183 t184 t185 t186 t189 t191 t193 t195).bind fun bt197 => ((rect_Outset.f k bt197.1 bt197.2.1 bt197.2.2.1 bt197.2.2.2 t191 t189 t195 t193).bind fun bt202 => ((rect_Inside.f k t183 t184 t185 t186 bt197.1 bt197.2.1 bt197.2.2.1 bt197.2.2.2).bind fun t207 => (if t207 = true then ((rect_Area.f bt197.1 bt197.2.1 bt197.2.2.1 bt197.2.2.2).bind fun t208 => (if t208 = (wrap64 ((wrap64 ((wrap64 ((wrap64 (t185 - t183)) + t189)) + t193)) * (wrap64 ((wrap64 ((wrap64 (t186 - t184)) + t191)) + t195)))) then ((rect_Outset.f k t183 t184 t185 t186 (wrap64 (t189 + t191)) (wrap64 (t189 + t191)) (wrap64 (t193 + t195)) (wrap64 (t193 + t195))).bind fun bt209 => (if (bt202.1 == bt209.1 && (bt202.2.1 == bt209.2.1 && (bt202.2.2.1 == bt209.2.2.1 && (bt202.2.2.2 == bt209.2.2.2)))) = true then ((rect_Outset.f k t183 t184 t185 t186 0 0 0 0).bind fun bt213 => (if (bt213.1 == t183 && (bt213.2.1 == t184 && (bt213.2.2.1 == t185 && (bt213.2.2.2 == t186)))) = true then ((tilefarmlaw2_sane.f k).bind fun t217 => (some t217)) else (some false))) else (some false))) else (some false))) else (some false))))) = some r := H
  have A7 := Aside0.mk A70
  clear A70
  replace H := Option.bind_eq_some_iff.mp H
  obtain ⟨⟨t197, t198, t199, t200⟩, A80, H⟩ := H
  replace H : ((rect_Outset.f k t197 t198 t199 t200 t191 t189 t195 t193).bind fun bt202 => ((rect_Inside.f k t183 t184 t185 t186 t197 t198 t199 t200).bind fun t207 => (if t207 = true then ((rect_Area.f t197 t198 t199 t200).bind fun t208 => (if t208 = (wrap64 ((wrap64 ((wrap64 ((wrap64 (t185 - t183)) + t189)) + t193)) * (wrap64 ((wrap64 ((wrap64 (t186 - t184)) + t191)) + t195)))) then ((rect_Outset.f k t183 t184 t185 t186 (wrap64 (t189 + t191)) (wrap64 (t189 + t191)) (wrap64 (t193 + t195)) (wrap64 (t193 + t195))).bind fun bt209 => (if (bt202.1 == bt209.1 && (bt202.2.1 == bt209.2.1 && (bt202.2.2.1 == bt209.2.2.1 && (bt202.2.2.2 == bt209.2.2.2)))) = true then ((rect_Outset.f k t183 t184 t185 t186 0 0 0 0).bind fun bt213 => (if (bt213.1 == t183 && (bt213.2.1 == t184 && (bt213.2.2.1 == t185 && (bt213.2.2.2 == t186)))) = true then ((tilefarmlaw2_sane.f k).bind fun t217 => (some t217)) else (some false))) else (some false))) else (some false))) else (some false)))) = some r := H
  have A8 := Aside0.mk A80
  clear A80
  replace H := Option.bind_eq_some_iff.mp H
  obtain ⟨⟨t202, t203, t204, t205⟩, A90, H⟩ := H
  replace H : ((rect_Inside.f k t183 t184 t185 t186 t197 t198 t199 t200).bind fun t207 => (if t207 = true then ((rect_Area.f t197 t198 t199 t200).bind fun t208 => (if t208 = (wrap64 ((wrap64 ((wrap64 ((wrap64 (t185 - t183)) + t189)) + t193)) * (wrap64 ((wrap64 ((wrap64 (t186 - t184)) + t191)) + t195)))) then ((rect_Outset.f k t183 t184 t185 t186 (wrap64 (t189 + t191)) (wrap64 (t189 + t191)) (wrap64 (t193 + t195)) (wrap64 (t193 + t195))).bind fun bt209 => (if (t202 == bt209.1 && (t203 == bt209.2.1 && (t204 == bt209.2.2.1 && (t205 == bt209.2.2.2)))) = true then ((rect_Outset.f k t183 t184 t185 t186 0 0 0 0).bind fun bt213 => (if (bt213.1 == t183 && (bt213.2.1 == t184 && (bt213.2.2.1 == t185 && (bt213.2.2.2 == t186)))) = true then ((tilefarmlaw2_sane.f k).bind fun t217 => (some t217)) else (some false))) else (some false))) else (some false))) else (some false))) = some r := H
  have A9 := Aside0.mk A90
  clear A90
  replace H := Option.bind_eq_some_iff.mp H
  obtain ⟨t207, A100, H⟩ := H
  replace H : (if t207 = true then ((rect_Area.f t197 t198 t199 t200).bind fun t208 => (if t208 = (wrap64 ((wrap64 ((wrap64 ((wrap64 (t185 - t183)) + t189)) + t193)) * (wrap64 ((wrap64 ((wrap64 (t186 - t184)) + t191)) + t195)))) then ((rect_Outset.f k t183 t184 t185 t186 (wrap64 (t189 + t191)) (wrap64 (t189 + t191)) (wrap64 (t193 + t195)) (wrap64 (t193 + t195))).bind fun bt209 => (if (t202 == bt209.1 && (t203 == bt209.2.1 && (t204 == bt209.2.2.1 && (t205 == bt209.2.2.2)))) = true then ((rect_Outset.f k t183 t184 t185 t186 0 0 0 0).bind fun bt213 => (if (bt213.1 == t183 && (bt213.2.1 == t184 && (bt213.2.2.1 == t185 && (bt213.2.2.2 == t186)))) = true then ((tilefarmlaw2_sane.f k).bind fun t217 => (some t217)) else (some false))) else (some false))) else (some false))) else (some false)) = some r := H
  have A10 := Aside0.mk A100
  clear A100
  by_cases c11 : t207 = true
  · subst c11
    have H1 : ((rect_Area.f t197 t198 t199 t200).bind fun t208 => (if t208 = (wrap64 ((wrap64 ((wrap64 ((wrap64 (t185 - t183)) + t189)) + t193)) * (wrap64 ((wrap64 ((wrap64 (t186 - t184)) + t191)) + t195)))) then ((rect_Outset.f k t183 t184 t185 t186 (wrap64 (t189 + t191)) (wrap64 (t189 + t191)) (wrap64 (t193 + t195)) (wrap64 (t193 + t195))).bind fun bt209 => (if (t202 == bt209.1 && (t203 == bt209.2.1 && (t204 == bt209.2.2.1 && (t205 == bt209.2.2.2)))) = true then ((rect_Outset.f k t183 t184 t185 t186 0 0 0 0).bind fun bt213 => (if (bt213.1 == t183 && (bt213.2.1 == t184 && (bt213.2.2.1 == t185 && (bt213.2.2.2 == t186)))) = true then ((tilefarmlaw2_sane.f k).bind fun t217 => (some t217)) else (some false))) else (some false))) else (some false))) = some r := by rw [if_pos rfl] at H; exact H
    clear H
    have H := H1
    clear H1
    replace H := Option.bind_eq_some_iff.mp H
    obtain ⟨t208, A120, H⟩ := H
    replace H : (if t208 = (wrap64 ((wrap64 ((wrap64 ((wrap64 (t185 - t183)) + t189)) + t193)) * (wrap64 ((wrap64 ((wrap64 (t186 - t184)) + t191)) + t195)))) then ((rect_Outset.f k t183 t184 t185 t186 (wrap64 (t189 + t191)) (wrap64 (t189 + t191)) (wrap64 (t193 + t195)) (wrap64 (t193 + t195))).bind fun bt209 => (if (t202 == bt209.1 && (t203 == bt209.2.1 && (t204 == bt209.2.2.1 && (t205 == bt209.2.2.2)))) = true then ((rect_Outset.f k t183 t184 t185 t186 0 0 0 0).bind fun bt213 => (if (bt213.1 == t183 && (bt213.2.1 == t184 && (bt213.2.2.1 == t185 && (bt213.2.2.2 == t186)))) = true then ((tilefarmlaw2_sane.f k).bind fun t217 => (some t217)) else (some false))) else (some false))) else (some false)) = some r := H
    have A12 := Aside0.mk A120
    clear A120
    by_cases c13 : t208 = (wrap64 ((wrap64 ((wrap64 ((wrap64 (t185 - t183)) + t189)) + t193)) * (wrap64 ((wrap64 ((wrap64 (t186 - t184)) + t191)) + t195))))
    · rw [if_pos c13] at H
      have c13b0 : (t208 == (wrap64 ((wrap64 ((wrap64 ((wrap64 (t185 - t183)) + t189)) + t193)) * (wrap64 ((wrap64 ((wrap64 (t186 - t184)) + t191)) + t195))))) = true := beq_iff_eq.mpr c13
      have c13b1 : (t208 != (wrap64 ((wrap64 ((wrap64 ((wrap64 (t185 - t183)) + t189)) + t193)) * (wrap64 ((wrap64 ((wrap64 (t186 - t184)) + t191)) + t195))))) = false := bne_eq_false_iff_eq.mpr c13
      clear c13
      replace H := Option.bind_eq_some_iff.mp H
      obtain ⟨⟨t209, t210, t211, t212⟩, A140, H⟩ := H
      replace H : (if (t202 == t209 && (t203 == t210 && (t204 == t211 && (t205 == t212)))) = true then ((rect_Outset.f k t183 t184 t185 t186 0 0 0 0).bind fun bt213 => (if (bt213.1 == t183 && (bt213.2.1 == t184 && (bt213.2.2.1 == t185 && (bt213.2.2.2 == t186)))) = true then ((tilefarmlaw2_sane.f k).bind fun t217 => (some t217)) else (some false))) else (some false)) = some r := H
      have A14 := Aside0.mk A140
      clear A140
      by_cases c15 : (t202 == t209 && (t203 == t210 && (t204 == t211 && (t205 == t212)))) = true
      · rw [if_pos c15] at H
        have c15b0 : (t202 == t209 && (t203 == t210 && (t204 == t211 && (t205 == t212)))) = true := c15
        (try (have c15b1 : decide (t202 = t209 && (t203 == t210 && (t204 == t211 && (t205 == t212)))) = true := by simpa using c15))
        (try (have c15b2 : (t202 == t209 && (t203 == t210 && (t204 == t211 && (t205 == t212)))) = true := by simpa using c15))
        clear c15
        replace H := Option.bind_eq_some_iff.mp H
        obtain ⟨⟨t213, t214, t215, t216⟩, A160, H⟩ := H
        replace H : (if (t213 == t183 && (t214 == t184 && (t215 == t185 && (t216 == t186)))) = true then ((tilefarmlaw2_sane.f k).bind fun t217 => (some t217)) else (some false)) = some r := H
        have A16 := Aside0.mk A160
        clear A160
        by_cases c17 : (t213 == t183 && (t214 == t184 && (t215 == t185 && (t216 == t186)))) = true
        · rw [if_pos c17] at H
          have c17b0 : (t213 == t183 && (t214 == t184 && (t215 == t185 && (t216 == t186)))) = true := c17
          (try (have c17b1 : decide (t213 = t183 && (t214 == t184 && (t215 == t185 && (t216 == t186)))) = true := by simpa using c17))
          (try (have c17b2 : (t213 == t183 && (t214 == t184 && (t215 == t185 && (t216 == t186)))) = true := by simpa using c17))
          clear c17
          replace H := Option.bind_eq_some_iff.mp H
          obtain ⟨t217, A180, H⟩ := H
          replace H : (some t217) = some r := H
          have A18 := Aside0.mk A180
          clear A180
          obtain rfl := Option.some.inj H
          go_enter Try.func5, Try.ntmps5
          try go_wp2_with (first | ((with_reducible refine gate_callee (f := 7) rfl ?_); refine goesL_ (some 12) rfl rfl Try.func7 (by kernel_rfl) rfl #[.slice A0 l0.length c0] rfl (by (try simp only [List.map_toArray, List.map_cons, List.map_nil]); first | done | rfl | (simp only [List.length_drop, List.length_take]; rfl)) ?_; (with_reducible refine (tilefarmgen_New.calls _ _ l0 t180 t181 w _ ?side1 ?side2 ?side3 A2.out).mono ?_); (case side1 => repeat (first | (with_reducible first | exact HB.out | apply below_alloc | apply pw_below_drewN | apply below_drew1) | exact HB.out)); (case side2 => exact HR0.out); (case side3 => exact HC0.out); rintro e w19 ⟨g182, rfl, hi, hb, hb2⟩; refine ⟨_, rfl, ?_⟩; have n0_ := Aside0.mk (hb); have n1_ := Aside0.mk (hi); clear HB; have HB := n0_; have HI182 := n1_; clear n0_ n1_; (try clear hb); (try clear hb2); (try clear hk); (try clear hi)) | ((with_reducible refine gate_callee (f := 18) rfl ?_); refine goesL_ (some 14) rfl rfl Try.func18 (by kernel_rfl) rfl #[.pointer (some ⟨g182, 0, none⟩), .int .i64 20, .int .i64 20] rfl (by (try simp only [List.map_toArray, List.map_cons, List.map_nil]); first | done | rfl | (simp only [List.length_drop, List.length_take]; rfl)) ?_; (with_reducible refine (tilefarmgen_Tape_Within.calls g182 t180 t181 20 20 t183 t184 t185 t186 t187 w _ ?side1 ?side2 A3.out).mono ?_); (case side1 => repeat (first | (with_reducible first | exact HI182.out | apply IsS46.alloc | apply IsS46.drewN | apply IsS46.drew | apply IsS46.set_1) | exact HI182.out)); (case side2 => repeat (first | (with_reducible first | exact HB.out | apply below_alloc | apply pw_below_drewN | apply below_drew1 | refine below_set ?_ (IsS46.ge HI182.out)) | exact HB.out)); rintro e w20 ⟨rfl, hi, hb, hk⟩; refine ⟨_, rfl, ?_⟩; have n0_ := Aside0.mk (hb); have n1_ := Aside0.mk (hi); clear HB; clear HI182; have HB := n0_; have HI182 := n1_; clear n0_ n1_; (try clear hb); (try clear hb2); (try clear hk); (try clear hi)) | ((with_reducible refine gate_dst (N := 4) rfl ?_); refine box_event ?hg (N := 4) ?hd (cs := #[.int .i64 0, .int .i64 0, .int .i64 0, .int .i64 0]) (t := 26) ?hr ?_; (case hd => rfl); (case hg => rfl); (case hr => first | (go_simp; done) | (go_simp; rfl)); intro gb188 hg w21 hbox hb; have n0_ := Aside0.mk (IsS46.below (by repeat (first | (with_reducible first | exact HI182.out | apply IsS46.alloc | apply IsS46.drewN | apply IsS46.drew | apply IsS46.set_1) | exact HI182.out)) hb); have n1_ := Aside0.mk (below_step (by repeat (first | (with_reducible first | exact HB.out | apply below_alloc | apply pw_below_drewN | apply below_drew1 | refine below_set ?_ (IsS46.ge HI182.out)) | exact HB.out)) hb); have n2_ := Aside0.mk (hbox); have n3_ := Aside0.mk ((by rw [hg]; exact (below_size (by repeat (first | (with_reducible first | exact HB.out | apply below_alloc | apply pw_below_drewN | apply below_drew1 | refine below_set ?_ (IsS46.ge HI182.out)) | exact HB.out))) : w.heap.size ≤ gb188)); have n4_ := Aside0.mk ((by rw [hg]; exact (below_size (by repeat (first | (with_reducible first | exact HB.out | apply below_alloc | apply pw_below_drewN | apply below_drew1 | refine below_set ?_ (IsS46.ge HI182.out)) | exact HB.out))) : w.heap.size ≤ gb188)); have n5_ := Aside0.mk ((by rw [hg]; exact Nat.ne_of_lt (IsS46.lt (show IsS46 w _ g182 t180 t187 from by repeat (first | (with_reducible first | exact HI182.out | apply IsS46.alloc | apply IsS46.drewN | apply IsS46.drew | apply IsS46.set_1) | exact HI182.out))) : g182 ≠ gb188)); have n6_ := Aside0.mk ((by rw [hg]; exact Nat.ne_of_gt (IsS46.lt (show IsS46 w _ g182 t180 t187 from by repeat (first | (with_reducible first | exact HI182.out | apply IsS46.alloc | apply IsS46.drewN | apply IsS46.drew | apply IsS46.set_1) | exact HI182.out))) : gb188 ≠ g182)); clear HI182; clear HB; have HI182 := n0_; have HB := n1_; have BK188 := n2_; have GW188 := n3_; have GE188 := n4_; have NB182_188 := n5_; have NB188_182 := n6_; clear n0_ n1_ n2_ n3_ n4_ n5_ n6_; clear hb hbox hg; have hnb22 := NB188_182.out; have hnc22 := NB182_188.out; have hcz23_0 : w21.cell? ⟨gb188, 0, none⟩ = some (.int .i64 0) := (blk_cell BK188.out 0).trans rfl; have hcz23_1 : w21.cell? ⟨gb188, 1, none⟩ = some (.int .i64 0) := (blk_cell BK188.out 1).trans rfl; have hcz23_2 : w21.cell? ⟨gb188, 2, none⟩ = some (.int .i64 0) := (blk_cell BK188.out 2).trans rfl; have hcz23_3 : w21.cell? ⟨gb188, 3, none⟩ = some (.int .i64 0) := (blk_cell BK188.out 3).trans rfl; have hfz23_0 := blk_frozen BK188.out 0; have hfz23_1 := blk_frozen BK188.out 1; have hfz23_2 := blk_frozen BK188.out 2; have hfz23_3 := blk_frozen BK188.out 3) | ((with_reducible refine gate_callee (f := 19) rfl ?_); refine goesL_ (some 16) rfl rfl Try.func19 (by kernel_rfl) rfl #[.pointer (some ⟨g182, 0, none⟩), .int .i64 50] rfl (by (try simp only [List.map_toArray, List.map_cons, List.map_nil]); first | done | rfl | (simp only [List.length_drop, List.length_take]; rfl)) ?_; (with_reducible refine (tilefarmgen_Tape_Next.calls g182 t180 t187 50 t189 t190 w _ ?side1 ?side2 A4.out).mono ?_); (case side1 => repeat (first | (with_reducible first | exact HI182.out | apply IsS46.alloc | apply IsS46.drewN | apply IsS46.drew | apply IsS46.set_1 | refine IsS46.far ?_ NB182_188.out _) | exact HI182.out)); (case side2 => repeat (first | (with_reducible first | exact HB.out | apply below_alloc | apply pw_below_drewN | apply below_drew1 | refine below_set ?_ (IsS46.ge HI182.out) | refine below_set ?_ GE188.out) | exact HB.out)); rintro e w24 ⟨rfl, hi, hb, hk⟩; refine ⟨_, rfl, ?_⟩; have n0_ := Aside0.mk (KeepBut.blk hk (g' := gb188) (o := .cells #[.int .i64 t183, .int .i64 t184, .int .i64 t185, .int .i64 t186] 26 (0, 0)) (by (with_reducible repeat (first | refine blk_drewN ?_ _ | refine blk_drew ?_ | refine blk_alloc ?_ _)); refine blk_put (cs := #[.int .i64 t183, .int .i64 t184, .int .i64 t185, .int .i64 0]) ?_ 3 _ rfl; (with_reducible repeat (first | refine blk_drewN ?_ _ | refine blk_drew ?_ | refine blk_alloc ?_ _)); refine blk_put (cs := #[.int .i64 t183, .int .i64 t184, .int .i64 0, .int .i64 0]) ?_ 2 _ rfl; (with_reducible repeat (first | refine blk_drewN ?_ _ | refine blk_drew ?_ | refine blk_alloc ?_ _)); refine blk_put (cs := #[.int .i64 t183, .int .i64 0, .int .i64 0, .int .i64 0]) ?_ 1 _ rfl; (with_reducible repeat (first | refine blk_drewN ?_ _ | refine blk_drew ?_ | refine blk_alloc ?_ _)); refine blk_put (cs := #[.int .i64 0, .int .i64 0, .int .i64 0, .int .i64 0]) ?_ 0 _ rfl; (with_reducible repeat (first | refine blk_drewN ?_ _ | refine blk_drew ?_ | refine blk_alloc ?_ _)); exact BK188.out) NB188_182.out (by simp)); have n1_ := Aside0.mk (hb); have n2_ := Aside0.mk (hi); clear BK188; clear HB; clear HI182; have BK188 := n0_; have HB := n1_; have HI182 := n2_; clear n0_ n1_ n2_; (try clear hb); (try clear hb2); (try clear hk); (try clear hi)) | ((with_reducible refine gate_callee (f := 19) rfl ?_); refine goesL_ (some 18) rfl rfl Try.func19 (by kernel_rfl) rfl #[.pointer (some ⟨g182, 0, none⟩), .int .i64 50] rfl (by (try simp only [List.map_toArray, List.map_cons, List.map_nil]); first | done | rfl | (simp only [List.length_drop, List.length_take]; rfl)) ?_; (with_reducible refine (tilefarmgen_Tape_Next.calls g182 t180 t190 50 t191 t192 w _ ?side1 ?side2 A5.out).mono ?_); (case side1 => repeat (first | (with_reducible first | exact HI182.out | apply IsS46.alloc | apply IsS46.drewN | apply IsS46.drew | apply IsS46.set_1 | refine IsS46.far ?_ NB182_188.out _) | exact HI182.out)); (case side2 => repeat (first | (with_reducible first | exact HB.out | apply below_alloc | apply pw_below_drewN | apply below_drew1 | refine below_set ?_ (IsS46.ge HI182.out) | refine below_set ?_ GE188.out) | exact HB.out)); rintro e w25 ⟨rfl, hi, hb, hk⟩; refine ⟨_, rfl, ?_⟩; have n0_ := Aside0.mk (KeepBut.blk hk (g' := gb188) (o := .cells #[.int .i64 t183, .int .i64 t184, .int .i64 t185, .int .i64 t186] 26 (0, 0)) (by (with_reducible repeat (first | refine blk_drewN ?_ _ | refine blk_drew ?_ | refine blk_alloc ?_ _)); exact BK188.out) NB188_182.out (by simp)); have n1_ := Aside0.mk (hb); have n2_ := Aside0.mk (hi); clear BK188; clear HB; clear HI182; have BK188 := n0_; have HB := n1_; have HI182 := n2_; clear n0_ n1_ n2_; (try clear hb); (try clear hb2); (try clear hk); (try clear hi)) | ((with_reducible refine gate_callee (f := 19) rfl ?_); refine goesL_ (some 20) rfl rfl Try.func19 (by kernel_rfl) rfl #[.pointer (some ⟨g182, 0, none⟩), .int .i64 50] rfl (by (try simp only [List.map_toArray, List.map_cons, List.map_nil]); first | done | rfl | (simp only [List.length_drop, List.length_take]; rfl)) ?_; (with_reducible refine (tilefarmgen_Tape_Next.calls g182 t180 t192 50 t193 t194 w _ ?side1 ?side2 A6.out).mono ?_); (case side1 => repeat (first | (with_reducible first | exact HI182.out | apply IsS46.alloc | apply IsS46.drewN | apply IsS46.drew | apply IsS46.set_1 | refine IsS46.far ?_ NB182_188.out _) | exact HI182.out)); (case side2 => repeat (first | (with_reducible first | exact HB.out | apply below_alloc | apply pw_below_drewN | apply below_drew1 | refine below_set ?_ (IsS46.ge HI182.out) | refine below_set ?_ GE188.out) | exact HB.out)); rintro e w26 ⟨rfl, hi, hb, hk⟩; refine ⟨_, rfl, ?_⟩; have n0_ := Aside0.mk (KeepBut.blk hk (g' := gb188) (o := .cells #[.int .i64 t183, .int .i64 t184, .int .i64 t185, .int .i64 t186] 26 (0, 0)) (by (with_reducible repeat (first | refine blk_drewN ?_ _ | refine blk_drew ?_ | refine blk_alloc ?_ _)); exact BK188.out) NB188_182.out (by simp)); have n1_ := Aside0.mk (hb); have n2_ := Aside0.mk (hi); clear BK188; clear HB; clear HI182; have BK188 := n0_; have HB := n1_; have HI182 := n2_; clear n0_ n1_ n2_; (try clear hb); (try clear hb2); (try clear hk); (try clear hi)) | ((with_reducible refine gate_callee (f := 19) rfl ?_); refine goesL_ (some 22) rfl rfl Try.func19 (by kernel_rfl) rfl #[.pointer (some ⟨g182, 0, none⟩), .int .i64 50] rfl (by (try simp only [List.map_toArray, List.map_cons, List.map_nil]); first | done | rfl | (simp only [List.length_drop, List.length_take]; rfl)) ?_; (with_reducible refine (tilefarmgen_Tape_Next.calls g182 t180 t194 50 t195 t196 w _ ?side1 ?side2 A7.out).mono ?_); (case side1 => repeat (first | (with_reducible first | exact HI182.out | apply IsS46.alloc | apply IsS46.drewN | apply IsS46.drew | apply IsS46.set_1 | refine IsS46.far ?_ NB182_188.out _) | exact HI182.out)); (case side2 => repeat (first | (with_reducible first | exact HB.out | apply below_alloc | apply pw_below_drewN | apply below_drew1 | refine below_set ?_ (IsS46.ge HI182.out) | refine below_set ?_ GE188.out) | exact HB.out)); rintro e w27 ⟨rfl, hi, hb, hk⟩; refine ⟨_, rfl, ?_⟩; have n0_ := Aside0.mk (KeepBut.blk hk (g' := gb188) (o := .cells #[.int .i64 t183, .int .i64 t184, .int .i64 t185, .int .i64 t186] 26 (0, 0)) (by (with_reducible repeat (first | refine blk_drewN ?_ _ | refine blk_drew ?_ | refine blk_alloc ?_ _)); exact BK188.out) NB188_182.out (by simp)); have n1_ := Aside0.mk (hb); have n2_ := Aside0.mk (hi); clear BK188; clear HB; clear HI182; have BK188 := n0_; have HB := n1_; have HI182 := n2_; clear n0_ n1_ n2_; (try clear hb); (try clear hb2); (try clear hk); (try clear hi); have hcz28_0 : w27.cell? ⟨gb188, 0, none⟩ = some (.int .i64 t183) := (blk_cell BK188.out 0).trans rfl; have hcz28_1 : w27.cell? ⟨gb188, 1, none⟩ = some (.int .i64 t184) := (blk_cell BK188.out 1).trans rfl; have hcz28_2 : w27.cell? ⟨gb188, 2, none⟩ = some (.int .i64 t185) := (blk_cell BK188.out 2).trans rfl; have hcz28_3 : w27.cell? ⟨gb188, 3, none⟩ = some (.int .i64 t186) := (blk_cell BK188.out 3).trans rfl; have hfz28_0 := blk_frozen BK188.out 0; have hfz28_1 := blk_frozen BK188.out 1; have hfz28_2 := blk_frozen BK188.out 2; have hfz28_3 := blk_frozen BK188.out 3) | ((with_reducible refine gate_callee (f := 20) rfl ?_); refine goesL_ (some 28) rfl rfl Try.func20 (by kernel_rfl) rfl #[.agg #[.int .i64 t183, .int .i64 t184, .int .i64 t185, .int .i64 t186], .int .i64 t189, .int .i64 t191, .int .i64 t193, .int .i64 t195] rfl (by (try simp only [List.map_toArray, List.map_cons, List.map_nil]); first | done | rfl | (simp only [List.length_drop, List.length_take]; rfl)) ?_; (with_reducible refine (rect_Outset.calls k t183 t184 t185 t186 t189 t191 t193 t195 t197 t198 t199 t200 _ A8.out).mono ?_); rintro e w29 ⟨rfl, hb⟩; refine ⟨_, rfl, ?_⟩; have n0_ := Aside0.mk (IsS46.below (by repeat (first | (with_reducible first | exact HI182.out | apply IsS46.alloc | apply IsS46.drewN | apply IsS46.drew | apply IsS46.set_1 | refine IsS46.far ?_ NB182_188.out _) | exact HI182.out)) hb); have n1_ := Aside0.mk (blk_below (g := gb188) (o := .cells #[.int .i64 t183, .int .i64 t184, .int .i64 t185, .int .i64 t186] 26 (0, 0)) (by (with_reducible repeat (first | refine blk_drewN ?_ _ | refine blk_drew ?_ | refine blk_alloc ?_ _)); exact BK188.out) hb); have n2_ := Aside0.mk (below_step (by repeat (first | (with_reducible first | exact HB.out | apply below_alloc | apply pw_below_drewN | apply below_drew1 | refine below_set ?_ (IsS46.ge HI182.out) | refine below_set ?_ GE188.out) | exact HB.out)) hb); clear HI182; clear BK188; clear HB; have HI182 := n0_; have BK188 := n1_; have HB := n2_; clear n0_ n1_ n2_; (try clear hb); (try clear hb2); (try clear hk); (try clear hi)) | ((with_reducible refine gate_dst (N := 9) rfl ?_); refine box_event ?hg (N := 9) ?hd (cs := #[.int .i64 0, .int .i64 0, .int .i64 0, .int .i64 0]) (t := 26) ?hr ?_; (case hd => rfl); (case hg => rfl); (case hr => first | (go_simp; done) | (go_simp; rfl)); intro gb201 hg w30 hbox hb; have n0_ := Aside0.mk (IsS46.below (by repeat (first | (with_reducible first | exact HI182.out | apply IsS46.alloc | apply IsS46.drewN | apply IsS46.drew | apply IsS46.set_1 | refine IsS46.far ?_ NB182_188.out _) | exact HI182.out)) hb); have n1_ := Aside0.mk (blk_below (g := gb188) (o := .cells #[.int .i64 t183, .int .i64 t184, .int .i64 t185, .int .i64 t186] 26 (0, 0)) (by (with_reducible repeat (first | refine blk_drewN ?_ _ | refine blk_drew ?_ | refine blk_alloc ?_ _)); exact BK188.out) hb); have n2_ := Aside0.mk (below_step (by repeat (first | (with_reducible first | exact HB.out | apply below_alloc | apply pw_below_drewN | apply below_drew1 | refine below_set ?_ (IsS46.ge HI182.out) | refine below_set ?_ GE188.out) | exact HB.out)) hb); have n3_ := Aside0.mk (hbox); have n4_ := Aside0.mk ((by rw [hg]; exact (below_size (by repeat (first | (with_reducible first | exact HB.out | apply below_alloc | apply pw_below_drewN | apply below_drew1 | refine below_set ?_ (IsS46.ge HI182.out) | refine below_set ?_ GE188.out) | exact HB.out))) : w.heap.size ≤ gb201)); have n5_ := Aside0.mk ((by rw [hg]; exact (below_size (by repeat (first | (with_reducible first | exact HB.out | apply below_alloc | apply pw_below_drewN | apply below_drew1 | refine below_set ?_ (IsS46.ge HI182.out) | refine below_set ?_ GE188.out) | exact HB.out))) : w.heap.size ≤ gb201)); have n6_ := Aside0.mk ((by rw [hg]; exact Nat.ne_of_lt (blk_lt (g := gb188) (o := .cells #[.int .i64 t183, .int .i64 t184, .int .i64 t185, .int .i64 t186] 26 (0, 0)) (by (with_reducible repeat (first | refine blk_drewN ?_ _ | refine blk_drew ?_ | refine blk_alloc ?_ _)); exact BK188.out)) : gb188 ≠ gb201)); have n7_ := Aside0.mk ((by rw [hg]; exact Nat.ne_of_gt (blk_lt (g := gb188) (o := .cells #[.int .i64 t183, .int .i64 t184, .int .i64 t185, .int .i64 t186] 26 (0, 0)) (by (with_reducible repeat (first | refine blk_drewN ?_ _ | refine blk_drew ?_ | refine blk_alloc ?_ _)); exact BK188.out)) : gb201 ≠ gb188)); have n8_ := Aside0.mk ((by rw [hg]; exact Nat.ne_of_lt (IsS46.lt (show IsS46 w _ g182 t180 t196 from by repeat (first | (with_reducible first | exact HI182.out | apply IsS46.alloc | apply IsS46.drewN | apply IsS46.drew | apply IsS46.set_1 | refine IsS46.far ?_ NB182_188.out _) | exact HI182.out))) : g182 ≠ gb201)); have n9_ := Aside0.mk ((by rw [hg]; exact Nat.ne_of_gt (IsS46.lt (show IsS46 w _ g182 t180 t196 from by repeat (first | (with_reducible first | exact HI182.out | apply IsS46.alloc | apply IsS46.drewN | apply IsS46.drew | apply IsS46.set_1 | refine IsS46.far ?_ NB182_188.out _) | exact HI182.out))) : gb201 ≠ g182)); clear HI182; clear BK188; clear HB; have HI182 := n0_; have BK188 := n1_; have HB := n2_; have BK201 := n3_; have GW201 := n4_; have GE201 := n5_; have NB188_201 := n6_; have NB201_188 := n7_; have NB182_201 := n8_; have NB201_182 := n9_; clear n0_ n1_ n2_ n3_ n4_ n5_ n6_ n7_ n8_ n9_; clear hb hbox hg; have hnb31 := NB201_188.out; have hnc31 := NB188_201.out; have hnb32 := NB201_182.out; have hnc32 := NB182_201.out; have hcz33_0 : w30.cell? ⟨gb201, 0, none⟩ = some (.int .i64 0) := (blk_cell BK201.out 0).trans rfl; have hcz33_1 : w30.cell? ⟨gb201, 1, none⟩ = some (.int .i64 0) := (blk_cell BK201.out 1).trans rfl; have hcz33_2 : w30.cell? ⟨gb201, 2, none⟩ = some (.int .i64 0) := (blk_cell BK201.out 2).trans rfl; have hcz33_3 : w30.cell? ⟨gb201, 3, none⟩ = some (.int .i64 0) := (blk_cell BK201.out 3).trans rfl; have hfz33_0 := blk_frozen BK201.out 0; have hfz33_1 := blk_frozen BK201.out 1; have hfz33_2 := blk_frozen BK201.out 2; have hfz33_3 := blk_frozen BK201.out 3) | ((with_reducible refine gate_callee (f := 20) rfl ?_); refine goesL_ (some 34) rfl rfl Try.func20 (by kernel_rfl) rfl #[.agg #[.int .i64 t197, .int .i64 t198, .int .i64 t199, .int .i64 t200], .int .i64 t191, .int .i64 t189, .int .i64 t195, .int .i64 t193] rfl (by (try simp only [List.map_toArray, List.map_cons, List.map_nil]); first | done | rfl | (simp only [List.length_drop, List.length_take]; rfl)) ?_; (with_reducible refine (rect_Outset.calls k t197 t198 t199 t200 t191 t189 t195 t193 t202 t203 t204 t205 _ A9.out).mono ?_); rintro e w34 ⟨rfl, hb⟩; refine ⟨_, rfl, ?_⟩; have n0_ := Aside0.mk (IsS46.below (show IsS46 w ((((w30.setCell ⟨gb201, 0, none⟩ (.int .i64 t197)).setCell ⟨gb201, 1, none⟩ (.int .i64 t198)).setCell ⟨gb201, 2, none⟩ (.int .i64 t199)).setCell ⟨gb201, 3, none⟩ (.int .i64 t200)) g182 t180 t196 from by repeat (first | (with_reducible first | exact HI182.out | apply IsS46.alloc | apply IsS46.drewN | apply IsS46.drew | apply IsS46.set_1 | refine IsS46.far ?_ NB182_188.out _ | refine IsS46.far ?_ NB182_201.out _) | exact HI182.out)) hb); have n1_ := Aside0.mk (blk_below (g := gb188) (o := .cells #[.int .i64 t183, .int .i64 t184, .int .i64 t185, .int .i64 t186] 26 (0, 0)) (by (with_reducible repeat (first | refine blk_drewN ?_ _ | refine blk_drew ?_ | refine blk_alloc ?_ _)); refine blk_far ?_ NB188_201.out _; (with_reducible repeat (first | refine blk_drewN ?_ _ | refine blk_drew ?_ | refine blk_alloc ?_ _)); refine blk_far ?_ NB188_201.out _; (with_reducible repeat (first | refine blk_drewN ?_ _ | refine blk_drew ?_ | refine blk_alloc ?_ _)); refine blk_far ?_ NB188_201.out _; (with_reducible repeat (first | refine blk_drewN ?_ _ | refine blk_drew ?_ | refine blk_alloc ?_ _)); refine blk_far ?_ NB188_201.out _; (with_reducible repeat (first | refine blk_drewN ?_ _ | refine blk_drew ?_ | refine blk_alloc ?_ _)); exact BK188.out) hb); have n2_ := Aside0.mk (blk_below (g := gb201) (o := .cells #[.int .i64 t197, .int .i64 t198, .int .i64 t199, .int .i64 t200] 26 (0, 0)) (by (with_reducible repeat (first | refine blk_drewN ?_ _ | refine blk_drew ?_ | refine blk_alloc ?_ _)); refine blk_put (cs := #[.int .i64 t197, .int .i64 t198, .int .i64 t199, .int .i64 0]) ?_ 3 _ rfl; (with_reducible repeat (first | refine blk_drewN ?_ _ | refine blk_drew ?_ | refine blk_alloc ?_ _)); refine blk_put (cs := #[.int .i64 t197, .int .i64 t198, .int .i64 0, .int .i64 0]) ?_ 2 _ rfl; (with_reducible repeat (first | refine blk_drewN ?_ _ | refine blk_drew ?_ | refine blk_alloc ?_ _)); refine blk_put (cs := #[.int .i64 t197, .int .i64 0, .int .i64 0, .int .i64 0]) ?_ 1 _ rfl; (with_reducible repeat (first | refine blk_drewN ?_ _ | refine blk_drew ?_ | refine blk_alloc ?_ _)); refine blk_put (cs := #[.int .i64 0, .int .i64 0, .int .i64 0, .int .i64 0]) ?_ 0 _ rfl; (with_reducible repeat (first | refine blk_drewN ?_ _ | refine blk_drew ?_ | refine blk_alloc ?_ _)); exact BK201.out) hb); have n3_ := Aside0.mk (below_step (by repeat (first | (with_reducible first | exact HB.out | apply below_alloc | apply pw_below_drewN | apply below_drew1 | refine below_set ?_ (IsS46.ge HI182.out) | refine below_set ?_ GE188.out | refine below_set ?_ GE201.out) | exact HB.out)) hb); clear HI182; clear BK188; clear BK201; clear HB; have HI182 := n0_; have BK188 := n1_; have BK201 := n2_; have HB := n3_; clear n0_ n1_ n2_ n3_; (try clear hb); (try clear hb2); (try clear hk); (try clear hi)) | ((with_reducible refine gate_dst (N := 10) rfl ?_); refine box_event ?hg (N := 10) ?hd (cs := #[.int .i64 0, .int .i64 0, .int .i64 0, .int .i64 0]) (t := 26) ?hr ?_; (case hd => rfl); (case hg => rfl); (case hr => first | (go_simp; done) | (go_simp; rfl)); intro gb206 hg w35 hbox hb; have n0_ := Aside0.mk (IsS46.below (by repeat (first | (with_reducible first | exact HI182.out | apply IsS46.alloc | apply IsS46.drewN | apply IsS46.drew | apply IsS46.set_1 | refine IsS46.far ?_ NB182_188.out _ | refine IsS46.far ?_ NB182_201.out _) | exact HI182.out)) hb); have n1_ := Aside0.mk (blk_below (g := gb188) (o := .cells #[.int .i64 t183, .int .i64 t184, .int .i64 t185, .int .i64 t186] 26 (0, 0)) (by (with_reducible repeat (first | refine blk_drewN ?_ _ | refine blk_drew ?_ | refine blk_alloc ?_ _)); exact BK188.out) hb); have n2_ := Aside0.mk (blk_below (g := gb201) (o := .cells #[.int .i64 t197, .int .i64 t198, .int .i64 t199, .int .i64 t200] 26 (0, 0)) (by (with_reducible repeat (first | refine blk_drewN ?_ _ | refine blk_drew ?_ | refine blk_alloc ?_ _)); exact BK201.out) hb); have n3_ := Aside0.mk (below_step (by repeat (first | (with_reducible first | exact HB.out | apply below_alloc | apply pw_below_drewN | apply below_drew1 | refine below_set ?_ (IsS46.ge HI182.out) | refine below_set ?_ GE188.out | refine below_set ?_ GE201.out) | exact HB.out)) hb); have n4_ := Aside0.mk (hbox); have n5_ := Aside0.mk ((by rw [hg]; exact (below_size (by repeat (first | (with_reducible first | exact HB.out | apply below_alloc | apply pw_below_drewN | apply below_drew1 | refine below_set ?_ (IsS46.ge HI182.out) | refine below_set ?_ GE188.out | refine below_set ?_ GE201.out) | exact HB.out))) : w.heap.size ≤ gb206)); have n6_ := Aside0.mk ((by rw [hg]; exact (below_size (by repeat (first | (with_reducible first | exact HB.out | apply below_alloc | apply pw_below_drewN | apply below_drew1 | refine below_set ?_ (IsS46.ge HI182.out) | refine below_set ?_ GE188.out | refine below_set ?_ GE201.out) | exact HB.out))) : w.heap.size ≤ gb206)); have n7_ := Aside0.mk ((by rw [hg]; exact Nat.ne_of_lt (blk_lt (g := gb188) (o := .cells #[.int .i64 t183, .int .i64 t184, .int .i64 t185, .int .i64 t186] 26 (0, 0)) (by (with_reducible repeat (first | refine blk_drewN ?_ _ | refine blk_drew ?_ | refine blk_alloc ?_ _)); exact BK188.out)) : gb188 ≠ gb206)); have n8_ := Aside0.mk ((by rw [hg]; exact Nat.ne_of_gt (blk_lt (g := gb188) (o := .cells #[.int .i64 t183, .int .i64 t184, .int .i64 t185, .int .i64 t186] 26 (0, 0)) (by (with_reducible repeat (first | refine blk_drewN ?_ _ | refine blk_drew ?_ | refine blk_alloc ?_ _)); exact BK188.out)) : gb206 ≠ gb188)); have n9_ := Aside0.mk ((by rw [hg]; exact Nat.ne_of_lt (blk_lt (g := gb201) (o := .cells #[.int .i64 t197, .int .i64 t198, .int .i64 t199, .int .i64 t200] 26 (0, 0)) (by (with_reducible repeat (first | refine blk_drewN ?_ _ | refine blk_drew ?_ | refine blk_alloc ?_ _)); exact BK201.out)) : gb201 ≠ gb206)); have n10_ := Aside0.mk ((by rw [hg]; exact Nat.ne_of_gt (blk_lt (g := gb201) (o := .cells #[.int .i64 t197, .int .i64 t198, .int .i64 t199, .int .i64 t200] 26 (0, 0)) (by (with_reducible repeat (first | refine blk_drewN ?_ _ | refine blk_drew ?_ | refine blk_alloc ?_ _)); exact BK201.out)) : gb206 ≠ gb201)); have n11_ := Aside0.mk ((by rw [hg]; exact Nat.ne_of_lt (IsS46.lt (show IsS46 w _ g182 t180 t196 from by repeat (first | (with_reducible first | exact HI182.out | apply IsS46.alloc | apply IsS46.drewN | apply IsS46.drew | apply IsS46.set_1 | refine IsS46.far ?_ NB182_188.out _ | refine IsS46.far ?_ NB182_201.out _) | exact HI182.out))) : g182 ≠ gb206)); have n12_ := Aside0.mk ((by rw [hg]; exact Nat.ne_of_gt (IsS46.lt (show IsS46 w _ g182 t180 t196 from by repeat (first | (with_reducible first | exact HI182.out | apply IsS46.alloc | apply IsS46.drewN | apply IsS46.drew | apply IsS46.set_1 | refine IsS46.far ?_ NB182_188.out _ | refine IsS46.far ?_ NB182_201.out _) | exact HI182.out))) : gb206 ≠ g182)); clear HI182; clear BK188; clear BK201; clear HB; have HI182 := n0_; have BK188 := n1_; have BK201 := n2_; have HB := n3_; have BK206 := n4_; have GW206 := n5_; have GE206 := n6_; have NB188_206 := n7_; have NB206_188 := n8_; have NB201_206 := n9_; have NB206_201 := n10_; have NB182_206 := n11_; have NB206_182 := n12_; clear n0_ n1_ n2_ n3_ n4_ n5_ n6_ n7_ n8_ n9_ n10_ n11_ n12_; clear hb hbox hg; have hnb36 := NB206_188.out; have hnc36 := NB188_206.out; have hnb37 := NB206_201.out; have hnc37 := NB201_206.out; have hnb38 := NB206_182.out; have hnc38 := NB182_206.out; have hcz39_0 : w35.cell? ⟨gb206, 0, none⟩ = some (.int .i64 0) := (blk_cell BK206.out 0).trans rfl; have hcz39_1 : w35.cell? ⟨gb206, 1, none⟩ = some (.int .i64 0) := (blk_cell BK206.out 1).trans rfl; have hcz39_2 : w35.cell? ⟨gb206, 2, none⟩ = some (.int .i64 0) := (blk_cell BK206.out 2).trans rfl; have hcz39_3 : w35.cell? ⟨gb206, 3, none⟩ = some (.int .i64 0) := (blk_cell BK206.out 3).trans rfl; have hfz39_0 := blk_frozen BK206.out 0; have hfz39_1 := blk_frozen BK206.out 1; have hfz39_2 := blk_frozen BK206.out 2; have hfz39_3 := blk_frozen BK206.out 3))
          have n0_ : Aside0 (((((w35.setCell ⟨gb206, 0, none⟩ (.int .i64 t202)).setCell ⟨gb206, 1, none⟩ (.int .i64 t203)).setCell ⟨gb206, 2, none⟩ (.int .i64 t204)).setCell ⟨gb206, 3, none⟩ (.int .i64 t205)).heap[gb188]? = some (.cells #[.int .i64 t183, .int .i64 t184, .int .i64 t185, .int .i64 t186] 26 (0, 0))) := ⟨by (with_reducible repeat (first | refine blk_drewN ?_ _ | refine blk_drew ?_ | refine blk_alloc ?_ _)); refine blk_far ?_ NB188_206.out _; (with_reducible repeat (first | refine blk_drewN ?_ _ | refine blk_drew ?_ | refine blk_alloc ?_ _)); refine blk_far ?_ NB188_206.out _; (with_reducible repeat (first | refine blk_drewN ?_ _ | refine blk_drew ?_ | refine blk_alloc ?_ _)); refine blk_far ?_ NB188_206.out _; (with_reducible repeat (first | refine blk_drewN ?_ _ | refine blk_drew ?_ | refine blk_alloc ?_ _)); refine blk_far ?_ NB188_206.out _; (with_reducible repeat (first | refine blk_drewN ?_ _ | refine blk_drew ?_ | refine blk_alloc ?_ _)); exact BK188.out⟩
          have n1_ : Aside0 (((((w35.setCell ⟨gb206, 0, none⟩ (.int .i64 t202)).setCell ⟨gb206, 1, none⟩ (.int .i64 t203)).setCell ⟨gb206, 2, none⟩ (.int .i64 t204)).setCell ⟨gb206, 3, none⟩ (.int .i64 t205)).heap[gb201]? = some (.cells #[.int .i64 t197, .int .i64 t198, .int .i64 t199, .int .i64 t200] 26 (0, 0))) := ⟨by (with_reducible repeat (first | refine blk_drewN ?_ _ | refine blk_drew ?_ | refine blk_alloc ?_ _)); refine blk_far ?_ NB201_206.out _; (with_reducible repeat (first | refine blk_drewN ?_ _ | refine blk_drew ?_ | refine blk_alloc ?_ _)); refine blk_far ?_ NB201_206.out _; (with_reducible repeat (first | refine blk_drewN ?_ _ | refine blk_drew ?_ | refine blk_alloc ?_ _)); refine blk_far ?_ NB201_206.out _; (with_reducible repeat (first | refine blk_drewN ?_ _ | refine blk_drew ?_ | refine blk_alloc ?_ _)); refine blk_far ?_ NB201_206.out _; (with_reducible repeat (first | refine blk_drewN ?_ _ | refine blk_drew ?_ | refine blk_alloc ?_ _)); exact BK201.out⟩
          have n2_ : Aside0 (((((w35.setCell ⟨gb206, 0, none⟩ (.int .i64 t202)).setCell ⟨gb206, 1, none⟩ (.int .i64 t203)).setCell ⟨gb206, 2, none⟩ (.int .i64 t204)).setCell ⟨gb206, 3, none⟩ (.int .i64 t205)).heap[gb206]? = some (.cells #[.int .i64 t202, .int .i64 t203, .int .i64 t204, .int .i64 t205] 26 (0, 0))) := ⟨by (with_reducible repeat (first | refine blk_drewN ?_ _ | refine blk_drew ?_ | refine blk_alloc ?_ _)); refine blk_put (cs := #[.int .i64 t202, .int .i64 t203, .int .i64 t204, .int .i64 0]) ?_ 3 _ rfl; (with_reducible repeat (first | refine blk_drewN ?_ _ | refine blk_drew ?_ | refine blk_alloc ?_ _)); refine blk_put (cs := #[.int .i64 t202, .int .i64 t203, .int .i64 0, .int .i64 0]) ?_ 2 _ rfl; (with_reducible repeat (first | refine blk_drewN ?_ _ | refine blk_drew ?_ | refine blk_alloc ?_ _)); refine blk_put (cs := #[.int .i64 t202, .int .i64 0, .int .i64 0, .int .i64 0]) ?_ 1 _ rfl; (with_reducible repeat (first | refine blk_drewN ?_ _ | refine blk_drew ?_ | refine blk_alloc ?_ _)); refine blk_put (cs := #[.int .i64 0, .int .i64 0, .int .i64 0, .int .i64 0]) ?_ 0 _ rfl; (with_reducible repeat (first | refine blk_drewN ?_ _ | refine blk_drew ?_ | refine blk_alloc ?_ _)); exact BK206.out⟩
          have n3_ : Aside0 (IsS46 w ((((w35.setCell ⟨gb206, 0, none⟩ (.int .i64 t202)).setCell ⟨gb206, 1, none⟩ (.int .i64 t203)).setCell ⟨gb206, 2, none⟩ (.int .i64 t204)).setCell ⟨gb206, 3, none⟩ (.int .i64 t205)) g182 t180 t196) := ⟨by repeat (first | (with_reducible first | exact HI182.out | apply IsS46.alloc | apply IsS46.drewN | apply IsS46.drew | apply IsS46.set_1 | refine IsS46.far ?_ NB182_188.out _ | refine IsS46.far ?_ NB182_201.out _ | refine IsS46.far ?_ NB182_206.out _) | exact HI182.out)⟩
          have n4_ : Aside0 (Below w.heap.size w ((((w35.setCell ⟨gb206, 0, none⟩ (.int .i64 t202)).setCell ⟨gb206, 1, none⟩ (.int .i64 t203)).setCell ⟨gb206, 2, none⟩ (.int .i64 t204)).setCell ⟨gb206, 3, none⟩ (.int .i64 t205))) := ⟨by repeat (first | (with_reducible first | exact HB.out | apply below_alloc | apply pw_below_drewN | apply below_drew1 | refine below_set ?_ (IsS46.ge HI182.out) | refine below_set ?_ GE188.out | refine below_set ?_ GE201.out | refine below_set ?_ GE206.out) | exact HB.out)⟩
          (try clear BK188)
          (try clear BK201)
          (try clear BK206)
          (try clear HI182)
          (try clear HB)
          generalize ((((w35.setCell ⟨gb206, 0, none⟩ (.int .i64 t202)).setCell ⟨gb206, 1, none⟩ (.int .i64 t203)).setCell ⟨gb206, 2, none⟩ (.int .i64 t204)).setCell ⟨gb206, 3, none⟩ (.int .i64 t205)) = w40 at n0_ n1_ n2_ n3_ n4_ ⊢
          have BK188 := n0_
          have BK201 := n1_
          have BK206 := n2_
          have HI182 := n3_
          have HB := n4_
          clear n0_ n1_ n2_ n3_ n4_
          have n0_ := Aside0.mk (blk_drew BK188.out)
          have n1_ := Aside0.mk (blk_drew BK201.out)
          have n2_ := Aside0.mk (blk_drew BK206.out)
          have n3_ := Aside0.mk (IsS46.drew HI182.out)
          have n4_ := Aside0.mk (below_drew1 HB.out)
          clear BK188
          clear BK201
          clear BK206
          clear HI182
          clear HB
          have BK188 := n0_
          have BK201 := n1_
          have BK206 := n2_
          have HI182 := n3_
          have HB := n4_
          clear n0_ n1_ n2_ n3_ n4_
          refine start_ (n := 55) (S := fun w' => w'.cell? ⟨gb188, 0, none⟩ = some (.int .i64 t183) ∧ w'.cell? ⟨gb188, 1, none⟩ = some (.int .i64 t184) ∧ w'.cell? ⟨gb188, 2, none⟩ = some (.int .i64 t185) ∧ w'.cell? ⟨gb188, 3, none⟩ = some (.int .i64 t186) ∧ w'.cell? ⟨gb201, 0, none⟩ = some (.int .i64 t197) ∧ w'.cell? ⟨gb201, 1, none⟩ = some (.int .i64 t198) ∧ w'.cell? ⟨gb201, 2, none⟩ = some (.int .i64 t199) ∧ w'.cell? ⟨gb201, 3, none⟩ = some (.int .i64 t200) ∧ w'.cell? ⟨gb206, 0, none⟩ = some (.int .i64 t202) ∧ w'.cell? ⟨gb206, 1, none⟩ = some (.int .i64 t203) ∧ w'.cell? ⟨gb206, 2, none⟩ = some (.int .i64 t204) ∧ w'.cell? ⟨gb206, 3, none⟩ = some (.int .i64 t205)) (ds := []) #[false, false, false, false, false, false, false, false, false, false, false, false, false, false, false, false, false, false, false, false, false, false, false, false, false, false, false, false, false, false, false, false, false, false, false, false, false, false, false, false, false, false, false, false, false, false, false, false, false, false, false, false, false, false, false] (by kernel_rfl) rfl rfl ⟨(blk_cell BK188.out 0).trans rfl, (blk_cell BK188.out 1).trans rfl, (blk_cell BK188.out 2).trans rfl, (blk_cell BK188.out 3).trans rfl, (blk_cell BK201.out 0).trans rfl, (blk_cell BK201.out 1).trans rfl, (blk_cell BK201.out 2).trans rfl, (blk_cell BK201.out 3).trans rfl, (blk_cell BK206.out 0).trans rfl, (blk_cell BK206.out 1).trans rfl, (blk_cell BK206.out 2).trans rfl, (blk_cell BK206.out 3).trans rfl⟩ (fun hHeld => ?_); refine with_tabW tilefarmlaw2_RectOutset.tab6 tilefarmlaw2_RectOutset.bits6 (fun HT_ HW_ => ?_)
          generalize w40.drew = w41 at BK188 BK201 BK206 HI182 HB hHeld ⊢
          refine take_ (i := 0) (N := some 35) (v := ?_) (a' := ?_) #[true, false, false, false, false, false, false, false, false, false, false, false, false, false, false, false, false, false, false, false, false, false, false, false, false, false, false, false, false, false, false, false, false, false, false, false, false, false, false, false, false, false, false, false, false, false, false, false, false, false, false, false, false, false, false] rfl rfl (take_ofW HT_.out HW_.out (by kernel_rfl)) (fun _ _ _ h => h) (Or.inl ⟨by rfl, ?_⟩) hHeld ?_ ?_
          rotate_left
          · rintro w' ⟨s0, s1, s2, s3, s4, s5, s6, s7, s8, s9, s10, s11⟩
            go_simp
            with_reducible rfl
          rotate_left
          · simp only [Act.put, List.setIfInBounds_toArray, List.set_cons_zero, List.set_cons_succ, i64_w, i32_w]
            rfl
          refine take_ (i := 1) (N := some 36) (v := ?_) (a' := ?_) #[true, true, false, false, false, false, false, false, false, false, false, false, false, false, false, false, false, false, false, false, false, false, false, false, false, false, false, false, false, false, false, false, false, false, false, false, false, false, false, false, false, false, false, false, false, false, false, false, false, false, false, false, false, false, false] rfl rfl (take_ofW HT_.out HW_.out (by kernel_rfl)) (fun _ _ _ h => h) (Or.inl ⟨by rfl, ?_⟩) hHeld ?_ ?_
          rotate_left
          · rintro w' ⟨s0, s1, s2, s3, s4, s5, s6, s7, s8, s9, s10, s11⟩
            go_simp
            with_reducible rfl
          rotate_left
          · simp only [Act.put, List.setIfInBounds_toArray, List.set_cons_zero, List.set_cons_succ, i64_w, i32_w]
            rfl
          refine one_ (i := 2) (N := some 37) #[true, true, true, false, false, false, false, false, false, false, false, false, false, false, false, false, false, false, false, false, false, false, false, false, false, false, false, false, false, false, false, false, false, false, false, false, false, false, false, false, false, false, false, false, false, false, false, false, false, false, false, false, false, false, false] rfl rfl (one_of HT_.out (by kernel_rfl)) (by decide) (fun K hK => ?_)
          refine goes_ Try.func14 (by kernel_rfl) rfl #[.agg #[.int .i64 t183, .int .i64 t184, .int .i64 t185, .int .i64 t186], .agg #[.int .i64 t197, .int .i64 t198, .int .i64 t199, .int .i64 t200]] (by rfl) rfl rfl (by (try simp only [List.map_toArray, List.map_cons, List.map_nil]); first | done | rfl | (simp only [List.length_drop, List.length_take]; rfl)) ?_
          with_reducible refine (rect_Inside.calls k t183 t184 t185 t186 t197 t198 t199 t200 true _ A10.out).mono ?_
          rintro e w42 ⟨rfl, hb⟩
          refine ⟨_, rfl, ?_⟩
          have n0_ := Aside0.mk (IsS46.below (by repeat (first | (with_reducible first | exact HI182.out | apply IsS46.alloc | apply IsS46.drewN | apply IsS46.drew | apply IsS46.set_1 | refine IsS46.far ?_ NB182_188.out _ | refine IsS46.far ?_ NB182_201.out _ | refine IsS46.far ?_ NB182_206.out _) | exact HI182.out)) hb)
          have n1_ := Aside0.mk (blk_below (g := gb188) (o := .cells #[.int .i64 t183, .int .i64 t184, .int .i64 t185, .int .i64 t186] 26 (0, 0)) (by (with_reducible repeat (first | refine blk_drewN ?_ _ | refine blk_drew ?_ | refine blk_alloc ?_ _)); exact BK188.out) hb)
          have n2_ := Aside0.mk (blk_below (g := gb201) (o := .cells #[.int .i64 t197, .int .i64 t198, .int .i64 t199, .int .i64 t200] 26 (0, 0)) (by (with_reducible repeat (first | refine blk_drewN ?_ _ | refine blk_drew ?_ | refine blk_alloc ?_ _)); exact BK201.out) hb)
          have n3_ := Aside0.mk (blk_below (g := gb206) (o := .cells #[.int .i64 t202, .int .i64 t203, .int .i64 t204, .int .i64 t205] 26 (0, 0)) (by (with_reducible repeat (first | refine blk_drewN ?_ _ | refine blk_drew ?_ | refine blk_alloc ?_ _)); exact BK206.out) hb)
          have n4_ := Aside0.mk (below_step (by repeat (first | (with_reducible first | exact HB.out | apply below_alloc | apply pw_below_drewN | apply below_drew1 | refine below_set ?_ (IsS46.ge HI182.out) | refine below_set ?_ GE188.out | refine below_set ?_ GE201.out | refine below_set ?_ GE206.out) | exact HB.out)) hb)
          clear HI182
          clear BK188
          clear BK201
          clear BK206
          clear HB
          have HI182 := n0_
          have BK188 := n1_
          have BK201 := n2_
          have BK206 := n3_
          have HB := n4_
          clear n0_ n1_ n2_ n3_ n4_
          (try clear hb)
          (try clear hb2)
          (try clear hk)
          (try clear hi)
          refine hK.out _ _ ⟨(blk_cell BK188.out 0).trans rfl, (blk_cell BK188.out 1).trans rfl, (blk_cell BK188.out 2).trans rfl, (blk_cell BK188.out 3).trans rfl, (blk_cell BK201.out 0).trans rfl, (blk_cell BK201.out 1).trans rfl, (blk_cell BK201.out 2).trans rfl, (blk_cell BK201.out 3).trans rfl, (blk_cell BK206.out 0).trans rfl, (blk_cell BK206.out 1).trans rfl, (blk_cell BK206.out 2).trans rfl, (blk_cell BK206.out 3).trans rfl⟩ (fun hHeld => ?_)
          clear hK K
          refine norm_ (a' := ?_) ?_ ?_
          rotate_left
          · show Act.put _ (some 37) _ = _
            simp only [Act.put, List.setIfInBounds_toArray, List.set_cons_zero, List.set_cons_succ, i64_w, i32_w]
            rfl
          refine pure_ (i := 3) (N := some 38) (v := ?_) (a' := ?_) #[true, true, true, true, false, false, false, false, false, false, false, false, false, false, false, false, false, false, false, false, false, false, false, false, false, false, false, false, false, false, false, false, false, false, false, false, false, false, false, false, false, false, false, false, false, false, false, false, false, false, false, false, false, false, false] rfl rfl (any_of HT_.out (by kernel_rfl)) (fun _ _ _ h => h) (Or.inl ⟨by rfl, ?_⟩) ?_ ?_
          rotate_left
          · intro w'
            go_simp
            with_reducible rfl
          rotate_left
          · simp only [Act.put, List.setIfInBounds_toArray, List.set_cons_zero, List.set_cons_succ, i64_w, i32_w]
            rfl
          refine pure_ (i := 6) (N := some 41) (v := ?_) (a' := ?_) #[true, true, true, true, false, false, true, false, false, false, false, false, false, false, false, false, false, false, false, false, false, false, false, false, false, false, false, false, false, false, false, false, false, false, false, false, false, false, false, false, false, false, false, false, false, false, false, false, false, false, false, false, false, false, false] rfl rfl (any_of HT_.out (by kernel_rfl)) (fun _ _ _ h => h) (Or.inl ⟨by rfl, ?_⟩) ?_ ?_
          rotate_left
          · intro w'
            go_simp
            with_reducible rfl
          rotate_left
          · simp only [Act.put, List.setIfInBounds_toArray, List.set_cons_zero, List.set_cons_succ, i64_w, i32_w]
            rfl
          refine pure_ (i := 8) (N := some 43) (v := ?_) (a' := ?_) #[true, true, true, true, false, false, true, false, true, false, false, false, false, false, false, false, false, false, false, false, false, false, false, false, false, false, false, false, false, false, false, false, false, false, false, false, false, false, false, false, false, false, false, false, false, false, false, false, false, false, false, false, false, false, false] rfl rfl (any_of HT_.out (by kernel_rfl)) (fun _ _ _ h => h) (Or.inl ⟨by rfl, ?_⟩) ?_ ?_
          rotate_left
          · intro w'
            go_simp
            with_reducible rfl
          rotate_left
          · simp only [Act.put, List.setIfInBounds_toArray, List.set_cons_zero, List.set_cons_succ, i64_w, i32_w]
            rfl
          refine pure_ (i := 11) (N := some 46) (v := ?_) (a' := ?_) #[true, true, true, true, false, false, true, false, true, false, false, true, false, false, false, false, false, false, false, false, false, false, false, false, false, false, false, false, false, false, false, false, false, false, false, false, false, false, false, false, false, false, false, false, false, false, false, false, false, false, false, false, false, false, false] rfl rfl (any_of HT_.out (by kernel_rfl)) (fun _ _ _ h => h) (Or.inl ⟨by rfl, ?_⟩) ?_ ?_
          rotate_left
          · intro w'
            go_simp
            with_reducible rfl
          rotate_left
          · simp only [Act.put, List.setIfInBounds_toArray, List.set_cons_zero, List.set_cons_succ, i64_w, i32_w]
            rfl
          refine pure_ (i := 13) (N := some 48) (v := ?_) (a' := ?_) #[true, true, true, true, false, false, true, false, true, false, false, true, false, true, false, false, false, false, false, false, false, false, false, false, false, false, false, false, false, false, false, false, false, false, false, false, false, false, false, false, false, false, false, false, false, false, false, false, false, false, false, false, false, false, false] rfl rfl (any_of HT_.out (by kernel_rfl)) (fun _ _ _ h => h) (Or.inl ⟨by rfl, ?_⟩) ?_ ?_
          rotate_left
          · intro w'
            go_simp
            with_reducible rfl
          rotate_left
          · simp only [Act.put, List.setIfInBounds_toArray, List.set_cons_zero, List.set_cons_succ, i64_w, i32_w]
            rfl
          refine pure_ (i := 15) (N := some 50) (v := ?_) (a' := ?_) #[true, true, true, true, false, false, true, false, true, false, false, true, false, true, false, true, false, false, false, false, false, false, false, false, false, false, false, false, false, false, false, false, false, false, false, false, false, false, false, false, false, false, false, false, false, false, false, false, false, false, false, false, false, false, false] rfl rfl (any_of HT_.out (by kernel_rfl)) (fun _ _ _ h => h) (Or.inl ⟨by rfl, ?_⟩) ?_ ?_
          rotate_left
          · intro w'
            go_simp
            with_reducible rfl
          rotate_left
          · simp only [Act.put, List.setIfInBounds_toArray, List.set_cons_zero, List.set_cons_succ, i64_w, i32_w]
            rfl
          refine pure_ (i := 17) (N := some 52) (v := ?_) (a' := ?_) #[true, true, true, true, false, false, true, false, true, false, false, true, false, true, false, true, false, true, false, false, false, false, false, false, false, false, false, false, false, false, false, false, false, false, false, false, false, false, false, false, false, false, false, false, false, false, false, false, false, false, false, false, false, false, false] rfl rfl (any_of HT_.out (by kernel_rfl)) (fun _ _ _ h => h) (Or.inl ⟨by rfl, ?_⟩) ?_ ?_
          rotate_left
          · intro w'
            go_simp
            with_reducible rfl
          rotate_left
          · simp only [Act.put, List.setIfInBounds_toArray, List.set_cons_zero, List.set_cons_succ, i64_w, i32_w]
            rfl
          refine pure_ (i := 20) (N := some 55) (v := ?_) (a' := ?_) #[true, true, true, true, false, false, true, false, true, false, false, true, false, true, false, true, false, true, false, false, true, false, false, false, false, false, false, false, false, false, false, false, false, false, false, false, false, false, false, false, false, false, false, false, false, false, false, false, false, false, false, false, false, false, false] rfl rfl (any_of HT_.out (by kernel_rfl)) (fun _ _ _ h => h) (Or.inl ⟨by rfl, ?_⟩) ?_ ?_
          rotate_left
          · intro w'
            go_simp
            with_reducible rfl
          rotate_left
          · simp only [Act.put, List.setIfInBounds_toArray, List.set_cons_zero, List.set_cons_succ, i64_w, i32_w]
            rfl
          refine pure_ (i := 22) (N := some 57) (v := ?_) (a' := ?_) #[true, true, true, true, false, false, true, false, true, false, false, true, false, true, false, true, false, true, false, false, true, false, true, false, false, false, false, false, false, false, false, false, false, false, false, false, false, false, false, false, false, false, false, false, false, false, false, false, false, false, false, false, false, false, false] rfl rfl (any_of HT_.out (by kernel_rfl)) (fun _ _ _ h => h) (Or.inl ⟨by rfl, ?_⟩) ?_ ?_
          rotate_left
          · intro w'
            go_simp
            with_reducible rfl
          rotate_left
          · simp only [Act.put, List.setIfInBounds_toArray, List.set_cons_zero, List.set_cons_succ, i64_w, i32_w]
            rfl
          refine take_ (i := 4) (N := some 39) (v := ?_) (a' := ?_) #[true, true, true, true, true, false, true, false, true, false, false, true, false, true, false, true, false, true, false, false, true, false, true, false, false, false, false, false, false, false, false, false, false, false, false, false, false, false, false, false, false, false, false, false, false, false, false, false, false, false, false, false, false, false, false] rfl rfl (take_ofW HT_.out HW_.out (by kernel_rfl)) (fun _ _ _ h => h) (Or.inl ⟨by rfl, ?_⟩) hHeld ?_ ?_
          rotate_left
          · rintro w' ⟨s0, s1, s2, s3, s4, s5, s6, s7, s8, s9, s10, s11⟩
            go_simp
            with_reducible rfl
          rotate_left
          · simp only [Act.put, List.setIfInBounds_toArray, List.set_cons_zero, List.set_cons_succ, i64_w, i32_w]
            rfl
          refine take_ (i := 7) (N := some 42) (v := ?_) (a' := ?_) #[true, true, true, true, true, false, true, true, true, false, false, true, false, true, false, true, false, true, false, false, true, false, true, false, false, false, false, false, false, false, false, false, false, false, false, false, false, false, false, false, false, false, false, false, false, false, false, false, false, false, false, false, false, false, false] rfl rfl (take_ofW HT_.out HW_.out (by kernel_rfl)) (fun _ _ _ h => h) (Or.inl ⟨by rfl, ?_⟩) hHeld ?_ ?_
          rotate_left
          · rintro w' ⟨s0, s1, s2, s3, s4, s5, s6, s7, s8, s9, s10, s11⟩
            go_simp
            with_reducible rfl
          rotate_left
          · simp only [Act.put, List.setIfInBounds_toArray, List.set_cons_zero, List.set_cons_succ, i64_w, i32_w]
            rfl
          refine take_ (i := 9) (N := some 44) (v := ?_) (a' := ?_) #[true, true, true, true, true, false, true, true, true, true, false, true, false, true, false, true, false, true, false, false, true, false, true, false, false, false, false, false, false, false, false, false, false, false, false, false, false, false, false, false, false, false, false, false, false, false, false, false, false, false, false, false, false, false, false] rfl rfl (take_ofW HT_.out HW_.out (by kernel_rfl)) (fun _ _ _ h => h) (Or.inl ⟨by rfl, ?_⟩) hHeld ?_ ?_
          rotate_left
          · rintro w' ⟨s0, s1, s2, s3, s4, s5, s6, s7, s8, s9, s10, s11⟩
            go_simp
            with_reducible rfl
          rotate_left
          · simp only [Act.put, List.setIfInBounds_toArray, List.set_cons_zero, List.set_cons_succ, i64_w, i32_w]
            rfl
          refine pure_ (i := 10) (N := some 45) (v := ?_) (a' := ?_) #[true, true, true, true, true, false, true, true, true, true, true, true, false, true, false, true, false, true, false, false, true, false, true, false, false, false, false, false, false, false, false, false, false, false, false, false, false, false, false, false, false, false, false, false, false, false, false, false, false, false, false, false, false, false, false] rfl rfl (any_of HT_.out (by kernel_rfl)) (fun _ _ _ h => h) (Or.inl ⟨by rfl, ?_⟩) ?_ ?_
          rotate_left
          · intro w'
            go_simp
            with_reducible rfl
          rotate_left
          · simp only [Act.put, List.setIfInBounds_toArray, List.set_cons_zero, List.set_cons_succ, i64_w, i32_w]
            rfl
          refine pure_ (i := 12) (N := some 47) (v := ?_) (a' := ?_) #[true, true, true, true, true, false, true, true, true, true, true, true, true, true, false, true, false, true, false, false, true, false, true, false, false, false, false, false, false, false, false, false, false, false, false, false, false, false, false, false, false, false, false, false, false, false, false, false, false, false, false, false, false, false, false] rfl rfl (any_of HT_.out (by kernel_rfl)) (fun _ _ _ h => h) (Or.inl ⟨by rfl, ?_⟩) ?_ ?_
          rotate_left
          · intro w'
            go_simp
            with_reducible rfl
          rotate_left
          · simp only [Act.put, List.setIfInBounds_toArray, List.set_cons_zero, List.set_cons_succ, i64_w, i32_w]
            rfl
          refine pure_ (i := 14) (N := some 49) (v := ?_) (a' := ?_) #[true, true, true, true, true, false, true, true, true, true, true, true, true, true, true, true, false, true, false, false, true, false, true, false, false, false, false, false, false, false, false, false, false, false, false, false, false, false, false, false, false, false, false, false, false, false, false, false, false, false, false, false, false, false, false] rfl rfl (any_of HT_.out (by kernel_rfl)) (fun _ _ _ h => h) (Or.inl ⟨by rfl, ?_⟩) ?_ ?_
          rotate_left
          · intro w'
            go_simp
            with_reducible rfl
          rotate_left
          · simp only [Act.put, List.setIfInBounds_toArray, List.set_cons_zero, List.set_cons_succ, i64_w, i32_w]
            rfl
          refine take_ (i := 16) (N := some 51) (v := ?_) (a' := ?_) #[true, true, true, true, true, false, true, true, true, true, true, true, true, true, true, true, true, true, false, false, true, false, true, false, false, false, false, false, false, false, false, false, false, false, false, false, false, false, false, false, false, false, false, false, false, false, false, false, false, false, false, false, false, false, false] rfl rfl (take_ofW HT_.out HW_.out (by kernel_rfl)) (fun _ _ _ h => h) (Or.inl ⟨by rfl, ?_⟩) hHeld ?_ ?_
          rotate_left
          · rintro w' ⟨s0, s1, s2, s3, s4, s5, s6, s7, s8, s9, s10, s11⟩
            go_simp
            with_reducible rfl
          rotate_left
          · simp only [Act.put, List.setIfInBounds_toArray, List.set_cons_zero, List.set_cons_succ, i64_w, i32_w]
            rfl
          refine take_ (i := 18) (N := some 53) (v := ?_) (a' := ?_) #[true, true, true, true, true, false, true, true, true, true, true, true, true, true, true, true, true, true, true, false, true, false, true, false, false, false, false, false, false, false, false, false, false, false, false, false, false, false, false, false, false, false, false, false, false, false, false, false, false, false, false, false, false, false, false] rfl rfl (take_ofW HT_.out HW_.out (by kernel_rfl)) (fun _ _ _ h => h) (Or.inl ⟨by rfl, ?_⟩) hHeld ?_ ?_
          rotate_left
          · rintro w' ⟨s0, s1, s2, s3, s4, s5, s6, s7, s8, s9, s10, s11⟩
            go_simp
            with_reducible rfl
          rotate_left
          · simp only [Act.put, List.setIfInBounds_toArray, List.set_cons_zero, List.set_cons_succ, i64_w, i32_w]
            rfl
          refine pure_ (i := 19) (N := some 54) (v := ?_) (a' := ?_) #[true, true, true, true, true, false, true, true, true, true, true, true, true, true, true, true, true, true, true, true, true, false, true, false, false, false, false, false, false, false, false, false, false, false, false, false, false, false, false, false, false, false, false, false, false, false, false, false, false, false, false, false, false, false, false] rfl rfl (any_of HT_.out (by kernel_rfl)) (fun _ _ _ h => h) (Or.inl ⟨by rfl, ?_⟩) ?_ ?_
          rotate_left
          · intro w'
            go_simp
            with_reducible rfl
          rotate_left
          · simp only [Act.put, List.setIfInBounds_toArray, List.set_cons_zero, List.set_cons_succ, i64_w, i32_w]
            rfl
          refine pure_ (i := 21) (N := some 56) (v := ?_) (a' := ?_) #[true, true, true, true, true, false, true, true, true, true, true, true, true, true, true, true, true, true, true, true, true, true, true, false, false, false, false, false, false, false, false, false, false, false, false, false, false, false, false, false, false, false, false, false, false, false, false, false, false, false, false, false, false, false, false] rfl rfl (any_of HT_.out (by kernel_rfl)) (fun _ _ _ h => h) (Or.inl ⟨by rfl, ?_⟩) ?_ ?_
          rotate_left
          · intro w'
            go_simp
            with_reducible rfl
          rotate_left
          · simp only [Act.put, List.setIfInBounds_toArray, List.set_cons_zero, List.set_cons_succ, i64_w, i32_w]
            rfl
          refine pure_ (i := 23) (N := some 58) (v := ?_) (a' := ?_) #[true, true, true, true, true, false, true, true, true, true, true, true, true, true, true, true, true, true, true, true, true, true, true, true, false, false, false, false, false, false, false, false, false, false, false, false, false, false, false, false, false, false, false, false, false, false, false, false, false, false, false, false, false, false, false] rfl rfl (any_of HT_.out (by kernel_rfl)) (fun _ _ _ h => h) (Or.inl ⟨by rfl, ?_⟩) ?_ ?_
          rotate_left
          · intro w'
            go_simp
            with_reducible rfl
          rotate_left
          · simp only [Act.put, List.setIfInBounds_toArray, List.set_cons_zero, List.set_cons_succ, i64_w, i32_w]
            rfl
          refine pure_ (i := 24) (N := some 59) (v := ?_) (a' := ?_) #[true, true, true, true, true, false, true, true, true, true, true, true, true, true, true, true, true, true, true, true, true, true, true, true, true, false, false, false, false, false, false, false, false, false, false, false, false, false, false, false, false, false, false, false, false, false, false, false, false, false, false, false, false, false, false] rfl rfl (any_of HT_.out (by kernel_rfl)) (fun _ _ _ h => h) (Or.inl ⟨by rfl, ?_⟩) ?_ ?_
          rotate_left
          · intro w'
            go_simp
            with_reducible rfl
          rotate_left
          · simp only [Act.put, List.setIfInBounds_toArray, List.set_cons_zero, List.set_cons_succ, i64_w, i32_w]
            rfl
          refine one_ (i := 5) (N := some 40) #[true, true, true, true, true, true, true, true, true, true, true, true, true, true, true, true, true, true, true, true, true, true, true, true, true, false, false, false, false, false, false, false, false, false, false, false, false, false, false, false, false, false, false, false, false, false, false, false, false, false, false, false, false, false, false] rfl rfl (one_of HT_.out (by kernel_rfl)) (by decide) (fun K hK => ?_)
          refine goes_ Try.func12 (by kernel_rfl) rfl #[.agg #[.int .i64 t197, .int .i64 t198, .int .i64 t199, .int .i64 t200]] (by rfl) rfl rfl (by (try simp only [List.map_toArray, List.map_cons, List.map_nil]); first | done | rfl | (simp only [List.length_drop, List.length_take]; rfl)) ?_
          with_reducible refine (rect_Area.calls t197 t198 t199 t200 t208 _ A12.out).mono ?_
          rintro e w43 ⟨rfl, hb⟩
          refine ⟨_, rfl, ?_⟩
          have n0_ := Aside0.mk (IsS46.below (by repeat (first | (with_reducible first | exact HI182.out | apply IsS46.alloc | apply IsS46.drewN | apply IsS46.drew | apply IsS46.set_1 | refine IsS46.far ?_ NB182_188.out _ | refine IsS46.far ?_ NB182_201.out _ | refine IsS46.far ?_ NB182_206.out _) | exact HI182.out)) hb)
          have n1_ := Aside0.mk (blk_below (g := gb188) (o := .cells #[.int .i64 t183, .int .i64 t184, .int .i64 t185, .int .i64 t186] 26 (0, 0)) (by (with_reducible repeat (first | refine blk_drewN ?_ _ | refine blk_drew ?_ | refine blk_alloc ?_ _)); exact BK188.out) hb)
          have n2_ := Aside0.mk (blk_below (g := gb201) (o := .cells #[.int .i64 t197, .int .i64 t198, .int .i64 t199, .int .i64 t200] 26 (0, 0)) (by (with_reducible repeat (first | refine blk_drewN ?_ _ | refine blk_drew ?_ | refine blk_alloc ?_ _)); exact BK201.out) hb)
          have n3_ := Aside0.mk (blk_below (g := gb206) (o := .cells #[.int .i64 t202, .int .i64 t203, .int .i64 t204, .int .i64 t205] 26 (0, 0)) (by (with_reducible repeat (first | refine blk_drewN ?_ _ | refine blk_drew ?_ | refine blk_alloc ?_ _)); exact BK206.out) hb)
          have n4_ := Aside0.mk (below_step (by repeat (first | (with_reducible first | exact HB.out | apply below_alloc | apply pw_below_drewN | apply below_drew1 | refine below_set ?_ (IsS46.ge HI182.out) | refine below_set ?_ GE188.out | refine below_set ?_ GE201.out | refine below_set ?_ GE206.out) | exact HB.out)) hb)
          clear HI182
          clear BK188
          clear BK201
          clear BK206
          clear HB
          have HI182 := n0_
          have BK188 := n1_
          have BK201 := n2_
          have BK206 := n3_
          have HB := n4_
          clear n0_ n1_ n2_ n3_ n4_
          (try clear hb)
          (try clear hb2)
          (try clear hk)
          (try clear hi)
          refine hK.out _ _ ⟨(blk_cell BK188.out 0).trans rfl, (blk_cell BK188.out 1).trans rfl, (blk_cell BK188.out 2).trans rfl, (blk_cell BK188.out 3).trans rfl, (blk_cell BK201.out 0).trans rfl, (blk_cell BK201.out 1).trans rfl, (blk_cell BK201.out 2).trans rfl, (blk_cell BK201.out 3).trans rfl, (blk_cell BK206.out 0).trans rfl, (blk_cell BK206.out 1).trans rfl, (blk_cell BK206.out 2).trans rfl, (blk_cell BK206.out 3).trans rfl⟩ (fun hHeld => ?_)
          clear hK K
          refine norm_ (a' := ?_) ?_ ?_
          rotate_left
          · show Act.put _ (some 40) _ = _
            simp only [Act.put, List.setIfInBounds_toArray, List.set_cons_zero, List.set_cons_succ, i64_w, i32_w]
            rfl
          refine pure_ (i := 25) (N := some 60) (v := ?_) (a' := ?_) #[true, true, true, true, true, true, true, true, true, true, true, true, true, true, true, true, true, true, true, true, true, true, true, true, true, true, false, false, false, false, false, false, false, false, false, false, false, false, false, false, false, false, false, false, false, false, false, false, false, false, false, false, false, false, false] rfl rfl (any_of HT_.out (by kernel_rfl)) (fun _ _ _ h => h) (Or.inl ⟨by rfl, ?_⟩) ?_ ?_
          rotate_left
          · intro w'
            go_simp
            with_reducible rfl
          rotate_left
          · simp only [Act.put, List.setIfInBounds_toArray, List.set_cons_zero, List.set_cons_succ, i64_w, i32_w]
            rfl
          refine pure_ (i := 26) (N := some 61) (v := ?_) (a' := ?_) #[true, true, true, true, true, true, true, true, true, true, true, true, true, true, true, true, true, true, true, true, true, true, true, true, true, true, true, false, false, false, false, false, false, false, false, false, false, false, false, false, false, false, false, false, false, false, false, false, false, false, false, false, false, false, false] rfl rfl (any_of HT_.out (by kernel_rfl)) (fun _ _ _ h => h) (Or.inl ⟨by rfl, ?_⟩) ?_ ?_
          rotate_left
          · intro w'
            go_simp
            with_reducible rfl
          rotate_left
          · simp only [Act.put, List.setIfInBounds_toArray, List.set_cons_zero, List.set_cons_succ, i64_w, i32_w]
            rfl
          refine pure_ (i := 27) (N := some 62) (v := ?_) (a' := ?_) #[true, true, true, true, true, true, true, true, true, true, true, true, true, true, true, true, true, true, true, true, true, true, true, true, true, true, true, true, false, false, false, false, false, false, false, false, false, false, false, false, false, false, false, false, false, false, false, false, false, false, false, false, false, false, false] rfl rfl (any_of HT_.out (by kernel_rfl)) (fun _ _ _ h => h) (Or.inl ⟨by rfl, ?_⟩) ?_ ?_
          rotate_left
          · intro w'
            go_simp
            with_reducible rfl
          rotate_left
          · simp only [Act.put, List.setIfInBounds_toArray, List.set_cons_zero, List.set_cons_succ, i64_w, i32_w]
            rfl
          refine pure_ (i := 30) (N := some 65) (v := ?_) (a' := ?_) #[true, true, true, true, true, true, true, true, true, true, true, true, true, true, true, true, true, true, true, true, true, true, true, true, true, true, true, true, false, false, true, false, false, false, false, false, false, false, false, false, false, false, false, false, false, false, false, false, false, false, false, false, false, false, false] rfl rfl (any_of HT_.out (by kernel_rfl)) (fun _ _ _ h => h) (Or.inl ⟨by rfl, ?_⟩) ?_ ?_
          rotate_left
          · intro w'
            go_simp
            with_reducible rfl
          rotate_left
          · simp only [Act.put, List.setIfInBounds_toArray, List.set_cons_zero, List.set_cons_succ, i64_w, i32_w]
            rfl
          refine pure_ (i := 31) (N := some 66) (v := ?_) (a' := ?_) #[true, true, true, true, true, true, true, true, true, true, true, true, true, true, true, true, true, true, true, true, true, true, true, true, true, true, true, true, false, false, true, true, false, false, false, false, false, false, false, false, false, false, false, false, false, false, false, false, false, false, false, false, false, false, false] rfl rfl (any_of HT_.out (by kernel_rfl)) (fun _ _ _ h => h) (Or.inl ⟨by rfl, ?_⟩) ?_ ?_
          rotate_left
          · intro w'
            go_simp
            with_reducible rfl
          rotate_left
          · simp only [Act.put, List.setIfInBounds_toArray, List.set_cons_zero, List.set_cons_succ, i64_w, i32_w]
            rfl
          refine pure_ (i := 32) (N := some 67) (v := ?_) (a' := ?_) #[true, true, true, true, true, true, true, true, true, true, true, true, true, true, true, true, true, true, true, true, true, true, true, true, true, true, true, true, false, false, true, true, true, false, false, false, false, false, false, false, false, false, false, false, false, false, false, false, false, false, false, false, false, false, false] rfl rfl (any_of HT_.out (by kernel_rfl)) (fun _ _ _ h => h) (Or.inl ⟨by rfl, ?_⟩) ?_ ?_
          rotate_left
          · intro w'
            go_simp
            with_reducible rfl
          rotate_left
          · simp only [Act.put, List.setIfInBounds_toArray, List.set_cons_zero, List.set_cons_succ, i64_w, i32_w]
            rfl
          refine pure_ (i := 33) (N := some 68) (v := ?_) (a' := ?_) #[true, true, true, true, true, true, true, true, true, true, true, true, true, true, true, true, true, true, true, true, true, true, true, true, true, true, true, true, false, false, true, true, true, true, false, false, false, false, false, false, false, false, false, false, false, false, false, false, false, false, false, false, false, false, false] rfl rfl (any_of HT_.out (by kernel_rfl)) (fun _ _ _ h => h) (Or.inl ⟨by rfl, ?_⟩) ?_ ?_
          rotate_left
          · intro w'
            go_simp
            with_reducible rfl
          rotate_left
          · simp only [Act.put, List.setIfInBounds_toArray, List.set_cons_zero, List.set_cons_succ, i64_w, i32_w]
            rfl
          refine pure_ (i := 34) (N := some 69) (v := ?_) (a' := ?_) #[true, true, true, true, true, true, true, true, true, true, true, true, true, true, true, true, true, true, true, true, true, true, true, true, true, true, true, true, false, false, true, true, true, true, true, false, false, false, false, false, false, false, false, false, false, false, false, false, false, false, false, false, false, false, false] rfl rfl (any_of HT_.out (by kernel_rfl)) (fun _ _ _ h => h) (Or.inl ⟨by rfl, ?_⟩) ?_ ?_
          rotate_left
          · intro w'
            go_simp
            with_reducible rfl
          rotate_left
          · simp only [Act.put, List.setIfInBounds_toArray, List.set_cons_zero, List.set_cons_succ, i64_w, i32_w]
            rfl
          refine pure_ (i := 35) (N := some 70) (v := ?_) (a' := ?_) #[true, true, true, true, true, true, true, true, true, true, true, true, true, true, true, true, true, true, true, true, true, true, true, true, true, true, true, true, false, false, true, true, true, true, true, true, false, false, false, false, false, false, false, false, false, false, false, false, false, false, false, false, false, false, false] rfl rfl (any_of HT_.out (by kernel_rfl)) (fun _ _ _ h => h) (Or.inl ⟨by rfl, ?_⟩) ?_ ?_
          rotate_left
          · intro w'
            go_simp
            with_reducible rfl
          rotate_left
          · simp only [Act.put, List.setIfInBounds_toArray, List.set_cons_zero, List.set_cons_succ, i64_w, i32_w]
            rfl
          refine pure_ (i := 36) (N := some 71) (v := ?_) (a' := ?_) #[true, true, true, true, true, true, true, true, true, true, true, true, true, true, true, true, true, true, true, true, true, true, true, true, true, true, true, true, false, false, true, true, true, true, true, true, true, false, false, false, false, false, false, false, false, false, false, false, false, false, false, false, false, false, false] rfl rfl (any_of HT_.out (by kernel_rfl)) (fun _ _ _ h => h) (Or.inl ⟨by rfl, ?_⟩) ?_ ?_
          rotate_left
          · intro w'
            go_simp
            with_reducible rfl
          rotate_left
          · simp only [Act.put, List.setIfInBounds_toArray, List.set_cons_zero, List.set_cons_succ, i64_w, i32_w]
            rfl
          refine pure_ (i := 37) (N := some 72) (v := ?_) (a' := ?_) #[true, true, true, true, true, true, true, true, true, true, true, true, true, true, true, true, true, true, true, true, true, true, true, true, true, true, true, true, false, false, true, true, true, true, true, true, true, true, false, false, false, false, false, false, false, false, false, false, false, false, false, false, false, false, false] rfl rfl (any_of HT_.out (by kernel_rfl)) (fun _ _ _ h => h) (Or.inl ⟨by rfl, ?_⟩) ?_ ?_
          rotate_left
          · intro w'
            go_simp
            with_reducible rfl
          rotate_left
          · simp only [Act.put, List.setIfInBounds_toArray, List.set_cons_zero, List.set_cons_succ, i64_w, i32_w]
            rfl
          refine pure_ (i := 38) (N := some 73) (v := ?_) (a' := ?_) #[true, true, true, true, true, true, true, true, true, true, true, true, true, true, true, true, true, true, true, true, true, true, true, true, true, true, true, true, false, false, true, true, true, true, true, true, true, true, true, false, false, false, false, false, false, false, false, false, false, false, false, false, false, false, false] rfl rfl (any_of HT_.out (by kernel_rfl)) (fun _ _ _ h => h) (Or.inl ⟨by rfl, ?_⟩) ?_ ?_
          rotate_left
          · intro w'
            go_simp
            with_reducible rfl
          rotate_left
          · simp only [Act.put, List.setIfInBounds_toArray, List.set_cons_zero, List.set_cons_succ, i64_w, i32_w]
            rfl
          refine pure_ (i := 39) (N := some 74) (v := ?_) (a' := ?_) #[true, true, true, true, true, true, true, true, true, true, true, true, true, true, true, true, true, true, true, true, true, true, true, true, true, true, true, true, false, false, true, true, true, true, true, true, true, true, true, true, false, false, false, false, false, false, false, false, false, false, false, false, false, false, false] rfl rfl (any_of HT_.out (by kernel_rfl)) (fun _ _ _ h => h) (Or.inl ⟨by rfl, ?_⟩) ?_ ?_
          rotate_left
          · intro w'
            go_simp
            with_reducible rfl
          rotate_left
          · simp only [Act.put, List.setIfInBounds_toArray, List.set_cons_zero, List.set_cons_succ, i64_w, i32_w]
            rfl
          refine pure_ (i := 40) (N := some 75) (v := ?_) (a' := ?_) #[true, true, true, true, true, true, true, true, true, true, true, true, true, true, true, true, true, true, true, true, true, true, true, true, true, true, true, true, false, false, true, true, true, true, true, true, true, true, true, true, true, false, false, false, false, false, false, false, false, false, false, false, false, false, false] rfl rfl (any_of HT_.out (by kernel_rfl)) (fun _ _ _ h => h) (Or.inl ⟨by rfl, ?_⟩) ?_ ?_
          rotate_left
          · intro w'
            go_simp
            with_reducible rfl
          rotate_left
          · simp only [Act.put, List.setIfInBounds_toArray, List.set_cons_zero, List.set_cons_succ, i64_w, i32_w]
            rfl
          refine pure_ (i := 41) (N := some 76) (v := ?_) (a' := ?_) #[true, true, true, true, true, true, true, true, true, true, true, true, true, true, true, true, true, true, true, true, true, true, true, true, true, true, true, true, false, false, true, true, true, true, true, true, true, true, true, true, true, true, false, false, false, false, false, false, false, false, false, false, false, false, false] rfl rfl (any_of HT_.out (by kernel_rfl)) (fun _ _ _ h => h) (Or.inl ⟨by rfl, ?_⟩) ?_ ?_
          rotate_left
          · intro w'
            go_simp
            with_reducible rfl
          rotate_left
          · simp only [Act.put, List.setIfInBounds_toArray, List.set_cons_zero, List.set_cons_succ, i64_w, i32_w]
            rfl
          refine take_ (i := 28) (N := some 63) (v := ?_) (a' := ?_) #[true, true, true, true, true, true, true, true, true, true, true, true, true, true, true, true, true, true, true, true, true, true, true, true, true, true, true, true, true, false, true, true, true, true, true, true, true, true, true, true, true, true, false, false, false, false, false, false, false, false, false, false, false, false, false] rfl rfl (take_ofW HT_.out HW_.out (by kernel_rfl)) (fun _ _ _ h => h) (Or.inl ⟨by rfl, ?_⟩) hHeld ?_ ?_
          rotate_left
          · rintro w' ⟨s0, s1, s2, s3, s4, s5, s6, s7, s8, s9, s10, s11⟩
            go_simp
            with_reducible rfl
          rotate_left
          · simp only [Act.put, List.setIfInBounds_toArray, List.set_cons_zero, List.set_cons_succ, i64_w, i32_w]
            rfl
          refine take_ (i := 29) (N := some 64) (v := ?_) (a' := ?_) #[true, true, true, true, true, true, true, true, true, true, true, true, true, true, true, true, true, true, true, true, true, true, true, true, true, true, true, true, true, true, true, true, true, true, true, true, true, true, true, true, true, true, false, false, false, false, false, false, false, false, false, false, false, false, false] rfl rfl (take_ofW HT_.out HW_.out (by kernel_rfl)) (fun _ _ _ h => h) (Or.inl ⟨by rfl, ?_⟩) hHeld ?_ ?_
          rotate_left
          · rintro w' ⟨s0, s1, s2, s3, s4, s5, s6, s7, s8, s9, s10, s11⟩
            go_simp
            with_reducible rfl
          rotate_left
          · simp only [Act.put, List.setIfInBounds_toArray, List.set_cons_zero, List.set_cons_succ, i64_w, i32_w]
            rfl
          refine one_ (i := 42) (N := some 77) #[true, true, true, true, true, true, true, true, true, true, true, true, true, true, true, true, true, true, true, true, true, true, true, true, true, true, true, true, true, true, true, true, true, true, true, true, true, true, true, true, true, true, true, false, false, false, false, false, false, false, false, false, false, false, false] rfl rfl (one_of HT_.out (by kernel_rfl)) (by decide) (fun K hK => ?_)
          refine goes_ Try.func20 (by kernel_rfl) rfl #[.agg #[.int .i64 t183, .int .i64 t184, .int .i64 t185, .int .i64 t186], .int .i64 (wrap64 (t189 + t191)), .int .i64 (wrap64 (t189 + t191)), .int .i64 (wrap64 (t193 + t195)), .int .i64 (wrap64 (t193 + t195))] (by rfl) rfl rfl (by (try simp only [List.map_toArray, List.map_cons, List.map_nil]); first | done | rfl | (simp only [List.length_drop, List.length_take]; rfl)) ?_
          with_reducible refine (rect_Outset.calls k t183 t184 t185 t186 (wrap64 (t189 + t191)) (wrap64 (t189 + t191)) (wrap64 (t193 + t195)) (wrap64 (t193 + t195)) t209 t210 t211 t212 _ A14.out).mono ?_
          rintro e w44 ⟨rfl, hb⟩
          refine ⟨_, rfl, ?_⟩
          have n0_ := Aside0.mk (IsS46.below (by repeat (first | (with_reducible first | exact HI182.out | apply IsS46.alloc | apply IsS46.drewN | apply IsS46.drew | apply IsS46.set_1 | refine IsS46.far ?_ NB182_188.out _ | refine IsS46.far ?_ NB182_201.out _ | refine IsS46.far ?_ NB182_206.out _) | exact HI182.out)) hb)
          have n1_ := Aside0.mk (blk_below (g := gb188) (o := .cells #[.int .i64 t183, .int .i64 t184, .int .i64 t185, .int .i64 t186] 26 (0, 0)) (by (with_reducible repeat (first | refine blk_drewN ?_ _ | refine blk_drew ?_ | refine blk_alloc ?_ _)); exact BK188.out) hb)
          have n2_ := Aside0.mk (blk_below (g := gb201) (o := .cells #[.int .i64 t197, .int .i64 t198, .int .i64 t199, .int .i64 t200] 26 (0, 0)) (by (with_reducible repeat (first | refine blk_drewN ?_ _ | refine blk_drew ?_ | refine blk_alloc ?_ _)); exact BK201.out) hb)
          have n3_ := Aside0.mk (blk_below (g := gb206) (o := .cells #[.int .i64 t202, .int .i64 t203, .int .i64 t204, .int .i64 t205] 26 (0, 0)) (by (with_reducible repeat (first | refine blk_drewN ?_ _ | refine blk_drew ?_ | refine blk_alloc ?_ _)); exact BK206.out) hb)
          have n4_ := Aside0.mk (below_step (by repeat (first | (with_reducible first | exact HB.out | apply below_alloc | apply pw_below_drewN | apply below_drew1 | refine below_set ?_ (IsS46.ge HI182.out) | refine below_set ?_ GE188.out | refine below_set ?_ GE201.out | refine below_set ?_ GE206.out) | exact HB.out)) hb)
          clear HI182
          clear BK188
          clear BK201
          clear BK206
          clear HB
          have HI182 := n0_
          have BK188 := n1_
          have BK201 := n2_
          have BK206 := n3_
          have HB := n4_
          clear n0_ n1_ n2_ n3_ n4_
          (try clear hb)
          (try clear hb2)
          (try clear hk)
          (try clear hi)
          refine hK.out _ _ ⟨(blk_cell BK188.out 0).trans rfl, (blk_cell BK188.out 1).trans rfl, (blk_cell BK188.out 2).trans rfl, (blk_cell BK188.out 3).trans rfl, (blk_cell BK201.out 0).trans rfl, (blk_cell BK201.out 1).trans rfl, (blk_cell BK201.out 2).trans rfl, (blk_cell BK201.out 3).trans rfl, (blk_cell BK206.out 0).trans rfl, (blk_cell BK206.out 1).trans rfl, (blk_cell BK206.out 2).trans rfl, (blk_cell BK206.out 3).trans rfl⟩ (fun hHeld => ?_)
          clear hK K
          refine norm_ (a' := ?_) ?_ ?_
          rotate_left
          · show Act.put _ (some 77) _ = _
            simp only [Act.put, List.setIfInBounds_toArray, List.set_cons_zero, List.set_cons_succ, i64_w, i32_w]
            rfl
          refine pure_ (i := 43) (N := some 78) (v := ?_) (a' := ?_) #[true, true, true, true, true, true, true, true, true, true, true, true, true, true, true, true, true, true, true, true, true, true, true, true, true, true, true, true, true, true, true, true, true, true, true, true, true, true, true, true, true, true, true, true, false, false, false, false, false, false, false, false, false, false, false] rfl rfl (any_of HT_.out (by kernel_rfl)) (fun _ _ _ h => h) (Or.inl ⟨by rfl, ?_⟩) ?_ ?_
          rotate_left
          · intro w'
            go_simp
            with_reducible rfl
          rotate_left
          · simp only [Act.put, List.setIfInBounds_toArray, List.set_cons_zero, List.set_cons_succ, i64_w, i32_w]
            rfl
          refine pure_ (i := 44) (N := some 79) (v := ?_) (a' := ?_) #[true, true, true, true, true, true, true, true, true, true, true, true, true, true, true, true, true, true, true, true, true, true, true, true, true, true, true, true, true, true, true, true, true, true, true, true, true, true, true, true, true, true, true, true, true, false, false, false, false, false, false, false, false, false, false] rfl rfl (any_of HT_.out (by kernel_rfl)) (fun _ _ _ h => h) (Or.inl ⟨by rfl, ?_⟩) ?_ ?_
          rotate_left
          · intro w'
            go_simp
            with_reducible rfl
          rotate_left
          · simp only [Act.put, List.setIfInBounds_toArray, List.set_cons_zero, List.set_cons_succ, i64_w, i32_w]
            rfl
          refine pure_ (i := 45) (N := some 80) (v := ?_) (a' := ?_) #[true, true, true, true, true, true, true, true, true, true, true, true, true, true, true, true, true, true, true, true, true, true, true, true, true, true, true, true, true, true, true, true, true, true, true, true, true, true, true, true, true, true, true, true, true, true, false, false, false, false, false, false, false, false, false] rfl rfl (any_of HT_.out (by kernel_rfl)) (fun _ _ _ h => h) (Or.inl ⟨by rfl, ?_⟩) ?_ ?_
          rotate_left
          · intro w'
            go_simp
            with_reducible rfl
          rotate_left
          · simp only [Act.put, List.setIfInBounds_toArray, List.set_cons_zero, List.set_cons_succ, i64_w, i32_w]
            rfl
          refine take_ (i := 46) (N := some 81) (v := ?_) (a' := ?_) #[true, true, true, true, true, true, true, true, true, true, true, true, true, true, true, true, true, true, true, true, true, true, true, true, true, true, true, true, true, true, true, true, true, true, true, true, true, true, true, true, true, true, true, true, true, true, true, false, false, false, false, false, false, false, false] rfl rfl (take_ofW HT_.out HW_.out (by kernel_rfl)) (fun _ _ _ h => h) (Or.inl ⟨by rfl, ?_⟩) hHeld ?_ ?_
          rotate_left
          · rintro w' ⟨s0, s1, s2, s3, s4, s5, s6, s7, s8, s9, s10, s11⟩
            go_simp
            with_reducible rfl
          rotate_left
          · simp only [Act.put, List.setIfInBounds_toArray, List.set_cons_zero, List.set_cons_succ, i64_w, i32_w]
            rfl
          refine take_ (i := 48) (N := some 83) (v := ?_) (a' := ?_) #[true, true, true, true, true, true, true, true, true, true, true, true, true, true, true, true, true, true, true, true, true, true, true, true, true, true, true, true, true, true, true, true, true, true, true, true, true, true, true, true, true, true, true, true, true, true, true, false, true, false, false, false, false, false, false] rfl rfl (take_ofW HT_.out HW_.out (by kernel_rfl)) (fun _ _ _ h => h) (Or.inl ⟨by rfl, ?_⟩) hHeld ?_ ?_
          rotate_left
          · rintro w' ⟨s0, s1, s2, s3, s4, s5, s6, s7, s8, s9, s10, s11⟩
            go_simp
            with_reducible rfl
          rotate_left
          · simp only [Act.put, List.setIfInBounds_toArray, List.set_cons_zero, List.set_cons_succ, i64_w, i32_w]
            rfl
          refine one_ (i := 47) (N := some 82) #[true, true, true, true, true, true, true, true, true, true, true, true, true, true, true, true, true, true, true, true, true, true, true, true, true, true, true, true, true, true, true, true, true, true, true, true, true, true, true, true, true, true, true, true, true, true, true, true, true, false, false, false, false, false, false] rfl rfl (one_of HT_.out (by kernel_rfl)) (by decide) (fun K hK => ?_)
          refine goes_ Try.func20 (by kernel_rfl) rfl #[.agg #[.int .i64 t183, .int .i64 t184, .int .i64 t185, .int .i64 t186], .int .i64 0, .int .i64 0, .int .i64 0, .int .i64 0] (by rfl) rfl rfl (by (try simp only [List.map_toArray, List.map_cons, List.map_nil]); first | done | rfl | (simp only [List.length_drop, List.length_take]; rfl)) ?_
          with_reducible refine (rect_Outset.calls k t183 t184 t185 t186 0 0 0 0 t213 t214 t215 t216 _ A16.out).mono ?_
          rintro e w45 ⟨rfl, hb⟩
          refine ⟨_, rfl, ?_⟩
          have n0_ := Aside0.mk (IsS46.below (by repeat (first | (with_reducible first | exact HI182.out | apply IsS46.alloc | apply IsS46.drewN | apply IsS46.drew | apply IsS46.set_1 | refine IsS46.far ?_ NB182_188.out _ | refine IsS46.far ?_ NB182_201.out _ | refine IsS46.far ?_ NB182_206.out _) | exact HI182.out)) hb)
          have n1_ := Aside0.mk (blk_below (g := gb188) (o := .cells #[.int .i64 t183, .int .i64 t184, .int .i64 t185, .int .i64 t186] 26 (0, 0)) (by (with_reducible repeat (first | refine blk_drewN ?_ _ | refine blk_drew ?_ | refine blk_alloc ?_ _)); exact BK188.out) hb)
          have n2_ := Aside0.mk (blk_below (g := gb201) (o := .cells #[.int .i64 t197, .int .i64 t198, .int .i64 t199, .int .i64 t200] 26 (0, 0)) (by (with_reducible repeat (first | refine blk_drewN ?_ _ | refine blk_drew ?_ | refine blk_alloc ?_ _)); exact BK201.out) hb)
          have n3_ := Aside0.mk (blk_below (g := gb206) (o := .cells #[.int .i64 t202, .int .i64 t203, .int .i64 t204, .int .i64 t205] 26 (0, 0)) (by (with_reducible repeat (first | refine blk_drewN ?_ _ | refine blk_drew ?_ | refine blk_alloc ?_ _)); exact BK206.out) hb)
          have n4_ := Aside0.mk (below_step (by repeat (first | (with_reducible first | exact HB.out | apply below_alloc | apply pw_below_drewN | apply below_drew1 | refine below_set ?_ (IsS46.ge HI182.out) | refine below_set ?_ GE188.out | refine below_set ?_ GE201.out | refine below_set ?_ GE206.out) | exact HB.out)) hb)
          clear HI182
          clear BK188
          clear BK201
          clear BK206
          clear HB
          have HI182 := n0_
          have BK188 := n1_
          have BK201 := n2_
          have BK206 := n3_
          have HB := n4_
          clear n0_ n1_ n2_ n3_ n4_
          (try clear hb)
          (try clear hb2)
          (try clear hk)
          (try clear hi)
          refine hK.out _ _ ⟨(blk_cell BK188.out 0).trans rfl, (blk_cell BK188.out 1).trans rfl, (blk_cell BK188.out 2).trans rfl, (blk_cell BK188.out 3).trans rfl, (blk_cell BK201.out 0).trans rfl, (blk_cell BK201.out 1).trans rfl, (blk_cell BK201.out 2).trans rfl, (blk_cell BK201.out 3).trans rfl, (blk_cell BK206.out 0).trans rfl, (blk_cell BK206.out 1).trans rfl, (blk_cell BK206.out 2).trans rfl, (blk_cell BK206.out 3).trans rfl⟩ (fun hHeld => ?_)
          clear hK K
          refine norm_ (a' := ?_) ?_ ?_
          rotate_left
          · show Act.put _ (some 82) _ = _
            simp only [Act.put, List.setIfInBounds_toArray, List.set_cons_zero, List.set_cons_succ, i64_w, i32_w]
            rfl
          refine pure_ (i := 49) (N := some 84) (v := ?_) (a' := ?_) #[true, true, true, true, true, true, true, true, true, true, true, true, true, true, true, true, true, true, true, true, true, true, true, true, true, true, true, true, true, true, true, true, true, true, true, true, true, true, true, true, true, true, true, true, true, true, true, true, true, true, false, false, false, false, false] rfl rfl (any_of HT_.out (by kernel_rfl)) (fun _ _ _ h => h) (Or.inl ⟨by rfl, ?_⟩) ?_ ?_
          rotate_left
          · intro w'
            go_simp
            with_reducible rfl
          rotate_left
          · simp only [Act.put, List.setIfInBounds_toArray, List.set_cons_zero, List.set_cons_succ, i64_w, i32_w]
            rfl
          refine pure_ (i := 50) (N := some 85) (v := ?_) (a' := ?_) #[true, true, true, true, true, true, true, true, true, true, true, true, true, true, true, true, true, true, true, true, true, true, true, true, true, true, true, true, true, true, true, true, true, true, true, true, true, true, true, true, true, true, true, true, true, true, true, true, true, true, true, false, false, false, false] rfl rfl (any_of HT_.out (by kernel_rfl)) (fun _ _ _ h => h) (Or.inl ⟨by rfl, ?_⟩) ?_ ?_
          rotate_left
          · intro w'
            go_simp
            with_reducible rfl
          rotate_left
          · simp only [Act.put, List.setIfInBounds_toArray, List.set_cons_zero, List.set_cons_succ, i64_w, i32_w]
            rfl
          refine pure_ (i := 51) (N := some 86) (v := ?_) (a' := ?_) #[true, true, true, true, true, true, true, true, true, true, true, true, true, true, true, true, true, true, true, true, true, true, true, true, true, true, true, true, true, true, true, true, true, true, true, true, true, true, true, true, true, true, true, true, true, true, true, true, true, true, true, true, false, false, false] rfl rfl (any_of HT_.out (by kernel_rfl)) (fun _ _ _ h => h) (Or.inl ⟨by rfl, ?_⟩) ?_ ?_
          rotate_left
          · intro w'
            go_simp
            with_reducible rfl
          rotate_left
          · simp only [Act.put, List.setIfInBounds_toArray, List.set_cons_zero, List.set_cons_succ, i64_w, i32_w]
            rfl
          refine one_ (i := 52) (N := some 87) #[true, true, true, true, true, true, true, true, true, true, true, true, true, true, true, true, true, true, true, true, true, true, true, true, true, true, true, true, true, true, true, true, true, true, true, true, true, true, true, true, true, true, true, true, true, true, true, true, true, true, true, true, true, false, false] rfl rfl (one_of HT_.out (by kernel_rfl)) (by decide) (fun K hK => ?_)
          refine goes_ Try.func10 (by kernel_rfl) rfl #[] (by rfl) rfl rfl (by (try simp only [List.map_toArray, List.map_cons, List.map_nil]); first | done | rfl | (simp only [List.length_drop, List.length_take]; rfl)) ?_
          with_reducible refine (tilefarmlaw2_sane.calls k  t217 _ A18.out).mono ?_
          rintro e w46 ⟨rfl, hb⟩
          refine ⟨_, rfl, ?_⟩
          have n0_ := Aside0.mk (IsS46.below (by repeat (first | (with_reducible first | exact HI182.out | apply IsS46.alloc | apply IsS46.drewN | apply IsS46.drew | apply IsS46.set_1 | refine IsS46.far ?_ NB182_188.out _ | refine IsS46.far ?_ NB182_201.out _ | refine IsS46.far ?_ NB182_206.out _) | exact HI182.out)) hb)
          have n1_ := Aside0.mk (blk_below (g := gb188) (o := .cells #[.int .i64 t183, .int .i64 t184, .int .i64 t185, .int .i64 t186] 26 (0, 0)) (by (with_reducible repeat (first | refine blk_drewN ?_ _ | refine blk_drew ?_ | refine blk_alloc ?_ _)); exact BK188.out) hb)
          have n2_ := Aside0.mk (blk_below (g := gb201) (o := .cells #[.int .i64 t197, .int .i64 t198, .int .i64 t199, .int .i64 t200] 26 (0, 0)) (by (with_reducible repeat (first | refine blk_drewN ?_ _ | refine blk_drew ?_ | refine blk_alloc ?_ _)); exact BK201.out) hb)
          have n3_ := Aside0.mk (blk_below (g := gb206) (o := .cells #[.int .i64 t202, .int .i64 t203, .int .i64 t204, .int .i64 t205] 26 (0, 0)) (by (with_reducible repeat (first | refine blk_drewN ?_ _ | refine blk_drew ?_ | refine blk_alloc ?_ _)); exact BK206.out) hb)
          have n4_ := Aside0.mk (below_step (by repeat (first | (with_reducible first | exact HB.out | apply below_alloc | apply pw_below_drewN | apply below_drew1 | refine below_set ?_ (IsS46.ge HI182.out) | refine below_set ?_ GE188.out | refine below_set ?_ GE201.out | refine below_set ?_ GE206.out) | exact HB.out)) hb)
          clear HI182
          clear BK188
          clear BK201
          clear BK206
          clear HB
          have HI182 := n0_
          have BK188 := n1_
          have BK201 := n2_
          have BK206 := n3_
          have HB := n4_
          clear n0_ n1_ n2_ n3_ n4_
          (try clear hb)
          (try clear hb2)
          (try clear hk)
          (try clear hi)
          refine hK.out _ _ ⟨(blk_cell BK188.out 0).trans rfl, (blk_cell BK188.out 1).trans rfl, (blk_cell BK188.out 2).trans rfl, (blk_cell BK188.out 3).trans rfl, (blk_cell BK201.out 0).trans rfl, (blk_cell BK201.out 1).trans rfl, (blk_cell BK201.out 2).trans rfl, (blk_cell BK201.out 3).trans rfl, (blk_cell BK206.out 0).trans rfl, (blk_cell BK206.out 1).trans rfl, (blk_cell BK206.out 2).trans rfl, (blk_cell BK206.out 3).trans rfl⟩ (fun hHeld => ?_)
          clear hK K
          refine norm_ (a' := ?_) ?_ ?_
          rotate_left
          · show Act.put _ (some 87) _ = _
            simp only [Act.put, List.setIfInBounds_toArray, List.set_cons_zero, List.set_cons_succ, i64_w, i32_w]
            rfl
          refine pure_ (i := 53) (N := some 88) (v := ?_) (a' := ?_) #[true, true, true, true, true, true, true, true, true, true, true, true, true, true, true, true, true, true, true, true, true, true, true, true, true, true, true, true, true, true, true, true, true, true, true, true, true, true, true, true, true, true, true, true, true, true, true, true, true, true, true, true, true, true, false] rfl rfl (any_of HT_.out (by kernel_rfl)) (fun _ _ _ h => h) (Or.inl ⟨by rfl, ?_⟩) ?_ ?_
          rotate_left
          · intro w'
            go_simp
            with_reducible rfl
          rotate_left
          · simp only [Act.put, List.setIfInBounds_toArray, List.set_cons_zero, List.set_cons_succ, i64_w, i32_w]
            rfl
          refine pure_ (i := 54) (N := some 2) (v := ?_) (a' := ?_) #[true, true, true, true, true, true, true, true, true, true, true, true, true, true, true, true, true, true, true, true, true, true, true, true, true, true, true, true, true, true, true, true, true, true, true, true, true, true, true, true, true, true, true, true, true, true, true, true, true, true, true, true, true, true, true] rfl rfl (any_of HT_.out (by kernel_rfl)) (fun _ _ _ h => h) (Or.inl ⟨by rfl, ?_⟩) ?_ ?_
          rotate_left
          · intro w'
            go_simp
            with_reducible rfl
          rotate_left
          · simp only [Act.put, List.setIfInBounds_toArray, List.set_cons_zero, List.set_cons_succ, i64_w, i32_w]
            rfl
          refine done_ (done_of HT_.out (by kernel_rfl)) ?_
          try go_wp2
          go_ret
          exact ⟨by first | rfl | (simp [errW_none, errW_some] <;> rfl) | (simp [*, errW_none, errW_some] <;> rfl), by repeat (first | (with_reducible first | exact HB.out | apply below_alloc | apply pw_below_drewN | apply below_drew1 | refine below_set ?_ (IsS46.ge HI182.out) | refine below_set ?_ GE188.out | refine below_set ?_ GE201.out | refine below_set ?_ GE206.out) | exact HB.out)⟩
        · rw [if_neg c17] at H
          have c17b0 : (t213 == t183 && (t214 == t184 && (t215 == t185 && (t216 == t186)))) = false := by simpa using c17
          (try (have c17b1 : decide (t213 = t183 && (t214 == t184 && (t215 == t185 && (t216 == t186)))) = false := by simpa using c17))
          (try (have c17b2 : (t213 == t183 && (t214 == t184 && (t215 == t185 && (t216 == t186)))) = false := by simpa using c17))
          (try (have c17b3 : ¬ (t213 = t183 && (t214 == t184 && (t215 == t185 && (t216 == t186)))) := by simpa using c17))
          clear c17
          exact absurd ((Option.some.inj H).trans HT.out) (by decide)
      · rw [if_neg c15] at H
        have c15b0 : (t202 == t209 && (t203 == t210 && (t204 == t211 && (t205 == t212)))) = false := by simpa using c15
        (try (have c15b1 : decide (t202 = t209 && (t203 == t210 && (t204 == t211 && (t205 == t212)))) = false := by simpa using c15))
        (try (have c15b2 : (t202 == t209 && (t203 == t210 && (t204 == t211 && (t205 == t212)))) = false := by simpa using c15))
        (try (have c15b3 : ¬ (t202 = t209 && (t203 == t210 && (t204 == t211 && (t205 == t212)))) := by simpa using c15))
        clear c15
        exact absurd ((Option.some.inj H).trans HT.out) (by decide)
    · rw [if_neg c13] at H
      have c13b0 : (t208 == (wrap64 ((wrap64 ((wrap64 ((wrap64 (t185 - t183)) + t189)) + t193)) * (wrap64 ((wrap64 ((wrap64 (t186 - t184)) + t191)) + t195))))) = false := beq_eq_false_iff_ne.mpr c13
      have c13b1 : (t208 != (wrap64 ((wrap64 ((wrap64 ((wrap64 (t185 - t183)) + t189)) + t193)) * (wrap64 ((wrap64 ((wrap64 (t186 - t184)) + t191)) + t195))))) = true := bne_iff_ne.mpr c13
      exact absurd ((Option.some.inj H).trans HT.out) (by decide)
  · replace c11 := Bool.eq_false_iff.mpr c11
    subst c11
    have H1 : (some false) = some r := by rw [if_neg (show ¬ (false = true) by decide)] at H; exact H
    clear H
    have H := H1
    clear H1
    exact absurd ((Option.some.inj H).trans HT.out) (by decide)

/-- THE ONE PURE STATEMENT of tilefarmlaw2_RectOutset: yours. -/
def tilefarmlaw2_RectOutset.Pure : Prop := ∀ (l0 : List Int), l0.length ≤ maxLen → l0.length * 8 ≤ 140737488351232 → (∀ x ∈ l0, (Lit.int .i64 x).wf = true) → ∃ k, tilefarmlaw2_RectOutset.f k l0 = some true
theorem tilefarmlaw2_RectOutset.walk (P : tilefarmlaw2_RectOutset.Pure) (a0 : Option Addr) (len0 cap0 : Nat) (z0 : List Int) (w : World) (w0 : (a0 = none ∧ len0 = 0 ∧ cap0 = 0 ∧ z0 = []) ∨ ∃ x, a0 = some x ∧ len0 ≤ cap0 ∧ cap0 ≤ maxLen ∧ z0.length = cap0 ∧ (∀ i, i < z0.length → w.cell? (x.add i) = some (.int .i64 (z0.getD i 0))) ∧ ∀ n ∈ z0, (Lit.int .i64 n).wf = true) (y0 : len0 * 8 ≤ 140737488351232) :
    Calls Try.prog 5 #[.slice a0 len0 cap0] w fun e w' => e = .returned (.bool true) ∧ Below w.heap.size w w' := by
  obtain ⟨l0, rfl, hr0, hm0, hw0, hc0⟩ := ReadsInt.ofRowC w0
  obtain ⟨k, h⟩ := P l0 hm0 y0 hw0
  refine (tilefarmlaw2_RectOutset.calls k _ _ l0 true w (Kd.C_of_reads (d := (0 : Int)) (h1 := fun _ => rfl) hr0) hc0 h).mono ?_
  rintro e w' ⟨rfl, hd⟩
  exact ⟨rfl, hd⟩

end Go.Proofs.Ytdkmgcckcimhfaa.PRectOutset

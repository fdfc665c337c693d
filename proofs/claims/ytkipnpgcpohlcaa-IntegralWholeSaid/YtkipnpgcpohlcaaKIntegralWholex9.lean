-- Written by a program of the session (wip/tools/pack.py): the printed texts, pruned; checked by Lean.
import Derived.Test.YtkipnpgcpohlcaaKIntegralWholea
import Derived.Test.YtkipnpgcpohlcaaKIntegralWholex0
import Derived.Test.YtkipnpgcpohlcaaKIntegralWholex4
import Derived.Test.YtkipnpgcpohlcaaKIntegralWholex6
import Derived.Test.YtkipnpgcpohlcaaKIntegralWholex7
import Derived.Test.YtkipnpgcpohlcaaKIntegralWholex8
namespace Go.Proofs.Ytkipnpgcpohlcaa.PIntegralWhole
open Go.RowKit Go.Proofs.YtkipnpgcpohlcaaW.PrintWords Go.Proofs.YtkipnpgcpohlcaaW.PrintLast Go.Proofs.YtkipnpgcpohlcaaW.PrintMore
attribute [local go_sem] max2_int min2_int max_two min_two max_three min_three max_four min_four   -- for this text's walks alone
set_option linter.unusedVariables false
set_option linter.unusedSimpArgs false
section
open Go Kd
variable {P : Program} {ops : Array Oper} {Q : Exit → Act → World → Prop}
theorem goesR_ {oi : Oper} {N : Option Tmp} {a : Act} {w : World} {K : Act → World → Prop} {f : FuncId} {fn : Func} {t : Tmp} {as_ : Array Operand} {ts : Array TypeId} (hf : P.funcs[f]? = some fn) (hname : (fn.name == "runtime.NumGoroutine") = false) (hb : fn.body.isSome = true) (args caps all : Array Value)
  (hw : Region.wanted oi (yielded ops a.tmps) = true) (hN : oi.dst = N) (hop : oi.op = .call { callee := .value (.tmp t), args := as_, argTypes := ts }) (hc : a.eval (.tmp t) = .func (.func f) #[] caps) (hargs : as_.map a.eval = args) (hall : args ++ caps = all)
  (h : Calls P f all w fun e w' => ∃ v, e = .returned v ∧ K (a.put N v) w') : if Region.wanted oi (yielded ops a.tmps) = true then Oper.wp P oi a w K Q else K (a.put N undef) w := by
 refine call_ f all hw hN ?_ h; have he := enters_ hf hname hb all w; unfold execOp; simp only [hop, resolve, Deferred.ofValue, hc, hargs, Sem.run_bind, Sem.run_pure]
 simp [invoke, hall, he]
end
def integral_Sum.j0 : Nat → Bool → Int → Int → Int → List Int → Int → Int → Int → Int → Option (Int × Int)
 | 0, _, _, _, _, _, _, _, _, _ => none
 | k + 1, x21, x242000, x242001, x242002, x242003, x243000, x243001, x243002, x243003 => if x21 = true then (some (0, 8)) else ((integral_Sum_1.f x243002 x243003 x242000 x242001 x242002 x242003).bind fun t246 => ((integral_Sum_1.f x243000 x243003 x242000 x242001 x242002 x242003).bind fun t247 => ((integral_Sum_1.f x243002 x243001 x242000 x242001 x242002 x242003).bind fun t248 => ((integral_Sum_1.f x243000 x243001 x242000 x242001 x242002 x242003).bind fun t249 => (some (wrap64 ((wrap64 ((wrap64 (t246 - t247)) - t248)) + t249), 0))))))
def integral_Sum.f (k : Nat) (a0_0 : Int) (a0_1 : Int) (a0_2 : Int) (l0_3 : List Int) (a1_0 : Int) (a1_1 : Int) (a1_2 : Int) (a1_3 : Int) : Option (Int × Int) := (plane_Valid.f k a0_0 a0_1 a0_2 l0_3).bind fun t243 => (if t243 = true then ((rect_Empty.f a1_0 a1_1 a1_2 a1_3).bind fun t244 => (if t244 = true then (integral_Sum.j0 k true a0_0 a0_1 a0_2 l0_3 a1_0 a1_1 a1_2 a1_3) else ((rect_Inside.f k a1_0 a1_1 a1_2 a1_3 0 0 a0_0 a0_1).bind fun t245 => (integral_Sum.j0 k (!t245) a0_0 a0_1 a0_2 l0_3 a1_0 a1_1 a1_2 a1_3)))) else (some (0, 1)))
theorem integral_Sum.mono_l : ∀ k, (∀ y0 y1 y2 y3 y4 y5 y6 y7 y8, LeO (integral_Sum.j0 k y0 y1 y2 y3 y4 y5 y6 y7 y8) (integral_Sum.j0 (k + 1) y0 y1 y2 y3 y4 y5 y6 y7 y8))
 | 0 => fun _ _ _ _ _ _ _ _ _ r h => by simp [integral_Sum.j0] at h
 | k + 1 => by
  have ih0 := integral_Sum.mono_l k
  ·intro y0 y1 y2 y3 y4 y5 y6 y7 y8
   unfold integral_Sum.j0
   repeat' first
   | (with_reducible exact ih0 _ _ _ _ _ _ _ _ _)
   | (with_reducible exact plane_Valid.mono _ _ _ _ _)
   | (with_reducible exact rect_Inside.mono _ _ _ _ _ _ _ _ _)
   | (with_reducible exact LeO.refl _)
   | (with_reducible exact LeO.none _)
   | (with_reducible refine LeO.ite ?_ ?_)
   | (with_reducible refine LeO.bind ?_ (fun _ => ?_))
   | exact ih0 _ _ _ _ _ _ _ _ _
   | exact plane_Valid.mono _ _ _ _ _
   | exact rect_Inside.mono _ _ _ _ _ _ _ _ _
   | exact LeO.none _
   | refine LeO.ite ?_ ?_
   | refine LeO.bind ?_ (fun _ => ?_)
theorem integral_Sum.mono : ∀ a0 a1 a2 a3 a4 a5 a6 a7 k, LeO (integral_Sum.f k a0 a1 a2 a3 a4 a5 a6 a7) (integral_Sum.f (k + 1) a0 a1 a2 a3 a4 a5 a6 a7) := by
 intro a0 a1 a2 a3 a4 a5 a6 a7 k; have ih0 := integral_Sum.mono_l k; unfold integral_Sum.f
 repeat' first
   | (with_reducible exact ih0 _ _ _ _ _ _ _ _ _)
   | (with_reducible exact plane_Valid.mono _ _ _ _ _)
   | (with_reducible exact rect_Inside.mono _ _ _ _ _ _ _ _ _)
   | (with_reducible exact LeO.refl _)
   | (with_reducible exact LeO.none _)
   | (with_reducible refine LeO.ite ?_ ?_)
   | (with_reducible refine LeO.bind ?_ (fun _ => ?_))
   | exact ih0 _ _ _ _ _ _ _ _ _
   | exact plane_Valid.mono _ _ _ _ _
   | exact rect_Inside.mono _ _ _ _ _ _ _ _ _
   | exact LeO.none _
   | refine LeO.ite ?_ ?_
   | refine LeO.bind ?_ (fun _ => ?_)
def integral_Sum.T6 : Bool × List (List Nat × List Nat) := (true, [([], []), ([], []), ([1], [1]), ([], []), ([3], [3]), ([0, 2, 4], [0, 2, 4]), ([], []), ([], []), ([7], [7]), ([], []), ([9], [9]), ([6, 8, 10, 5], [6, 8, 10]), ([5, 11], [5, 11]), ([], []), ([], []), ([14], [14]), ([], []), ([16], [16]), ([13, 15, 17, 11], [13, 15, 17]), ([12, 18], [12, 18]), ([], []), ([], []), ([21], [21]), ([], []), ([23], [23]), ([20, 22, 24, 18], [20, 22, 24]), ([19, 25], [19, 25]), ([26, 25, 0, 1, 2, 3, 4, 5, 6, 7, 8, 9, 10, 11, 12, 13, 14, 15, 16, 17, 18, 19, 20, 21, 22, 23, 24, 25, 26], [26]), ([27, 0, 1, 2, 3, 4, 5, 6, 7, 8, 9, 10, 11, 12, 13, 14, 15, 16, 17, 18, 19, 20, 21, 22, 23, 24, 25, 26, 27], [])])
def integral_Sum.B6 : List Nat := [0, 0, 2, 0, 8, 31, 0, 0, 128, 0, 512, 2047, 4095, 0, 0, 16384, 0, 65536, 258047, 524287, 0, 0, 2097152, 0, 8388608, 33026047, 67108863, 134217727, 268435455]
theorem integral_Sum.tab6 : rtab .any (opsOf Try.f13 6) = integral_Sum.T6 := by kernel_rfl
theorem integral_Sum.bits6 : waitsOk integral_Sum.T6.2 integral_Sum.B6 = true := by kernel_rfl
set_option maxHeartbeats 8000000 in
set_option maxRecDepth 100000 in
theorem integral_Sum.calls (k : Nat) (a0_0 : Int) (a0_1 : Int) (a0_2 : Int) (A0_3 : Option Addr) (c0_3 : Nat) (l0_3 : List Int) (a1_0 : Int) (a1_1 : Int) (a1_2 : Int) (a1_3 : Int) (r1 : Int) (r2 : Int) (w : World) (hr0_3 : Kd.C (Kd.int .i64) w A0_3 l0_3.length l0_3) (hc0_3 : l0_3.length ≤ c0_3) (h : integral_Sum.f k a0_0 a0_1 a0_2 l0_3 a1_0 a1_1 a1_2 a1_3 = some (r1, r2)) :
  Calls Try.prog 13 #[.agg #[.int .i64 a0_0, .int .i64 a0_1, .int .i64 a0_2, .slice A0_3 l0_3.length c0_3], .agg #[.int .i64 a1_0, .int .i64 a1_1, .int .i64 a1_2, .int .i64 a1_3]] w fun e w' => e = .returned (.tuple #[.int .i64 r1, .int .i64 r2]) ∧ Below w.heap.size w w' := by
 have hu26 := Try.underlying26; have hu32 := Try.underlying32; have HR0_3 := am_ hr0_3; have HC0_3 := am_ hc0_3; clear hr0_3 hc0_3; have HB := am_ (Below.refl w.heap.size w); have H : ((plane_Valid.f k a0_0 a0_1 a0_2 l0_3).bind fun t243 => (if t243 = true then ((rect_Empty.f a1_0 a1_1 a1_2 a1_3).bind fun t244 => (if t244 = true then (integral_Sum.j0 k true a0_0 a0_1 a0_2 l0_3 a1_0 a1_1 a1_2 a1_3) else ((rect_Inside.f k a1_0 a1_1 a1_2 a1_3 0 0 a0_0 a0_1).bind fun t245 => (integral_Sum.j0 k (!t245) a0_0 a0_1 a0_2 l0_3 a1_0 a1_1 a1_2 a1_3)))) else (some (0, 1)))) = some (r1, r2) := h; clear h; replace H := Option.bind_eq_some_iff.mp H; obtain ⟨t243, A30, H⟩ := H; replace H : (if t243 = true then ((rect_Empty.f a1_0 a1_1 a1_2 a1_3).bind fun t244 => (if t244 = true then (integral_Sum.j0 k true a0_0 a0_1 a0_2 l0_3 a1_0 a1_1 a1_2 a1_3) else ((rect_Inside.f k a1_0 a1_1 a1_2 a1_3 0 0 a0_0 a0_1).bind fun t245 => (integral_Sum.j0 k (!t245) a0_0 a0_1 a0_2 l0_3 a1_0 a1_1 a1_2 a1_3)))) else (some (0, 1))) = some (r1, r2) := H; have A3 := am_ A30; clear A30
 by_cases c4 : t243 = true
 ·subst c4
  have H1 : ((rect_Empty.f a1_0 a1_1 a1_2 a1_3).bind fun t244 => (if t244 = true then (integral_Sum.j0 k true a0_0 a0_1 a0_2 l0_3 a1_0 a1_1 a1_2 a1_3) else ((rect_Inside.f k a1_0 a1_1 a1_2 a1_3 0 0 a0_0 a0_1).bind fun t245 => (integral_Sum.j0 k (!t245) a0_0 a0_1 a0_2 l0_3 a1_0 a1_1 a1_2 a1_3)))) = some (r1, r2) := by rw [if_pos rfl] at H; exact H
  clear H; have H := H1; clear H1; have HC5 := am_ H; clear H
  go_enter Try.func13, Try.ntmps13
  go_upto_region 3 with (first | ((with_reducible refine gate_dst (N := 2) rfl ?_); refine box_event ?hg (N := 2) ?hd (cs := #[.int .i64 a0_0, .int .i64 a0_1, .int .i64 a0_2, .slice A0_3 l0_3.length c0_3]) (t := 26) ?hr ?_; (case hd => rfl); (case hg => rfl); (case hr => first | (go_simp; done) | (go_simp; rfl)); intro gb241 hg w6 hbox hb; have n0_ := am_ (below_step q143_ hb); have n1_ := am_ (hbox); have n2_ := am_ ((q108_ : w.heap.size ≤ gb241)); have n3_ := am_ ((q108_ : w.heap.size ≤ gb241)); clear HB; have HB := n0_; have BK241 := n1_; have GW241 := n2_; have GE241 := n3_; clear n0_ n1_ n2_ n3_; clear hb hbox hg) | ((with_reducible refine gate_dst (N := 3) rfl ?_); refine box_event ?hg (N := 3) ?hd (cs := #[.int .i64 a1_0, .int .i64 a1_1, .int .i64 a1_2, .int .i64 a1_3]) (t := 32) ?hr ?_; (case hd => rfl); (case hg => rfl); (case hr => first | (go_simp; done) | (go_simp; rfl)); intro gb242 hg w7 hbox hb; have n0_ := am_ (blk_below (g := gb241) (o := .cells #[.int .i64 a0_0, .int .i64 a0_1, .int .i64 a0_2, .slice A0_3 l0_3.length c0_3] 26 (0, 0)) q165_ hb); have n1_ := am_ (below_step q119_ hb); have n2_ := am_ (hbox); have n3_ := am_ ((q85_ : w.heap.size ≤ gb242)); have n4_ := am_ ((q85_ : w.heap.size ≤ gb242)); have n5_ := am_ ((by rw [hg]; exact Nat.ne_of_lt (blk_lt (g := gb241) (o := .cells #[.int .i64 a0_0, .int .i64 a0_1, .int .i64 a0_2, .slice A0_3 l0_3.length c0_3] 26 (0, 0)) q165_) : gb241 ≠ gb242)); have n6_ := am_ ((by rw [hg]; exact Nat.ne_of_gt (blk_lt (g := gb241) (o := .cells #[.int .i64 a0_0, .int .i64 a0_1, .int .i64 a0_2, .slice A0_3 l0_3.length c0_3] 26 (0, 0)) q165_) : gb242 ≠ gb241)); clear BK241 HB; have BK241 := n0_; have HB := n1_; have BK242 := n2_; have GW242 := n3_; have GE242 := n4_; have NB241_242 := n5_; have NB242_241 := n6_; clear n0_ n1_ n2_ n3_ n4_ n5_ n6_; clear hb hbox hg; have hnb8 := NB241_242.out; have hnc8 := NB242_241.out; have hcz9_0 := bc0_ BK241.out; have hcz9_1 := bc1_ BK241.out; have hcz9_2 := bc2_ BK241.out; have hcz9_3 := bc3_ BK241.out; have hfz9_0 := blk_frozen BK241.out 0; have hfz9_1 := blk_frozen BK241.out 1; have hfz9_2 := blk_frozen BK241.out 2; have hfz9_3 := blk_frozen BK241.out 3) | ((with_reducible refine gate_callee (f := 31) rfl ?_); refine goesL_ (some 8) rfl rfl Try.func31 (by kernel_rfl) rfl #[.agg #[.int .i64 a0_0, .int .i64 a0_1, .int .i64 a0_2, .slice A0_3 l0_3.length c0_3]] rfl q140_ ?_; (with_reducible refine (plane_Valid.calls k a0_0 a0_1 a0_2 _ _ l0_3 true _ ?side1 ?side2 A3.out).mono ?_); (case side1 => repeat (first | exact (Kd.C_below HR0_3.out HB.out) | (with_reducible refine Kd.C_alloc ?_ _) | (with_reducible refine Kd.C_drewN ?_ _) | (with_reducible refine Kd.C_drew ?_))); (case side2 => exact HC0_3.out); rintro e w10 ⟨rfl, hb⟩; refine ⟨_, rfl, ?_⟩; have n0_ := am_ (blk_below (g := gb241) (o := .cells #[.int .i64 a0_0, .int .i64 a0_1, .int .i64 a0_2, .slice A0_3 l0_3.length c0_3] 26 (0, 0)) q165_ hb); have n1_ := am_ (blk_below (g := gb242) (o := .cells #[.int .i64 a1_0, .int .i64 a1_1, .int .i64 a1_2, .int .i64 a1_3] 32 (0, 0)) q166_ hb); have n2_ := am_ (below_step q94_ hb); clear BK241 BK242 HB; have BK241 := n0_; have BK242 := n1_; have HB := n2_; clear n0_ n1_ n2_; (try clear hb); (try clear hb2); (try clear hk); (try clear hi)))
  (try simp only [Act.put, la_, lz_, ls_])
  go_cut [21] (fun v21 wc => ∃ (kq : Nat) (x21_4 : Bool), v21 = .bool x21_4 ∧ Aside0 (integral_Sum.j0 kq x21_4 a0_0 a0_1 a0_2 l0_3 a1_0 a1_1 a1_2 a1_3 = some (r1, r2)) ∧ Aside0 (kq ≤ k) ∧ Aside0 (wc.heap[gb241]? = some (.cells #[.int .i64 a0_0, .int .i64 a0_1, .int .i64 a0_2, (.slice A0_3 l0_3.length c0_3)] 26 (0, 0))) ∧ Aside0 (wc.heap[gb242]? = some (.cells #[.int .i64 a1_0, .int .i64 a1_1, .int .i64 a1_2, .int .i64 a1_3] 32 (0, 0))) ∧ Aside0 (Below w.heap.size w wc))
  case first =>
   have H := HC5.out; clear HC5; replace H := Option.bind_eq_some_iff.mp H; obtain ⟨t244, A110, H⟩ := H; replace H : (if t244 = true then (integral_Sum.j0 k true a0_0 a0_1 a0_2 l0_3 a1_0 a1_1 a1_2 a1_3) else ((rect_Inside.f k a1_0 a1_1 a1_2 a1_3 0 0 a0_0 a0_1).bind fun t245 => (integral_Sum.j0 k (!t245) a0_0 a0_1 a0_2 l0_3 a1_0 a1_1 a1_2 a1_3))) = some (r1, r2) := H; have A11 := am_ A110; clear A110
   by_cases c12 : t244 = true
   ·subst c12
    have H1 : (integral_Sum.j0 k true a0_0 a0_1 a0_2 l0_3 a1_0 a1_1 a1_2 a1_3) = some (r1, r2) := by rw [if_pos rfl] at H; exact H
    clear H; have H := H1; clear H1; have H' := am_ H; clear H; have hnb13 := NB242_241.out; have hnc13 := NB241_242.out; have hcz14_0 := bc0_ BK242.out; have hcz14_1 := bc1_ BK242.out; have hcz14_2 := bc2_ BK242.out; have hcz14_3 := bc3_ BK242.out; have hfz14_0 := blk_frozen BK242.out 0; have hfz14_1 := blk_frozen BK242.out 1; have hfz14_2 := blk_frozen BK242.out 2; have hfz14_3 := blk_frozen BK242.out 3
    go_wp2_with (first | ((with_reducible refine gate_callee (f := 32) rfl ?_); refine goesL_ (some 11) rfl rfl Try.func32 (by kernel_rfl) rfl #[.agg #[.int .i64 a1_0, .int .i64 a1_1, .int .i64 a1_2, .int .i64 a1_3]] rfl q140_ ?_; (with_reducible refine (rect_Empty.calls a1_0 a1_1 a1_2 a1_3 true _ A11.out).mono ?_); rintro e w15 ⟨rfl, hb⟩; refine ⟨_, rfl, ?_⟩; have n0_ := am_ (blk_below (g := gb241) (o := .cells #[.int .i64 a0_0, .int .i64 a0_1, .int .i64 a0_2, .slice A0_3 l0_3.length c0_3] 26 (0, 0)) q165_ hb); have n1_ := am_ (blk_below (g := gb242) (o := .cells #[.int .i64 a1_0, .int .i64 a1_1, .int .i64 a1_2, .int .i64 a1_3] 32 (0, 0)) q166_ hb); have n2_ := am_ (below_step q94_ hb); clear BK241 BK242 HB; have BK241 := n0_; have BK242 := n1_; have HB := n2_; clear n0_ n1_ n2_; (try clear hb); (try clear hb2); (try clear hk); (try clear hi)))
    go_meet
    case rel => exact ⟨_, (true), q217_, H', ⟨by first | omega | exact Nat.le_refl _⟩, ⟨q165_⟩, ⟨q166_⟩, ⟨q94_⟩⟩
   ·replace c12 := Bool.eq_false_iff.mpr c12
    subst c12; have H1 : ((rect_Inside.f k a1_0 a1_1 a1_2 a1_3 0 0 a0_0 a0_1).bind fun t245 => (integral_Sum.j0 k (!t245) a0_0 a0_1 a0_2 l0_3 a1_0 a1_1 a1_2 a1_3)) = some (r1, r2) := by rw [if_neg (show ¬ (false = true) by decide)] at H; exact H
    clear H; have H := H1; clear H1; replace H := Option.bind_eq_some_iff.mp H; obtain ⟨t245, A160, H⟩ := H; replace H : (integral_Sum.j0 k (!t245) a0_0 a0_1 a0_2 l0_3 a1_0 a1_1 a1_2 a1_3) = some (r1, r2) := H; have A16 := am_ A160; clear A160; have H' := am_ H; clear H; have hnb17 := NB242_241.out; have hnc17 := NB241_242.out; have hcz18_0 := bc0_ BK242.out; have hcz18_1 := bc1_ BK242.out; have hcz18_2 := bc2_ BK242.out; have hcz18_3 := bc3_ BK242.out; have hfz18_0 := blk_frozen BK242.out 0; have hfz18_1 := blk_frozen BK242.out 1; have hfz18_2 := blk_frozen BK242.out 2; have hfz18_3 := blk_frozen BK242.out 3
    go_wp2_with (first | ((with_reducible refine gate_callee (f := 32) rfl ?_); refine goesL_ (some 11) rfl rfl Try.func32 (by kernel_rfl) rfl #[.agg #[.int .i64 a1_0, .int .i64 a1_1, .int .i64 a1_2, .int .i64 a1_3]] rfl q140_ ?_; (with_reducible refine (rect_Empty.calls a1_0 a1_1 a1_2 a1_3 false _ A11.out).mono ?_); rintro e w19 ⟨rfl, hb⟩; refine ⟨_, rfl, ?_⟩; have n0_ := am_ (blk_below (g := gb241) (o := .cells #[.int .i64 a0_0, .int .i64 a0_1, .int .i64 a0_2, .slice A0_3 l0_3.length c0_3] 26 (0, 0)) q165_ hb); have n1_ := am_ (blk_below (g := gb242) (o := .cells #[.int .i64 a1_0, .int .i64 a1_1, .int .i64 a1_2, .int .i64 a1_3] 32 (0, 0)) q166_ hb); have n2_ := am_ (below_step q94_ hb); clear BK241 BK242 HB; have BK241 := n0_; have BK242 := n1_; have HB := n2_; clear n0_ n1_ n2_; (try clear hb); (try clear hb2); (try clear hk); (try clear hi); have hcz20_0 := bc0_ BK242.out; have hcz20_1 := bc1_ BK242.out; have hcz20_2 := bc2_ BK242.out; have hcz20_3 := bc3_ BK242.out; have hfz20_0 := blk_frozen BK242.out 0; have hfz20_1 := blk_frozen BK242.out 1; have hfz20_2 := blk_frozen BK242.out 2; have hfz20_3 := blk_frozen BK242.out 3; have hcz21_0 := bc0_ BK241.out; have hcz21_1 := bc1_ BK241.out; have hcz21_2 := bc2_ BK241.out; have hcz21_3 := bc3_ BK241.out; have hfz21_0 := blk_frozen BK241.out 0; have hfz21_1 := blk_frozen BK241.out 1; have hfz21_2 := blk_frozen BK241.out 2; have hfz21_3 := blk_frozen BK241.out 3) | (go_at_call 33; (with_reducible refine (rect_Inside.calls k a1_0 a1_1 a1_2 a1_3 0 0 a0_0 a0_1 t245 _ A16.out).mono ?_); rintro e w22 ⟨rfl, hb⟩; have n0_ := am_ (blk_below (g := gb241) (o := .cells #[.int .i64 a0_0, .int .i64 a0_1, .int .i64 a0_2, .slice A0_3 l0_3.length c0_3] 26 (0, 0)) q165_ hb); have n1_ := am_ (blk_below (g := gb242) (o := .cells #[.int .i64 a1_0, .int .i64 a1_1, .int .i64 a1_2, .int .i64 a1_3] 32 (0, 0)) q166_ hb); have n2_ := am_ (below_step q94_ hb); clear BK241 BK242 HB; have BK241 := n0_; have BK242 := n1_; have HB := n2_; clear n0_ n1_ n2_; (try clear hb); (try clear hb2); (try clear hk); (try clear hi)))
    go_meet
    case rel => exact ⟨_, (!t245), q217_, H', ⟨by first | omega | exact Nat.le_refl _⟩, ⟨q165_⟩, ⟨q166_⟩, ⟨q94_⟩⟩
  case rest =>
   clear HC5; (try clear c1); (try clear p2); (try clear c3); (try clear c4); (try clear c8); (try clear c12); (try clear c13); (try clear c17); (try clear hcz14_0 hcz14_1 hcz14_2 hcz14_3); (try clear hcz18_0 hcz18_1 hcz18_2 hcz18_3); (try clear hcz20_0 hcz20_1 hcz20_2 hcz20_3); (try clear hcz21_0 hcz21_1 hcz21_2 hcz21_3); (try clear hcz9_0 hcz9_1 hcz9_2 hcz9_3); (try clear hfz14_0 hfz14_1 hfz14_2 hfz14_3); (try clear hfz18_0 hfz18_1 hfz18_2 hfz18_3); (try clear hfz20_0 hfz20_1 hfz20_2 hfz20_3); (try clear hfz21_0 hfz21_1 hfz21_2 hfz21_3); (try clear hfz9_0 hfz9_1 hfz9_2 hfz9_3); obtain ⟨kq, x21_4, rfl, HA, HJ4, BK241, BK242, HB⟩ := hcut; cases kq with
   | zero => exact absurd HA.out (by simp [integral_Sum.j0])
   | succ kj4 =>
    have H := HA.out; clear HA; simp only [integral_Sum.j0] at H
    by_cases c23 : x21_4 = true
    ·subst c23
     have H1 : (some (0, 8)) = some (r1, r2) := by rw [if_pos rfl] at H; exact H
     clear H; have H := H1; clear H1; simp only [Option.some.injEq, Prod.mk.injEq] at H; obtain ⟨rfl, rfl⟩ := H
     go_wp2
     go_ret2
     exact ⟨q211_, q94_⟩
    ·replace c23 := Bool.eq_false_iff.mpr c23
     subst c23; have H1 : ((integral_Sum_1.f a1_2 a1_3 a0_0 a0_1 a0_2 l0_3).bind fun t246 => ((integral_Sum_1.f a1_0 a1_3 a0_0 a0_1 a0_2 l0_3).bind fun t247 => ((integral_Sum_1.f a1_2 a1_1 a0_0 a0_1 a0_2 l0_3).bind fun t248 => ((integral_Sum_1.f a1_0 a1_1 a0_0 a0_1 a0_2 l0_3).bind fun t249 => (some (wrap64 ((wrap64 ((wrap64 (t246 - t247)) - t248)) + t249), 0)))))) = some (r1, r2) := by rw [if_neg (show ¬ (false = true) by decide)] at H; exact H
     clear H; have H := H1; clear H1; replace H := Option.bind_eq_some_iff.mp H; obtain ⟨t246, A240, H⟩ := H; replace H : ((integral_Sum_1.f a1_0 a1_3 a0_0 a0_1 a0_2 l0_3).bind fun t247 => ((integral_Sum_1.f a1_2 a1_1 a0_0 a0_1 a0_2 l0_3).bind fun t248 => ((integral_Sum_1.f a1_0 a1_1 a0_0 a0_1 a0_2 l0_3).bind fun t249 => (some (wrap64 ((wrap64 ((wrap64 (t246 - t247)) - t248)) + t249), 0))))) = some (r1, r2) := H; have A24 := am_ A240; clear A240; replace H := Option.bind_eq_some_iff.mp H; obtain ⟨t247, A250, H⟩ := H; replace H : ((integral_Sum_1.f a1_2 a1_1 a0_0 a0_1 a0_2 l0_3).bind fun t248 => ((integral_Sum_1.f a1_0 a1_1 a0_0 a0_1 a0_2 l0_3).bind fun t249 => (some (wrap64 ((wrap64 ((wrap64 (t246 - t247)) - t248)) + t249), 0)))) = some (r1, r2) := H; have A25 := am_ A250; clear A250; replace H := Option.bind_eq_some_iff.mp H; obtain ⟨t248, A260, H⟩ := H; replace H : ((integral_Sum_1.f a1_0 a1_1 a0_0 a0_1 a0_2 l0_3).bind fun t249 => (some (wrap64 ((wrap64 ((wrap64 (t246 - t247)) - t248)) + t249), 0))) = some (r1, r2) := H; have A26 := am_ A260; clear A260; replace H := Option.bind_eq_some_iff.mp H; obtain ⟨t249, A270, H⟩ := H; replace H : (some (wrap64 ((wrap64 ((wrap64 (t246 - t247)) - t248)) + t249), 0)) = some (r1, r2) := H; have A27 := am_ A270; clear A270; simp only [Option.some.injEq, Prod.mk.injEq] at H; obtain ⟨rfl, rfl⟩ := H
     try go_wp2
     have n0_ := am_ (blk_drew BK241.out); have n1_ := am_ (blk_drew BK242.out); have n2_ := am_ (below_drew1 HB.out); clear BK241 BK242 HB; have BK241 := n0_; have BK242 := n1_; have HB := n2_; clear n0_ n1_ n2_; refine start_ (n := 29) (S := fun w' => w'.cell? ⟨gb242, 0, none⟩ = some (.int .i64 a1_0) ∧ w'.cell? ⟨gb242, 1, none⟩ = some (.int .i64 a1_1) ∧ w'.cell? ⟨gb242, 2, none⟩ = some (.int .i64 a1_2) ∧ w'.cell? ⟨gb242, 3, none⟩ = some (.int .i64 a1_3)) (ds := []) #[F_, F_, F_, F_, F_, F_, F_, F_, F_, F_, F_, F_, F_, F_, F_, F_, F_, F_, F_, F_, F_, F_, F_, F_, F_, F_, F_, F_, F_] (by kernel_rfl) rfl rfl ⟨bc0_ BK242.out, bc1_ BK242.out, bc2_ BK242.out, bc3_ BK242.out⟩ (fun hHeld => ?_); refine with_tabW integral_Sum.tab6 integral_Sum.bits6 (fun HT_ HW_ => ?_); generalize wc.drew = w28 at BK241 BK242 HB hHeld ⊢; refine pure_ (i := 0) (N := some 23) (v := ?_) (a' := ?_) #[T_, F_, F_, F_, F_, F_, F_, F_, F_, F_, F_, F_, F_, F_, F_, F_, F_, F_, F_, F_, F_, F_, F_, F_, F_, F_, F_, F_, F_] rfl rfl (any_of HT_.out (by kernel_rfl)) (fun _ _ _ h => h) (Or.inl ⟨by rfl, ?_⟩) ?_ ?_; rotate_left
     ·intro w'
      go_simp
      with_reducible rfl
     rotate_left
     ·simp only [Act.put, la_, lz_, ls_, i64_w, i32_w]
      rfl
     refine pure_ (i := 1) (N := some 24) (v := ?_) (a' := ?_) #[T_, T_, F_, F_, F_, F_, F_, F_, F_, F_, F_, F_, F_, F_, F_, F_, F_, F_, F_, F_, F_, F_, F_, F_, F_, F_, F_, F_, F_] rfl rfl (any_of HT_.out (by kernel_rfl)) (fun _ _ _ h => h) (Or.inl ⟨by rfl, ?_⟩) ?_ ?_; rotate_left
     ·intro w'
      go_simp
      with_reducible rfl
     rotate_left
     ·simp only [Act.put, la_, lz_, ls_, i64_w, i32_w]
      rfl
     refine pure_ (i := 3) (N := some 26) (v := ?_) (a' := ?_) #[T_, T_, F_, T_, F_, F_, F_, F_, F_, F_, F_, F_, F_, F_, F_, F_, F_, F_, F_, F_, F_, F_, F_, F_, F_, F_, F_, F_, F_] rfl rfl (any_of HT_.out (by kernel_rfl)) (fun _ _ _ h => h) (Or.inl ⟨by rfl, ?_⟩) ?_ ?_; rotate_left
     ·intro w'
      go_simp
      with_reducible rfl
     rotate_left
     ·simp only [Act.put, la_, lz_, ls_, i64_w, i32_w]
      rfl
     refine pure_ (i := 6) (N := some 29) (v := ?_) (a' := ?_) #[T_, T_, F_, T_, F_, F_, T_, F_, F_, F_, F_, F_, F_, F_, F_, F_, F_, F_, F_, F_, F_, F_, F_, F_, F_, F_, F_, F_, F_] rfl rfl (any_of HT_.out (by kernel_rfl)) (fun _ _ _ h => h) (Or.inl ⟨by rfl, ?_⟩) ?_ ?_; rotate_left
     ·intro w'
      go_simp
      with_reducible rfl
     rotate_left
     ·simp only [Act.put, la_, lz_, ls_, i64_w, i32_w]
      rfl
     refine pure_ (i := 7) (N := some 30) (v := ?_) (a' := ?_) #[T_, T_, F_, T_, F_, F_, T_, T_, F_, F_, F_, F_, F_, F_, F_, F_, F_, F_, F_, F_, F_, F_, F_, F_, F_, F_, F_, F_, F_] rfl rfl (any_of HT_.out (by kernel_rfl)) (fun _ _ _ h => h) (Or.inl ⟨by rfl, ?_⟩) ?_ ?_; rotate_left
     ·intro w'
      go_simp
      with_reducible rfl
     rotate_left
     ·simp only [Act.put, la_, lz_, ls_, i64_w, i32_w]
      rfl
     refine pure_ (i := 9) (N := some 32) (v := ?_) (a' := ?_) #[T_, T_, F_, T_, F_, F_, T_, T_, F_, T_, F_, F_, F_, F_, F_, F_, F_, F_, F_, F_, F_, F_, F_, F_, F_, F_, F_, F_, F_] rfl rfl (any_of HT_.out (by kernel_rfl)) (fun _ _ _ h => h) (Or.inl ⟨by rfl, ?_⟩) ?_ ?_; rotate_left
     ·intro w'
      go_simp
      with_reducible rfl
     rotate_left
     ·simp only [Act.put, la_, lz_, ls_, i64_w, i32_w]
      rfl
     refine pure_ (i := 13) (N := some 36) (v := ?_) (a' := ?_) #[T_, T_, F_, T_, F_, F_, T_, T_, F_, T_, F_, F_, F_, T_, F_, F_, F_, F_, F_, F_, F_, F_, F_, F_, F_, F_, F_, F_, F_] rfl rfl (any_of HT_.out (by kernel_rfl)) (fun _ _ _ h => h) (Or.inl ⟨by rfl, ?_⟩) ?_ ?_; rotate_left
     ·intro w'
      go_simp
      with_reducible rfl
     rotate_left
     ·simp only [Act.put, la_, lz_, ls_, i64_w, i32_w]
      rfl
     refine pure_ (i := 14) (N := some 37) (v := ?_) (a' := ?_) #[T_, T_, F_, T_, F_, F_, T_, T_, F_, T_, F_, F_, F_, T_, T_, F_, F_, F_, F_, F_, F_, F_, F_, F_, F_, F_, F_, F_, F_] rfl rfl (any_of HT_.out (by kernel_rfl)) (fun _ _ _ h => h) (Or.inl ⟨by rfl, ?_⟩) ?_ ?_; rotate_left
     ·intro w'
      go_simp
      with_reducible rfl
     rotate_left
     ·simp only [Act.put, la_, lz_, ls_, i64_w, i32_w]
      rfl
     refine pure_ (i := 16) (N := some 39) (v := ?_) (a' := ?_) #[T_, T_, F_, T_, F_, F_, T_, T_, F_, T_, F_, F_, F_, T_, T_, F_, T_, F_, F_, F_, F_, F_, F_, F_, F_, F_, F_, F_, F_] rfl rfl (any_of HT_.out (by kernel_rfl)) (fun _ _ _ h => h) (Or.inl ⟨by rfl, ?_⟩) ?_ ?_; rotate_left
     ·intro w'
      go_simp
      with_reducible rfl
     rotate_left
     ·simp only [Act.put, la_, lz_, ls_, i64_w, i32_w]
      rfl
     refine pure_ (i := 20) (N := some 43) (v := ?_) (a' := ?_) #[T_, T_, F_, T_, F_, F_, T_, T_, F_, T_, F_, F_, F_, T_, T_, F_, T_, F_, F_, F_, T_, F_, F_, F_, F_, F_, F_, F_, F_] rfl rfl (any_of HT_.out (by kernel_rfl)) (fun _ _ _ h => h) (Or.inl ⟨by rfl, ?_⟩) ?_ ?_; rotate_left
     ·intro w'
      go_simp
      with_reducible rfl
     rotate_left
     ·simp only [Act.put, la_, lz_, ls_, i64_w, i32_w]
      rfl
     refine pure_ (i := 21) (N := some 44) (v := ?_) (a' := ?_) #[T_, T_, F_, T_, F_, F_, T_, T_, F_, T_, F_, F_, F_, T_, T_, F_, T_, F_, F_, F_, T_, T_, F_, F_, F_, F_, F_, F_, F_] rfl rfl (any_of HT_.out (by kernel_rfl)) (fun _ _ _ h => h) (Or.inl ⟨by rfl, ?_⟩) ?_ ?_; rotate_left
     ·intro w'
      go_simp
      with_reducible rfl
     rotate_left
     ·simp only [Act.put, la_, lz_, ls_, i64_w, i32_w]
      rfl
     refine pure_ (i := 23) (N := some 46) (v := ?_) (a' := ?_) #[T_, T_, F_, T_, F_, F_, T_, T_, F_, T_, F_, F_, F_, T_, T_, F_, T_, F_, F_, F_, T_, T_, F_, T_, F_, F_, F_, F_, F_] rfl rfl (any_of HT_.out (by kernel_rfl)) (fun _ _ _ h => h) (Or.inl ⟨by rfl, ?_⟩) ?_ ?_; rotate_left
     ·intro w'
      go_simp
      with_reducible rfl
     rotate_left
     ·simp only [Act.put, la_, lz_, ls_, i64_w, i32_w]
      rfl
     refine take_ (i := 2) (N := some 25) (v := ?_) (a' := ?_) #[T_, T_, T_, T_, F_, F_, T_, T_, F_, T_, F_, F_, F_, T_, T_, F_, T_, F_, F_, F_, T_, T_, F_, T_, F_, F_, F_, F_, F_] rfl rfl (take_ofW HT_.out HW_.out (by kernel_rfl)) (fun _ _ _ h => h) (Or.inl ⟨by rfl, ?_⟩) hHeld ?_ ?_; rotate_left
     ·rintro w' ⟨s0, s1, s2, s3⟩
      go_simp
      with_reducible rfl
     rotate_left
     ·simp only [Act.put, la_, lz_, ls_, i64_w, i32_w]
      rfl
     refine take_ (i := 4) (N := some 27) (v := ?_) (a' := ?_) #[T_, T_, T_, T_, T_, F_, T_, T_, F_, T_, F_, F_, F_, T_, T_, F_, T_, F_, F_, F_, T_, T_, F_, T_, F_, F_, F_, F_, F_] rfl rfl (take_ofW HT_.out HW_.out (by kernel_rfl)) (fun _ _ _ h => h) (Or.inl ⟨by rfl, ?_⟩) hHeld ?_ ?_; rotate_left
     ·rintro w' ⟨s0, s1, s2, s3⟩
      go_simp
      with_reducible rfl
     rotate_left
     ·simp only [Act.put, la_, lz_, ls_, i64_w, i32_w]
      rfl
     refine take_ (i := 8) (N := some 31) (v := ?_) (a' := ?_) #[T_, T_, T_, T_, T_, F_, T_, T_, T_, T_, F_, F_, F_, T_, T_, F_, T_, F_, F_, F_, T_, T_, F_, T_, F_, F_, F_, F_, F_] rfl rfl (take_ofW HT_.out HW_.out (by kernel_rfl)) (fun _ _ _ h => h) (Or.inl ⟨by rfl, ?_⟩) hHeld ?_ ?_; rotate_left
     ·rintro w' ⟨s0, s1, s2, s3⟩
      go_simp
      with_reducible rfl
     rotate_left
     ·simp only [Act.put, la_, lz_, ls_, i64_w, i32_w]
      rfl
     refine take_ (i := 10) (N := some 33) (v := ?_) (a' := ?_) #[T_, T_, T_, T_, T_, F_, T_, T_, T_, T_, T_, F_, F_, T_, T_, F_, T_, F_, F_, F_, T_, T_, F_, T_, F_, F_, F_, F_, F_] rfl rfl (take_ofW HT_.out HW_.out (by kernel_rfl)) (fun _ _ _ h => h) (Or.inl ⟨by rfl, ?_⟩) hHeld ?_ ?_; rotate_left
     ·rintro w' ⟨s0, s1, s2, s3⟩
      go_simp
      with_reducible rfl
     rotate_left
     ·simp only [Act.put, la_, lz_, ls_, i64_w, i32_w]
      rfl
     refine take_ (i := 15) (N := some 38) (v := ?_) (a' := ?_) #[T_, T_, T_, T_, T_, F_, T_, T_, T_, T_, T_, F_, F_, T_, T_, T_, T_, F_, F_, F_, T_, T_, F_, T_, F_, F_, F_, F_, F_] rfl rfl (take_ofW HT_.out HW_.out (by kernel_rfl)) (fun _ _ _ h => h) (Or.inl ⟨by rfl, ?_⟩) hHeld ?_ ?_; rotate_left
     ·rintro w' ⟨s0, s1, s2, s3⟩
      go_simp
      with_reducible rfl
     rotate_left
     ·simp only [Act.put, la_, lz_, ls_, i64_w, i32_w]
      rfl
     refine take_ (i := 17) (N := some 40) (v := ?_) (a' := ?_) #[T_, T_, T_, T_, T_, F_, T_, T_, T_, T_, T_, F_, F_, T_, T_, T_, T_, T_, F_, F_, T_, T_, F_, T_, F_, F_, F_, F_, F_] rfl rfl (take_ofW HT_.out HW_.out (by kernel_rfl)) (fun _ _ _ h => h) (Or.inl ⟨by rfl, ?_⟩) hHeld ?_ ?_; rotate_left
     ·rintro w' ⟨s0, s1, s2, s3⟩
      go_simp
      with_reducible rfl
     rotate_left
     ·simp only [Act.put, la_, lz_, ls_, i64_w, i32_w]
      rfl
     refine take_ (i := 22) (N := some 45) (v := ?_) (a' := ?_) #[T_, T_, T_, T_, T_, F_, T_, T_, T_, T_, T_, F_, F_, T_, T_, T_, T_, T_, F_, F_, T_, T_, T_, T_, F_, F_, F_, F_, F_] rfl rfl (take_ofW HT_.out HW_.out (by kernel_rfl)) (fun _ _ _ h => h) (Or.inl ⟨by rfl, ?_⟩) hHeld ?_ ?_; rotate_left
     ·rintro w' ⟨s0, s1, s2, s3⟩
      go_simp
      with_reducible rfl
     rotate_left
     ·simp only [Act.put, la_, lz_, ls_, i64_w, i32_w]
      rfl
     refine take_ (i := 24) (N := some 47) (v := ?_) (a' := ?_) #[T_, T_, T_, T_, T_, F_, T_, T_, T_, T_, T_, F_, F_, T_, T_, T_, T_, T_, F_, F_, T_, T_, T_, T_, T_, F_, F_, F_, F_] rfl rfl (take_ofW HT_.out HW_.out (by kernel_rfl)) (fun _ _ _ h => h) (Or.inl ⟨by rfl, ?_⟩) hHeld ?_ ?_; rotate_left
     ·rintro w' ⟨s0, s1, s2, s3⟩
      go_simp
      with_reducible rfl
     rotate_left
     ·simp only [Act.put, la_, lz_, ls_, i64_w, i32_w]
      rfl
     refine one_ (i := 5) (N := some 28) #[T_, T_, T_, T_, T_, T_, T_, T_, T_, T_, T_, F_, F_, T_, T_, T_, T_, T_, F_, F_, T_, T_, T_, T_, T_, F_, F_, F_, F_] rfl rfl (one_of HT_.out (by kernel_rfl)) (by decide) (fun K hK => ?_); refine goesR_ Try.func34 (by kernel_rfl) rfl #[.int .i64 a1_2, .int .i64 a1_3] #[.pointer (some ⟨gb241, 0, none⟩)] #[.int .i64 a1_2, .int .i64 a1_3, .pointer (some ⟨gb241, 0, none⟩)] (by rfl) rfl rfl (by first | rfl | (go_simp; rfl)) q140_ (by first | rfl | simp) ?_
     with_reducible refine (integral_Sum_1.calls a1_2 a1_3 gb241 a0_0 a0_1 a0_2 A0_3 c0_3 l0_3 t246 _ ?side1 ?side2 ?side3 A24.out).mono ?_
     (case side1 => repeat (first | exact (Kd.C_below HR0_3.out HB.out) | (with_reducible refine Kd.C_alloc ?_ _) | (with_reducible refine Kd.C_drewN ?_ _) | (with_reducible refine Kd.C_drew ?_))); (case side2 => exact HC0_3.out); (case side3 => exact q165_); rintro e w29 ⟨rfl, hb⟩; refine ⟨_, rfl, ?_⟩; have n0_ := am_ (blk_below (g := gb241) (o := .cells #[.int .i64 a0_0, .int .i64 a0_1, .int .i64 a0_2, .slice A0_3 l0_3.length c0_3] 26 (0, 0)) q165_ hb); have n1_ := am_ (blk_below (g := gb242) (o := .cells #[.int .i64 a1_0, .int .i64 a1_1, .int .i64 a1_2, .int .i64 a1_3] 32 (0, 0)) q166_ hb); have n2_ := am_ (below_step q94_ hb); clear BK241 BK242 HB; have BK241 := n0_; have BK242 := n1_; have HB := n2_; clear n0_ n1_ n2_; (try clear hb); (try clear hb2); (try clear hk); (try clear hi); refine hK.out _ _ ⟨bc0_ BK242.out, bc1_ BK242.out, bc2_ BK242.out, bc3_ BK242.out⟩ (fun hHeld => ?_); clear hK K; refine norm_ (a' := ?_) ?_ ?_; rotate_left
     ·show Act.put _ (some 28) _ = _
      simp only [Act.put, la_, lz_, ls_, i64_w, i32_w]; rfl
     refine one_ (i := 11) (N := some 34) #[T_, T_, T_, T_, T_, T_, T_, T_, T_, T_, T_, T_, F_, T_, T_, T_, T_, T_, F_, F_, T_, T_, T_, T_, T_, F_, F_, F_, F_] rfl rfl (one_of HT_.out (by kernel_rfl)) (by decide) (fun K hK => ?_); refine goesR_ Try.func34 (by kernel_rfl) rfl #[.int .i64 a1_0, .int .i64 a1_3] #[.pointer (some ⟨gb241, 0, none⟩)] #[.int .i64 a1_0, .int .i64 a1_3, .pointer (some ⟨gb241, 0, none⟩)] (by rfl) rfl rfl (by first | rfl | (go_simp; rfl)) q140_ (by first | rfl | simp) ?_
     with_reducible refine (integral_Sum_1.calls a1_0 a1_3 gb241 a0_0 a0_1 a0_2 A0_3 c0_3 l0_3 t247 _ ?side1 ?side2 ?side3 A25.out).mono ?_
     (case side1 => repeat (first | exact (Kd.C_below HR0_3.out HB.out) | (with_reducible refine Kd.C_alloc ?_ _) | (with_reducible refine Kd.C_drewN ?_ _) | (with_reducible refine Kd.C_drew ?_))); (case side2 => exact HC0_3.out); (case side3 => exact q165_); rintro e w30 ⟨rfl, hb⟩; refine ⟨_, rfl, ?_⟩; have n0_ := am_ (blk_below (g := gb241) (o := .cells #[.int .i64 a0_0, .int .i64 a0_1, .int .i64 a0_2, .slice A0_3 l0_3.length c0_3] 26 (0, 0)) q165_ hb); have n1_ := am_ (blk_below (g := gb242) (o := .cells #[.int .i64 a1_0, .int .i64 a1_1, .int .i64 a1_2, .int .i64 a1_3] 32 (0, 0)) q166_ hb); have n2_ := am_ (below_step q94_ hb); clear BK241 BK242 HB; have BK241 := n0_; have BK242 := n1_; have HB := n2_; clear n0_ n1_ n2_; (try clear hb); (try clear hb2); (try clear hk); (try clear hi); refine hK.out _ _ ⟨bc0_ BK242.out, bc1_ BK242.out, bc2_ BK242.out, bc3_ BK242.out⟩ (fun hHeld => ?_); clear hK K; refine norm_ (a' := ?_) ?_ ?_; rotate_left
     ·show Act.put _ (some 34) _ = _
      simp only [Act.put, la_, lz_, ls_, i64_w, i32_w]; rfl
     refine pure_ (i := 12) (N := some 35) (v := ?_) (a' := ?_) #[T_, T_, T_, T_, T_, T_, T_, T_, T_, T_, T_, T_, T_, T_, T_, T_, T_, T_, F_, F_, T_, T_, T_, T_, T_, F_, F_, F_, F_] rfl rfl (any_of HT_.out (by kernel_rfl)) (fun _ _ _ h => h) (Or.inl ⟨by rfl, ?_⟩) ?_ ?_; rotate_left
     ·intro w'
      go_simp
      with_reducible rfl
     rotate_left
     ·simp only [Act.put, la_, lz_, ls_, i64_w, i32_w]
      rfl
     refine one_ (i := 18) (N := some 41) #[T_, T_, T_, T_, T_, T_, T_, T_, T_, T_, T_, T_, T_, T_, T_, T_, T_, T_, T_, F_, T_, T_, T_, T_, T_, F_, F_, F_, F_] rfl rfl (one_of HT_.out (by kernel_rfl)) (by decide) (fun K hK => ?_); refine goesR_ Try.func34 (by kernel_rfl) rfl #[.int .i64 a1_2, .int .i64 a1_1] #[.pointer (some ⟨gb241, 0, none⟩)] #[.int .i64 a1_2, .int .i64 a1_1, .pointer (some ⟨gb241, 0, none⟩)] (by rfl) rfl rfl (by first | rfl | (go_simp; rfl)) q140_ (by first | rfl | simp) ?_
     with_reducible refine (integral_Sum_1.calls a1_2 a1_1 gb241 a0_0 a0_1 a0_2 A0_3 c0_3 l0_3 t248 _ ?side1 ?side2 ?side3 A26.out).mono ?_
     (case side1 => repeat (first | exact (Kd.C_below HR0_3.out HB.out) | (with_reducible refine Kd.C_alloc ?_ _) | (with_reducible refine Kd.C_drewN ?_ _) | (with_reducible refine Kd.C_drew ?_))); (case side2 => exact HC0_3.out); (case side3 => exact q165_); rintro e w31 ⟨rfl, hb⟩; refine ⟨_, rfl, ?_⟩; have n0_ := am_ (blk_below (g := gb241) (o := .cells #[.int .i64 a0_0, .int .i64 a0_1, .int .i64 a0_2, .slice A0_3 l0_3.length c0_3] 26 (0, 0)) q165_ hb); have n1_ := am_ (blk_below (g := gb242) (o := .cells #[.int .i64 a1_0, .int .i64 a1_1, .int .i64 a1_2, .int .i64 a1_3] 32 (0, 0)) q166_ hb); have n2_ := am_ (below_step q94_ hb); clear BK241 BK242 HB; have BK241 := n0_; have BK242 := n1_; have HB := n2_; clear n0_ n1_ n2_; (try clear hb); (try clear hb2); (try clear hk); (try clear hi); refine hK.out _ _ ⟨bc0_ BK242.out, bc1_ BK242.out, bc2_ BK242.out, bc3_ BK242.out⟩ (fun hHeld => ?_); clear hK K; refine norm_ (a' := ?_) ?_ ?_; rotate_left
     ·show Act.put _ (some 41) _ = _
      simp only [Act.put, la_, lz_, ls_, i64_w, i32_w]; rfl
     refine pure_ (i := 19) (N := some 42) (v := ?_) (a' := ?_) #[T_, T_, T_, T_, T_, T_, T_, T_, T_, T_, T_, T_, T_, T_, T_, T_, T_, T_, T_, T_, T_, T_, T_, T_, T_, F_, F_, F_, F_] rfl rfl (any_of HT_.out (by kernel_rfl)) (fun _ _ _ h => h) (Or.inl ⟨by rfl, ?_⟩) ?_ ?_; rotate_left
     ·intro w'
      go_simp
      with_reducible rfl
     rotate_left
     ·simp only [Act.put, la_, lz_, ls_, i64_w, i32_w]
      rfl
     refine one_ (i := 25) (N := some 48) #[T_, T_, T_, T_, T_, T_, T_, T_, T_, T_, T_, T_, T_, T_, T_, T_, T_, T_, T_, T_, T_, T_, T_, T_, T_, T_, F_, F_, F_] rfl rfl (one_of HT_.out (by kernel_rfl)) (by decide) (fun K hK => ?_); refine goesR_ Try.func34 (by kernel_rfl) rfl #[.int .i64 a1_0, .int .i64 a1_1] #[.pointer (some ⟨gb241, 0, none⟩)] #[.int .i64 a1_0, .int .i64 a1_1, .pointer (some ⟨gb241, 0, none⟩)] (by rfl) rfl rfl (by first | rfl | (go_simp; rfl)) q140_ (by first | rfl | simp) ?_
     with_reducible refine (integral_Sum_1.calls a1_0 a1_1 gb241 a0_0 a0_1 a0_2 A0_3 c0_3 l0_3 t249 _ ?side1 ?side2 ?side3 A27.out).mono ?_
     (case side1 => repeat (first | exact (Kd.C_below HR0_3.out HB.out) | (with_reducible refine Kd.C_alloc ?_ _) | (with_reducible refine Kd.C_drewN ?_ _) | (with_reducible refine Kd.C_drew ?_))); (case side2 => exact HC0_3.out); (case side3 => exact q165_); rintro e w32 ⟨rfl, hb⟩; refine ⟨_, rfl, ?_⟩; have n0_ := am_ (blk_below (g := gb241) (o := .cells #[.int .i64 a0_0, .int .i64 a0_1, .int .i64 a0_2, .slice A0_3 l0_3.length c0_3] 26 (0, 0)) q165_ hb); have n1_ := am_ (blk_below (g := gb242) (o := .cells #[.int .i64 a1_0, .int .i64 a1_1, .int .i64 a1_2, .int .i64 a1_3] 32 (0, 0)) q166_ hb); have n2_ := am_ (below_step q94_ hb); clear BK241 BK242 HB; have BK241 := n0_; have BK242 := n1_; have HB := n2_; clear n0_ n1_ n2_; (try clear hb); (try clear hb2); (try clear hk); (try clear hi); refine hK.out _ _ ⟨bc0_ BK242.out, bc1_ BK242.out, bc2_ BK242.out, bc3_ BK242.out⟩ (fun hHeld => ?_); clear hK K; refine norm_ (a' := ?_) ?_ ?_; rotate_left
     ·show Act.put _ (some 48) _ = _
      simp only [Act.put, la_, lz_, ls_, i64_w, i32_w]; rfl
     refine pure_ (i := 26) (N := some 49) (v := ?_) (a' := ?_) #[T_, T_, T_, T_, T_, T_, T_, T_, T_, T_, T_, T_, T_, T_, T_, T_, T_, T_, T_, T_, T_, T_, T_, T_, T_, T_, T_, F_, F_] rfl rfl (any_of HT_.out (by kernel_rfl)) (fun _ _ _ h => h) (Or.inl ⟨by rfl, ?_⟩) ?_ ?_; rotate_left
     ·intro w'
      go_simp
      with_reducible rfl
     rotate_left
     ·simp only [Act.put, la_, lz_, ls_, i64_w, i32_w]
      rfl
     refine pure_ (i := 27) (N := some 4) (v := ?_) (a' := ?_) #[T_, T_, T_, T_, T_, T_, T_, T_, T_, T_, T_, T_, T_, T_, T_, T_, T_, T_, T_, T_, T_, T_, T_, T_, T_, T_, T_, T_, F_] rfl rfl (any_of HT_.out (by kernel_rfl)) (fun _ _ _ h => h) (Or.inl ⟨by rfl, ?_⟩) ?_ ?_; rotate_left
     ·intro w'
      go_simp
      with_reducible rfl
     rotate_left
     ·simp only [Act.put, la_, lz_, ls_, i64_w, i32_w]
      rfl
     refine pure_ (i := 28) (N := some 5) (v := ?_) (a' := ?_) #[T_, T_, T_, T_, T_, T_, T_, T_, T_, T_, T_, T_, T_, T_, T_, T_, T_, T_, T_, T_, T_, T_, T_, T_, T_, T_, T_, T_, T_] rfl rfl (any_of HT_.out (by kernel_rfl)) (fun _ _ _ h => h) (Or.inl ⟨by rfl, ?_⟩) ?_ ?_; rotate_left
     ·intro w'
      go_simp
      with_reducible rfl
     rotate_left
     ·simp only [Act.put, la_, lz_, ls_, i64_w, i32_w]
      rfl
     refine done_ (done_of HT_.out (by kernel_rfl)) ?_
     try go_wp2
     go_ret2
     exact ⟨q211_, q94_⟩
 ·replace c4 := Bool.eq_false_iff.mpr c4
  subst c4; have H1 : (some (0, 1)) = some (r1, r2) := by rw [if_neg (show ¬ (false = true) by decide)] at H; exact H
  clear H; have H := H1; clear H1; simp only [Option.some.injEq, Prod.mk.injEq] at H; obtain ⟨rfl, rfl⟩ := H
  go_enter Try.func13, Try.ntmps13
  go_wp2_with (first | ((with_reducible refine gate_dst (N := 2) rfl ?_); refine box_event ?hg (N := 2) ?hd (cs := #[.int .i64 a0_0, .int .i64 a0_1, .int .i64 a0_2, .slice A0_3 l0_3.length c0_3]) (t := 26) ?hr ?_; (case hd => rfl); (case hg => rfl); (case hr => first | (go_simp; done) | (go_simp; rfl)); intro gb241 hg w33 hbox hb; have n0_ := am_ (below_step q143_ hb); have n1_ := am_ (hbox); have n2_ := am_ ((q108_ : w.heap.size ≤ gb241)); have n3_ := am_ ((q108_ : w.heap.size ≤ gb241)); clear HB; have HB := n0_; have BK241 := n1_; have GW241 := n2_; have GE241 := n3_; clear n0_ n1_ n2_ n3_; clear hb hbox hg) | ((with_reducible refine gate_dst (N := 3) rfl ?_); refine box_event ?hg (N := 3) ?hd (cs := #[.int .i64 a1_0, .int .i64 a1_1, .int .i64 a1_2, .int .i64 a1_3]) (t := 32) ?hr ?_; (case hd => rfl); (case hg => rfl); (case hr => first | (go_simp; done) | (go_simp; rfl)); intro gb242 hg w34 hbox hb; have n0_ := am_ (blk_below (g := gb241) (o := .cells #[.int .i64 a0_0, .int .i64 a0_1, .int .i64 a0_2, .slice A0_3 l0_3.length c0_3] 26 (0, 0)) q165_ hb); have n1_ := am_ (below_step q119_ hb); have n2_ := am_ (hbox); have n3_ := am_ ((q85_ : w.heap.size ≤ gb242)); have n4_ := am_ ((q85_ : w.heap.size ≤ gb242)); have n5_ := am_ ((by rw [hg]; exact Nat.ne_of_lt (blk_lt (g := gb241) (o := .cells #[.int .i64 a0_0, .int .i64 a0_1, .int .i64 a0_2, .slice A0_3 l0_3.length c0_3] 26 (0, 0)) q165_) : gb241 ≠ gb242)); have n6_ := am_ ((by rw [hg]; exact Nat.ne_of_gt (blk_lt (g := gb241) (o := .cells #[.int .i64 a0_0, .int .i64 a0_1, .int .i64 a0_2, .slice A0_3 l0_3.length c0_3] 26 (0, 0)) q165_) : gb242 ≠ gb241)); clear BK241 HB; have BK241 := n0_; have HB := n1_; have BK242 := n2_; have GW242 := n3_; have GE242 := n4_; have NB241_242 := n5_; have NB242_241 := n6_; clear n0_ n1_ n2_ n3_ n4_ n5_ n6_; clear hb hbox hg; have hnb35 := NB241_242.out; have hnc35 := NB242_241.out; have hcz36_0 := bc0_ BK241.out; have hcz36_1 := bc1_ BK241.out; have hcz36_2 := bc2_ BK241.out; have hcz36_3 := bc3_ BK241.out; have hfz36_0 := blk_frozen BK241.out 0; have hfz36_1 := blk_frozen BK241.out 1; have hfz36_2 := blk_frozen BK241.out 2; have hfz36_3 := blk_frozen BK241.out 3) | ((with_reducible refine gate_callee (f := 31) rfl ?_); refine goesL_ (some 8) rfl rfl Try.func31 (by kernel_rfl) rfl #[.agg #[.int .i64 a0_0, .int .i64 a0_1, .int .i64 a0_2, .slice A0_3 l0_3.length c0_3]] rfl q140_ ?_; (with_reducible refine (plane_Valid.calls k a0_0 a0_1 a0_2 _ _ l0_3 false _ ?side1 ?side2 A3.out).mono ?_); (case side1 => repeat (first | exact (Kd.C_below HR0_3.out HB.out) | (with_reducible refine Kd.C_alloc ?_ _) | (with_reducible refine Kd.C_drewN ?_ _) | (with_reducible refine Kd.C_drew ?_))); (case side2 => exact HC0_3.out); rintro e w37 ⟨rfl, hb⟩; refine ⟨_, rfl, ?_⟩; have n0_ := am_ (blk_below (g := gb241) (o := .cells #[.int .i64 a0_0, .int .i64 a0_1, .int .i64 a0_2, .slice A0_3 l0_3.length c0_3] 26 (0, 0)) q165_ hb); have n1_ := am_ (blk_below (g := gb242) (o := .cells #[.int .i64 a1_0, .int .i64 a1_1, .int .i64 a1_2, .int .i64 a1_3] 32 (0, 0)) q166_ hb); have n2_ := am_ (below_step q94_ hb); clear BK241 BK242 HB; have BK241 := n0_; have BK242 := n1_; have HB := n2_; clear n0_ n1_ n2_; (try clear hb); (try clear hb2); (try clear hk); (try clear hi)))
  go_ret2
  exact ⟨q211_, q94_⟩


def tilefarmlaw13_sane.f (k : Nat)  : Option (Bool) := (some (([1, 2, 3, 4] : List Int) : List Int)).bind fun y250 => ((integral_Whole.f k 2 2 9 y250).bind fun bt254 => ((integral_Sum.f k bt254.1 bt254.2.1 bt254.2.2.1 bt254.2.2.2.1 1 1 2 2).bind fun bt262 => ((integral_Tile.f k 2 2 9 y250 1 0 2 2 (([1, 4] : List Int)) (([0] : List Int)) 0).bind fun bt270 => (if bt254.2.2.2.2 = 0 then (if (bt254.2.2.2.1.length : Int) = 4 then (if 3 < (bt254.2.2.2.1.length : Int) then (if (rd bt254.2.2.2.1 3) = 10 then (if bt254.2.2.1 = 36 then (if bt262.2 = 0 then (if bt262.1 = 4 then (if bt270.2.2.2.2 = 0 then (if (bt270.2.2.2.1.length : Int) = 2 then (if 1 < (bt270.2.2.2.1.length : Int) then (if (rd bt270.2.2.2.1 1) = 10 then ((integral_Check.f k 2 2 4294967296).bind fun t280 => (some (t280 == 11))) else (some false)) else (none)) else (some false)) else (some false)) else (some false)) else (some false)) else (some false)) else (some false)) else (none)) else (some false)) else (some false)))))
theorem tilefarmlaw13_sane.mono : ∀ k, LeO (tilefarmlaw13_sane.f k ) (tilefarmlaw13_sane.f (k + 1) ) := by
 intro  k; unfold tilefarmlaw13_sane.f
 repeat' first
   | (with_reducible exact integral_Check.mono _ _ _ _)
   | (with_reducible exact integral_Sum.mono _ _ _ _ _ _ _ _ _)
   | (with_reducible exact integral_Tile.mono _ _ _ _ _ _ _ _ _ _ _ _)
   | (with_reducible exact integral_Whole.mono _ _ _ _ _)
   | (with_reducible exact LeO.refl _)
   | (with_reducible exact LeO.none _)
   | (with_reducible refine LeO.ite ?_ ?_)
   | (with_reducible refine LeO.bind ?_ (fun _ => ?_))
   | exact integral_Check.mono _ _ _ _
   | exact integral_Sum.mono _ _ _ _ _ _ _ _ _
   | exact integral_Tile.mono _ _ _ _ _ _ _ _ _ _ _ _
   | exact integral_Whole.mono _ _ _ _ _
   | exact LeO.none _
   | refine LeO.ite ?_ ?_
   | refine LeO.bind ?_ (fun _ => ?_)
set_option maxHeartbeats 8000000 in
set_option maxRecDepth 100000 in
theorem tilefarmlaw13_sane.calls (k : Nat)  (r : Bool) (w : World) (h : tilefarmlaw13_sane.f k  = some r) (hT : r = true := by first | rfl | assumption | exact HT.out) :
  Calls Try.prog 14 #[] w fun e w' => e = .returned (.bool r) ∧ Below w.heap.size w w' := by
 have HT := am_ hT; clear hT; have hu26 := Try.underlying26; have hu32 := Try.underlying32; have hu40 := Try.underlying40; have HB := am_ (Below.refl w.heap.size w); have H : ((some (([1, 2, 3, 4] : List Int) : List Int)).bind fun y250 => ((integral_Whole.f k 2 2 9 y250).bind fun bt254 => ((integral_Sum.f k bt254.1 bt254.2.1 bt254.2.2.1 bt254.2.2.2.1 1 1 2 2).bind fun bt262 => ((integral_Tile.f k 2 2 9 y250 1 0 2 2 (([1, 4] : List Int)) (([0] : List Int)) 0).bind fun bt270 => (if bt254.2.2.2.2 = 0 then (if (bt254.2.2.2.1.length : Int) = 4 then (if 3 < (bt254.2.2.2.1.length : Int) then (if (rd bt254.2.2.2.1 3) = 10 then (if bt254.2.2.1 = 36 then (if bt262.2 = 0 then (if bt262.1 = 4 then (if bt270.2.2.2.2 = 0 then (if (bt270.2.2.2.1.length : Int) = 2 then (if 1 < (bt270.2.2.2.1.length : Int) then (if (rd bt270.2.2.2.1 1) = 10 then ((integral_Check.f k 2 2 4294967296).bind fun t280 => (some (t280 == 11))) else (some false)) else (none)) else (some false)) else (some false)) else (some false)) else (some false)) else (some false)) else (some false)) else (none)) else (some false)) else (some false)))))) = some r := h; clear h; obtain ⟨y250, hy250⟩ : ∃ y_ : List Int, y_ = (([1, 2, 3, 4] : List Int)) := ⟨_, rfl⟩; replace H : ((integral_Whole.f k 2 2 9 y250).bind fun bt254 => ((integral_Sum.f k bt254.1 bt254.2.1 bt254.2.2.1 bt254.2.2.2.1 1 1 2 2).bind fun bt262 => ((integral_Tile.f k 2 2 9 y250 1 0 2 2 (([1, 4] : List Int)) (([0] : List Int)) 0).bind fun bt270 => (if bt254.2.2.2.2 = 0 then (if (bt254.2.2.2.1.length : Int) = 4 then (if 3 < (bt254.2.2.2.1.length : Int) then (if (rd bt254.2.2.2.1 3) = 10 then (if bt254.2.2.1 = 36 then (if bt262.2 = 0 then (if bt262.1 = 4 then (if bt270.2.2.2.2 = 0 then (if (bt270.2.2.2.1.length : Int) = 2 then (if 1 < (bt270.2.2.2.1.length : Int) then (if (rd bt270.2.2.2.1 1) = 10 then ((integral_Check.f k 2 2 4294967296).bind fun t280 => (some (t280 == 11))) else (some false)) else (none)) else (some false)) else (some false)) else (some false)) else (some false)) else (some false)) else (some false)) else (none)) else (some false)) else (some false))))) = some r := by first | (rw [hy250]; with_reducible exact H) | (have H2_ := (Option.bind_some _ _).symm.trans H; rw [hy250]; with_reducible exact H2_) | (have H2_ := (Option.bind_some _ _).symm.trans H; with_reducible exact H2_) | with_reducible exact H | (rw [hy250]; exact H) | exact H
 have Ny250 := am_ hy250; clear hy250; replace H := Option.bind_eq_some_iff.mp H; obtain ⟨⟨t254, t255, t256, t257, t260⟩, A10, H⟩ := H; replace H : ((integral_Sum.f k t254 t255 t256 t257 1 1 2 2).bind fun bt262 => ((integral_Tile.f k 2 2 9 y250 1 0 2 2 (([1, 4] : List Int)) (([0] : List Int)) 0).bind fun bt270 => (if t260 = 0 then (if (t257.length : Int) = 4 then (if 3 < (t257.length : Int) then (if (rd t257 3) = 10 then (if t256 = 36 then (if bt262.2 = 0 then (if bt262.1 = 4 then (if bt270.2.2.2.2 = 0 then (if (bt270.2.2.2.1.length : Int) = 2 then (if 1 < (bt270.2.2.2.1.length : Int) then (if (rd bt270.2.2.2.1 1) = 10 then ((integral_Check.f k 2 2 4294967296).bind fun t280 => (some (t280 == 11))) else (some false)) else (none)) else (some false)) else (some false)) else (some false)) else (some false)) else (some false)) else (some false)) else (none)) else (some false)) else (some false)))) = some r := H; have A1 := am_ A10; clear A10; replace H := Option.bind_eq_some_iff.mp H; obtain ⟨⟨t262, t263⟩, A20, H⟩ := H; replace H : ((integral_Tile.f k 2 2 9 y250 1 0 2 2 (([1, 4] : List Int)) (([0] : List Int)) 0).bind fun bt270 => (if t260 = 0 then (if (t257.length : Int) = 4 then (if 3 < (t257.length : Int) then (if (rd t257 3) = 10 then (if t256 = 36 then (if t263 = 0 then (if t262 = 4 then (if bt270.2.2.2.2 = 0 then (if (bt270.2.2.2.1.length : Int) = 2 then (if 1 < (bt270.2.2.2.1.length : Int) then (if (rd bt270.2.2.2.1 1) = 10 then ((integral_Check.f k 2 2 4294967296).bind fun t280 => (some (t280 == 11))) else (some false)) else (none)) else (some false)) else (some false)) else (some false)) else (some false)) else (some false)) else (some false)) else (none)) else (some false)) else (some false))) = some r := H; have A2 := am_ A20; clear A20; obtain ⟨y264, hy264⟩ : ∃ y_ : List Int, y_ = (([1, 4] : List Int)) := ⟨_, rfl⟩; replace H : ((integral_Tile.f k 2 2 9 y250 1 0 2 2 y264 (([0] : List Int)) 0).bind fun bt270 => (if t260 = 0 then (if (t257.length : Int) = 4 then (if 3 < (t257.length : Int) then (if (rd t257 3) = 10 then (if t256 = 36 then (if t263 = 0 then (if t262 = 4 then (if bt270.2.2.2.2 = 0 then (if (bt270.2.2.2.1.length : Int) = 2 then (if 1 < (bt270.2.2.2.1.length : Int) then (if (rd bt270.2.2.2.1 1) = 10 then ((integral_Check.f k 2 2 4294967296).bind fun t280 => (some (t280 == 11))) else (some false)) else (none)) else (some false)) else (some false)) else (some false)) else (some false)) else (some false)) else (some false)) else (none)) else (some false)) else (some false))) = some r := by first | (rw [hy264]; with_reducible exact H) | (have H2_ := (Option.bind_some _ _).symm.trans H; rw [hy264]; with_reducible exact H2_) | (have H2_ := (Option.bind_some _ _).symm.trans H; with_reducible exact H2_) | with_reducible exact H | (rw [hy264]; exact H) | exact H
 have Ny264 := am_ hy264; clear hy264; obtain ⟨y267, hy267⟩ : ∃ y_ : List Int, y_ = (([0] : List Int)) := ⟨_, rfl⟩; replace H : ((integral_Tile.f k 2 2 9 y250 1 0 2 2 y264 y267 0).bind fun bt270 => (if t260 = 0 then (if (t257.length : Int) = 4 then (if 3 < (t257.length : Int) then (if (rd t257 3) = 10 then (if t256 = 36 then (if t263 = 0 then (if t262 = 4 then (if bt270.2.2.2.2 = 0 then (if (bt270.2.2.2.1.length : Int) = 2 then (if 1 < (bt270.2.2.2.1.length : Int) then (if (rd bt270.2.2.2.1 1) = 10 then ((integral_Check.f k 2 2 4294967296).bind fun t280 => (some (t280 == 11))) else (some false)) else (none)) else (some false)) else (some false)) else (some false)) else (some false)) else (some false)) else (some false)) else (none)) else (some false)) else (some false))) = some r := by first | (rw [hy267]; with_reducible exact H) | (have H2_ := (Option.bind_some _ _).symm.trans H; rw [hy267]; with_reducible exact H2_) | (have H2_ := (Option.bind_some _ _).symm.trans H; with_reducible exact H2_) | with_reducible exact H | (rw [hy267]; exact H) | exact H
 have Ny267 := am_ hy267; clear hy267; replace H := Option.bind_eq_some_iff.mp H; obtain ⟨⟨t270, t271, t272, t273, t276⟩, A30, H⟩ := H; replace H : (if t260 = 0 then (if (t257.length : Int) = 4 then (if 3 < (t257.length : Int) then (if (rd t257 3) = 10 then (if t256 = 36 then (if t263 = 0 then (if t262 = 4 then (if t276 = 0 then (if (t273.length : Int) = 2 then (if 1 < (t273.length : Int) then (if (rd t273 1) = 10 then ((integral_Check.f k 2 2 4294967296).bind fun t280 => (some (t280 == 11))) else (some false)) else (none)) else (some false)) else (some false)) else (some false)) else (some false)) else (some false)) else (some false)) else (none)) else (some false)) else (some false)) = some r := H; have A3 := am_ A30; clear A30
 by_cases c4 : t260 = 0
 ·rw [if_pos c4] at H
  have c4b0 : (t260 == 0) = true := beq_iff_eq.mpr c4; have c4b1 : (t260 != 0) = false := bne_eq_false_iff_eq.mpr c4; clear c4
  by_cases c5 : (t257.length : Int) = 4
  ·rw [if_pos c5] at H
   have c5b0 : ((t257.length : Int) == 4) = true := beq_iff_eq.mpr c5; have c5b1 : ((t257.length : Int) != 4) = false := bne_eq_false_iff_eq.mpr c5; clear c5
   by_cases c6 : 3 < (t257.length : Int)
   ·rw [if_pos c6] at H
    have c6b0 : decide (3 < (t257.length : Int)) = true := decide_eq_true c6; have c6b1 : decide (3 < t257.length) = true := decide_eq_true (by omega); clear c6
    by_cases c7 : (rd t257 3) = 10
    ·rw [if_pos c7] at H
     have c7b0 : ((rd t257 3) == 10) = true := beq_iff_eq.mpr c7; have c7b1 : ((rd t257 3) != 10) = false := bne_eq_false_iff_eq.mpr c7; clear c7
     by_cases c8 : t256 = 36
     ·rw [if_pos c8] at H
      have c8b0 : (t256 == 36) = true := beq_iff_eq.mpr c8; have c8b1 : (t256 != 36) = false := bne_eq_false_iff_eq.mpr c8; clear c8
      by_cases c9 : t263 = 0
      ·rw [if_pos c9] at H
       have c9b0 : (t263 == 0) = true := beq_iff_eq.mpr c9; have c9b1 : (t263 != 0) = false := bne_eq_false_iff_eq.mpr c9; clear c9
       by_cases c10 : t262 = 4
       ·rw [if_pos c10] at H
        have c10b0 : (t262 == 4) = true := beq_iff_eq.mpr c10; have c10b1 : (t262 != 4) = false := bne_eq_false_iff_eq.mpr c10; clear c10
        by_cases c11 : t276 = 0
        ·rw [if_pos c11] at H
         have c11b0 : (t276 == 0) = true := beq_iff_eq.mpr c11; have c11b1 : (t276 != 0) = false := bne_eq_false_iff_eq.mpr c11; clear c11
         by_cases c12 : (t273.length : Int) = 2
         ·rw [if_pos c12] at H
          have c12b0 : ((t273.length : Int) == 2) = true := beq_iff_eq.mpr c12; have c12b1 : ((t273.length : Int) != 2) = false := bne_eq_false_iff_eq.mpr c12; clear c12
          by_cases c13 : 1 < (t273.length : Int)
          ·rw [if_pos c13] at H
           have c13b0 : decide (1 < (t273.length : Int)) = true := decide_eq_true c13; have c13b1 : decide (1 < t273.length) = true := decide_eq_true (by omega); clear c13
           by_cases c14 : (rd t273 1) = 10
           ·rw [if_pos c14] at H
            have c14b0 : ((rd t273 1) == 10) = true := beq_iff_eq.mpr c14; have c14b1 : ((rd t273 1) != 10) = false := bne_eq_false_iff_eq.mpr c14; clear c14; replace H := Option.bind_eq_some_iff.mp H; obtain ⟨t280, A150, H⟩ := H; replace H : (some (t280 == 11)) = some r := H; have A15 := am_ A150; clear A150; obtain rfl := Option.some.inj H
            go_enter Try.func14, Try.ntmps14
            go_wp2_with (first | ((with_reducible refine gate_dst (N := 8) rfl ?_); (try (refine gate_guard (by rfl) ?_; dsimp only)); refine Kd.R_lit (Kd.int .i64) _ 3 ?hg (N := 8) ?hd (xs := ([1, 2, 3, 4] : List Int)) (inner := [.int .i64 1, .int .i64 2, .int .i64 3, .int .i64 4]) (ok := fun _ => True) (okp := fun _ => True) ?hr ?hp (fun _ hk => hk) trivial (Below.refl _ _) (Nat.le_refl _) (by simp) ?_; (case hd => rfl); (case hg => rfl); (case hr => first | (go_simp; done) | (go_simp; rfl)); (case hp => exact (Reps.one (show Kd.M (Kd.int .i64) _ _ _ 1 [.int .i64 1] from rfl) (Reps.one (show Kd.M (Kd.int .i64) _ _ _ 2 [.int .i64 2] from rfl) (Reps.one (show Kd.M (Kd.int .i64) _ _ _ 3 [.int .i64 3] from rfl) (Reps.one (show Kd.M (Kd.int .i64) _ _ _ 4 [.int .i64 4] from rfl) (Reps.none _ _)))))); intro v251 w16 ho17 hb hg_ hnew_; clear hg_ hnew_; (first | rw [← Ny250.out] at ho17 | (simp only [Int.reduceToNat] at ho17; rw [← Ny250.out] at ho17)); have n0_ := am_ (Kd.R_lower ho17 (below_size q143_)); have n1_ := am_ (below_step q143_ hb); clear HB; have HO252 := n0_; have HB := n1_; clear n0_ n1_; clear hb ho17; obtain ⟨Ao18, co18, eo18⟩ := Kd.R_slice HO252.out; subst eo18) | ((with_reducible refine gate_dst (N := 1) rfl ?_); (try (refine gate_guard (by rfl) ?_; dsimp only)); refine box_event ?hg (N := 1) ?hd (cs := #[.int .i64 0, .int .i64 0, .int .i64 0, .slice none 0 0]) (t := 26) ?hr ?_; (case hd => rfl); (case hg => rfl); (case hr => first | (go_simp; done) | (go_simp; rfl)); intro gb253 hg w19 hbox hb; have n0_ := am_ (Kd.R_below q201_ hb); have n1_ := am_ (below_step q143_ hb); have n2_ := am_ (hbox); have n3_ := am_ ((q108_ : w.heap.size ≤ gb253)); have n4_ := am_ ((q108_ : w.heap.size ≤ gb253)); clear HO252 HB; have HO252 := n0_; have HB := n1_; have BK253 := n2_; have GW253 := n3_; have GE253 := n4_; clear n0_ n1_ n2_ n3_ n4_; clear hb hbox hg; have hcz20_0 := bc0_ BK253.out; have hcz20_1 := bc1_ BK253.out; have hcz20_2 := bc2_ BK253.out; have hcz20_3 := bc3_ BK253.out; have hfz20_0 := blk_frozen BK253.out 0; have hfz20_1 := blk_frozen BK253.out 1; have hfz20_2 := blk_frozen BK253.out 2; have hfz20_3 := blk_frozen BK253.out 3) | ((with_reducible refine gate_callee (f := 10) rfl ?_); refine goesL_ (some 12) rfl rfl Try.func10 (by kernel_rfl) rfl #[.agg #[.int .i64 2, .int .i64 2, .int .i64 9, .slice Ao18 y250.length co18]] rfl q140_ ?_; (with_reducible refine (integral_Whole.calls k 2 2 9 _ _ y250 t254 t255 t256 t257 t260 _ ?side1 ?side2 A1.out).mono ?_); (case side1 => refine (Kd.R_reads' (e := 3) (base := w.heap.size) (ok := fun k_ => True) (n := y250.length) (c := co18) ?_).2.2; exact q6_); (case side2 => exact (Kd.R_reads' HO252.out).2.1); rintro e w21 ⟨v258, rfl, ho0, hb⟩; refine ⟨_, rfl, ?_⟩; have n0_ := am_ (Kd.R_elder' q6_ (Kd.R_base ho0) hb); have n1_ := am_ (Kd.R_lower (Kd.R_new' ho0 (Kd.R_lt q6_)) (below_size q120_)); have n2_ := am_ (blk_below (g := gb253) (o := .cells #[.int .i64 2, .int .i64 2, .int .i64 9, .slice Ao18 y250.length co18] 26 (0, 0)) (by (with_reducible repeat (first | refine blk_drewN ?_ _ | refine blk_drew ?_ | refine blk_alloc ?_ _)); refine blk_put (cs := #[.int .i64 2, .int .i64 2, .int .i64 9, .slice none 0 0]) ?_ 3 _ rfl; (with_reducible repeat (first | refine blk_drewN ?_ _ | refine blk_drew ?_ | refine blk_alloc ?_ _)); refine blk_put (cs := #[.int .i64 2, .int .i64 2, .int .i64 0, .slice none 0 0]) ?_ 2 _ rfl; (with_reducible repeat (first | refine blk_drewN ?_ _ | refine blk_drew ?_ | refine blk_alloc ?_ _)); refine blk_put (cs := #[.int .i64 2, .int .i64 0, .int .i64 0, .slice none 0 0]) ?_ 1 _ rfl; (with_reducible repeat (first | refine blk_drewN ?_ _ | refine blk_drew ?_ | refine blk_alloc ?_ _)); refine blk_put (cs := #[.int .i64 0, .int .i64 0, .int .i64 0, .slice none 0 0]) ?_ 0 _ rfl; (with_reducible repeat (first | refine blk_drewN ?_ _ | refine blk_drew ?_ | refine blk_alloc ?_ _)); exact BK253.out) hb); have n3_ := am_ (below_step q120_ hb); clear HO252 BK253 HB; have HO252 := n0_; have HO259 := n1_; have BK253 := n2_; have HB := n3_; clear n0_ n1_ n2_ n3_; (try clear hb); (try clear hb2); (try clear hk); (try clear hi); (try clear ho0)) | ((with_reducible refine gate_dst (N := 2) rfl ?_); (try (refine gate_guard (by rfl) ?_; dsimp only)); refine box_event ?hg (N := 2) ?hd (cs := #[.int .i64 0, .int .i64 0, .int .i64 0, .slice none 0 0]) (t := 26) ?hr ?_; (case hd => rfl); (case hg => rfl); (case hr => first | (go_simp; done) | (go_simp; rfl)); intro gb261 hg w22 hbox hb; have n0_ := am_ (Kd.R_below q201_ hb); have n1_ := am_ (Kd.R_below q202_ hb); have n2_ := am_ (blk_below (g := gb253) (o := .cells #[.int .i64 2, .int .i64 2, .int .i64 9, .slice Ao18 y250.length co18] 26 (0, 0)) q167_ hb); have n3_ := am_ (below_step q120_ hb); have n4_ := am_ (hbox); have n5_ := am_ ((by rw [hg]; exact (below_size q120_) : w.heap.size ≤ gb261)); have n6_ := am_ ((by rw [hg]; exact (below_size q120_) : w.heap.size ≤ gb261)); have n7_ := am_ ((by rw [hg]; exact Nat.ne_of_lt (blk_lt (g := gb253) (o := .cells #[.int .i64 2, .int .i64 2, .int .i64 9, .slice Ao18 y250.length co18] 26 (0, 0)) q167_) : gb253 ≠ gb261)); have n8_ := am_ ((by rw [hg]; exact Nat.ne_of_gt (blk_lt (g := gb253) (o := .cells #[.int .i64 2, .int .i64 2, .int .i64 9, .slice Ao18 y250.length co18] 26 (0, 0)) q167_) : gb261 ≠ gb253)); clear HO252 HO259 BK253 HB; have HO252 := n0_; have HO259 := n1_; have BK253 := n2_; have HB := n3_; have BK261 := n4_; have GW261 := n5_; have GE261 := n6_; have NB253_261 := n7_; have NB261_253 := n8_; clear n0_ n1_ n2_ n3_ n4_ n5_ n6_ n7_ n8_; clear hb hbox hg; have hnb23 := NB261_253.out; have hnc23 := NB253_261.out; have hcz24_0 := bc0_ BK261.out; have hcz24_1 := bc1_ BK261.out; have hcz24_2 := bc2_ BK261.out; have hcz24_3 := bc3_ BK261.out; have hfz24_0 := blk_frozen BK261.out 0; have hfz24_1 := blk_frozen BK261.out 1; have hfz24_2 := blk_frozen BK261.out 2; have hfz24_3 := blk_frozen BK261.out 3; obtain ⟨Ao25, co25, eo25⟩ := Kd.R_slice HO259.out; subst eo25) | ((with_reducible refine gate_callee (f := 13) rfl ?_); refine goesL_ (some 18) rfl rfl Try.func13 (by kernel_rfl) rfl #[.agg #[.int .i64 t254, .int .i64 t255, .int .i64 t256, .slice Ao25 t257.length co25], .agg #[.int .i64 1, .int .i64 1, .int .i64 2, .int .i64 2]] rfl q140_ ?_; (with_reducible refine (integral_Sum.calls k t254 t255 t256 _ _ t257 1 1 2 2 t262 t263 _ ?side1 ?side2 A2.out).mono ?_); (case side1 => refine (Kd.R_reads' (e := 3) (base := w.heap.size) (ok := fun k_ => (True ∧ some k_ ≠ (.slice Ao18 y250.length co18 : Value).ownBlock)) (n := t257.length) (c := co25) ?_).2.2; exact (by (with_reducible repeat (first | apply Kd.R_alloc | apply Kd.R_drewN | apply Kd.R_drew)); exact (Kd.R_mono (Kd.R_far (p := ⟨gb261, 3, none⟩) (Kd.R_far (p := ⟨gb261, 2, none⟩) (Kd.R_far (p := ⟨gb261, 1, none⟩) (Kd.R_far (p := ⟨gb261, 0, none⟩) (Kd.R_types HO259.out BK261.out (by decide)) (fun _ hk => hk.2) (.int .i64 t254)) (fun _ hk => hk.2) (.int .i64 t255)) (fun _ hk => hk.2) (.int .i64 t256)) (fun _ hk => hk.2) (.slice Ao25 t257.length co25)) (fun _ h_ => h_.1)))); (case side2 => exact (Kd.R_reads' HO259.out).2.1); rintro e w26 ⟨rfl, hb⟩; refine ⟨_, rfl, ?_⟩; have n0_ := am_ (Kd.R_below (by (with_reducible repeat (first | apply Kd.R_alloc | apply Kd.R_drewN | apply Kd.R_drew)); exact (Kd.R_mono (Kd.R_far (p := ⟨gb261, 3, none⟩) (Kd.R_far (p := ⟨gb261, 2, none⟩) (Kd.R_far (p := ⟨gb261, 1, none⟩) (Kd.R_far (p := ⟨gb261, 0, none⟩) (Kd.R_types HO252.out BK261.out (by decide)) (fun _ hk => hk.2) (.int .i64 t254)) (fun _ hk => hk.2) (.int .i64 t255)) (fun _ hk => hk.2) (.int .i64 t256)) (fun _ hk => hk.2) (.slice Ao25 t257.length co25)) (fun _ h_ => h_.1))) hb); have n1_ := am_ (Kd.R_below (by (with_reducible repeat (first | apply Kd.R_alloc | apply Kd.R_drewN | apply Kd.R_drew)); exact (Kd.R_mono (Kd.R_far (p := ⟨gb261, 3, none⟩) (Kd.R_far (p := ⟨gb261, 2, none⟩) (Kd.R_far (p := ⟨gb261, 1, none⟩) (Kd.R_far (p := ⟨gb261, 0, none⟩) (Kd.R_types HO259.out BK261.out (by decide)) (fun _ hk => hk.2) (.int .i64 t254)) (fun _ hk => hk.2) (.int .i64 t255)) (fun _ hk => hk.2) (.int .i64 t256)) (fun _ hk => hk.2) (.slice Ao25 t257.length co25)) (fun _ h_ => h_.1))) hb); have n2_ := am_ (blk_below (g := gb253) (o := .cells #[.int .i64 2, .int .i64 2, .int .i64 9, .slice Ao18 y250.length co18] 26 (0, 0)) (by (with_reducible repeat (first | refine blk_drewN ?_ _ | refine blk_drew ?_ | refine blk_alloc ?_ _)); refine blk_far ?_ NB253_261.out _; (with_reducible repeat (first | refine blk_drewN ?_ _ | refine blk_drew ?_ | refine blk_alloc ?_ _)); refine blk_far ?_ NB253_261.out _; (with_reducible repeat (first | refine blk_drewN ?_ _ | refine blk_drew ?_ | refine blk_alloc ?_ _)); refine blk_far ?_ NB253_261.out _; (with_reducible repeat (first | refine blk_drewN ?_ _ | refine blk_drew ?_ | refine blk_alloc ?_ _)); refine blk_far ?_ NB253_261.out _; (with_reducible repeat (first | refine blk_drewN ?_ _ | refine blk_drew ?_ | refine blk_alloc ?_ _)); exact BK253.out) hb); have n3_ := am_ (blk_below (g := gb261) (o := .cells #[.int .i64 t254, .int .i64 t255, .int .i64 t256, .slice Ao25 t257.length co25] 26 (0, 0)) (by (with_reducible repeat (first | refine blk_drewN ?_ _ | refine blk_drew ?_ | refine blk_alloc ?_ _)); refine blk_put (cs := #[.int .i64 t254, .int .i64 t255, .int .i64 t256, .slice none 0 0]) ?_ 3 _ rfl; (with_reducible repeat (first | refine blk_drewN ?_ _ | refine blk_drew ?_ | refine blk_alloc ?_ _)); refine blk_put (cs := #[.int .i64 t254, .int .i64 t255, .int .i64 0, .slice none 0 0]) ?_ 2 _ rfl; (with_reducible repeat (first | refine blk_drewN ?_ _ | refine blk_drew ?_ | refine blk_alloc ?_ _)); refine blk_put (cs := #[.int .i64 t254, .int .i64 0, .int .i64 0, .slice none 0 0]) ?_ 1 _ rfl; (with_reducible repeat (first | refine blk_drewN ?_ _ | refine blk_drew ?_ | refine blk_alloc ?_ _)); refine blk_put (cs := #[.int .i64 0, .int .i64 0, .int .i64 0, .slice none 0 0]) ?_ 0 _ rfl; (with_reducible repeat (first | refine blk_drewN ?_ _ | refine blk_drew ?_ | refine blk_alloc ?_ _)); exact BK261.out) hb); have n4_ := am_ (below_step q95_ hb); clear HO252 HO259 BK253 BK261 HB; have HO252 := n0_; have HO259 := n1_; have BK253 := n2_; have BK261 := n3_; have HB := n4_; clear n0_ n1_ n2_ n3_ n4_; (try clear hb); (try clear hb2); (try clear hk); (try clear hi); have hcz27_0 := bc0_ BK253.out; have hcz27_1 := bc1_ BK253.out; have hcz27_2 := bc2_ BK253.out; have hcz27_3 := bc3_ BK253.out; have hfz27_0 := blk_frozen BK253.out 0; have hfz27_1 := blk_frozen BK253.out 1; have hfz27_2 := blk_frozen BK253.out 2; have hfz27_3 := blk_frozen BK253.out 3) | ((with_reducible refine gate_dst (N := 24) rfl ?_); (try (refine gate_guard (by rfl) ?_; dsimp only)); refine Kd.R_lit (Kd.int .i64) _ 3 ?hg (N := 24) ?hd (xs := ([1, 4] : List Int)) (inner := [.int .i64 1, .int .i64 4]) (ok := fun _ => True) (okp := fun _ => True) ?hr ?hp (fun _ hk => hk) trivial (Below.refl _ _) (Nat.le_refl _) (by simp) ?_; (case hd => rfl); (case hg => rfl); (case hr => first | (go_simp; done) | (go_simp; rfl)); (case hp => exact (Reps.one (show Kd.M (Kd.int .i64) _ _ _ 1 [.int .i64 1] from rfl) (Reps.one (show Kd.M (Kd.int .i64) _ _ _ 4 [.int .i64 4] from rfl) (Reps.none _ _)))); intro v265 w28 ho29 hb hg_ hnew_; clear hg_ hnew_; (first | rw [← Ny264.out] at ho29 | (simp only [Int.reduceToNat] at ho29; rw [← Ny264.out] at ho29)); have n0_ := am_ (Kd.R_elder' q201_ (Kd.R_base ho29) hb); have n1_ := am_ (Kd.R_elder' q202_ (Kd.R_base ho29) hb); have n2_ := am_ (Kd.R_lower (Kd.R_new' (Kd.R_new' ho29 (Kd.R_lt q201_)) (Kd.R_lt q202_)) (below_size q95_)); have n3_ := am_ (blk_below (g := gb253) (o := .cells #[.int .i64 2, .int .i64 2, .int .i64 9, .slice Ao18 y250.length co18] 26 (0, 0)) q167_ hb); have n4_ := am_ (blk_below (g := gb261) (o := .cells #[.int .i64 t254, .int .i64 t255, .int .i64 t256, .slice Ao25 t257.length co25] 26 (0, 0)) q168_ hb); have n5_ := am_ (below_step q95_ hb); clear HO252 HO259 BK253 BK261 HB; have HO252 := n0_; have HO259 := n1_; have HO266 := n2_; have BK253 := n3_; have BK261 := n4_; have HB := n5_; clear n0_ n1_ n2_ n3_ n4_ n5_; clear hb ho29) | ((with_reducible refine gate_dst (N := 25) rfl ?_); (try (refine gate_guard (by rfl) ?_; dsimp only)); refine Kd.R_lit (Kd.int .i64) _ 3 ?hg (N := 25) ?hd (xs := ([0] : List Int)) (inner := [.int .i64 0]) (ok := fun _ => True) (okp := fun _ => True) ?hr ?hp (fun _ hk => hk) trivial (Below.refl _ _) (Nat.le_refl _) (by simp) ?_; (case hd => rfl); (case hg => rfl); (case hr => first | (go_simp; done) | (go_simp; rfl)); (case hp => exact (Reps.one (show Kd.M (Kd.int .i64) _ _ _ 0 [.int .i64 0] from rfl) (Reps.none _ _))); intro v268 w30 ho31 hb hg_ hnew_; clear hg_ hnew_; (first | rw [← Ny267.out] at ho31 | (simp only [Int.reduceToNat] at ho31; rw [← Ny267.out] at ho31)); have n0_ := am_ (Kd.R_elder' q201_ (Kd.R_base ho31) hb); have n1_ := am_ (Kd.R_elder' q202_ (Kd.R_base ho31) hb); have n2_ := am_ (Kd.R_elder' q203_ (Kd.R_base ho31) hb); have n3_ := am_ (Kd.R_lower (Kd.R_new' (Kd.R_new' (Kd.R_new' ho31 (Kd.R_lt q201_)) (Kd.R_lt q202_)) (Kd.R_lt q203_)) (below_size q95_)); have n4_ := am_ (blk_below (g := gb253) (o := .cells #[.int .i64 2, .int .i64 2, .int .i64 9, .slice Ao18 y250.length co18] 26 (0, 0)) q167_ hb); have n5_ := am_ (blk_below (g := gb261) (o := .cells #[.int .i64 t254, .int .i64 t255, .int .i64 t256, .slice Ao25 t257.length co25] 26 (0, 0)) q168_ hb); have n6_ := am_ (below_step q95_ hb); clear HO252 HO259 HO266 BK253 BK261 HB; have HO252 := n0_; have HO259 := n1_; have HO266 := n2_; have HO269 := n3_; have BK253 := n4_; have BK261 := n5_; have HB := n6_; clear n0_ n1_ n2_ n3_ n4_ n5_ n6_; clear hb ho31; obtain ⟨Ao32, co32, eo32⟩ := Kd.R_slice HO266.out; subst eo32; obtain ⟨Ao33, co33, eo33⟩ := Kd.R_slice HO269.out; subst eo33) | ((with_reducible refine gate_callee (f := 22) rfl ?_); refine goesL_ (some 26) rfl rfl Try.func22 (by kernel_rfl) rfl #[.agg #[.int .i64 2, .int .i64 2, .int .i64 9, .slice Ao18 y250.length co18], .agg #[.int .i64 1, .int .i64 0, .int .i64 2, .int .i64 2], .slice Ao32 y264.length co32, .slice Ao33 y267.length co33, .int .i64 0] rfl q140_ ?_; (with_reducible refine (integral_Tile.calls k 2 2 9 _ _ y250 1 0 2 2 _ _ y264 _ _ y267 0 t270 t271 t272 t273 t276 _ ?side1 ?side2 ?side3 ?side4 ?side5 ?side6 A3.out).mono ?_); (case side1 => repeat (first | exact (Kd.R_reads' HO252.out).2.2 | (with_reducible refine Kd.C_alloc ?_ _) | (with_reducible refine Kd.C_drewN ?_ _) | (with_reducible refine Kd.C_drew ?_))); (case side2 => exact (Kd.R_reads' HO252.out).2.1); (case side3 => repeat (first | exact (Kd.R_reads' HO266.out).2.2 | (with_reducible refine Kd.C_alloc ?_ _) | (with_reducible refine Kd.C_drewN ?_ _) | (with_reducible refine Kd.C_drew ?_))); (case side4 => exact (Kd.R_reads' HO266.out).2.1); (case side5 => repeat (first | exact (Kd.R_reads' HO269.out).2.2 | (with_reducible refine Kd.C_alloc ?_ _) | (with_reducible refine Kd.C_drewN ?_ _) | (with_reducible refine Kd.C_drew ?_))); (case side6 => exact (Kd.R_reads' HO269.out).2.1); rintro e w34 ⟨v274, rfl, ho0, hb⟩; refine ⟨_, rfl, ?_⟩; have n0_ := am_ (Kd.R_elder' q201_ (Kd.R_base ho0) hb); have n1_ := am_ (Kd.R_elder' q202_ (Kd.R_base ho0) hb); have n2_ := am_ (Kd.R_elder' q203_ (Kd.R_base ho0) hb); have n3_ := am_ (Kd.R_elder' q204_ (Kd.R_base ho0) hb); have n4_ := am_ (Kd.R_lower (Kd.R_new' (Kd.R_new' (Kd.R_new' (Kd.R_new' ho0 (Kd.R_lt q201_)) (Kd.R_lt q202_)) (Kd.R_lt q203_)) (Kd.R_lt q204_)) (below_size q95_)); have n5_ := am_ (blk_below (g := gb253) (o := .cells #[.int .i64 2, .int .i64 2, .int .i64 9, .slice Ao18 y250.length co18] 26 (0, 0)) q167_ hb); have n6_ := am_ (blk_below (g := gb261) (o := .cells #[.int .i64 t254, .int .i64 t255, .int .i64 t256, .slice Ao25 t257.length co25] 26 (0, 0)) q168_ hb); have n7_ := am_ (below_step q95_ hb); clear HO252 HO259 HO266 HO269 BK253 BK261 HB; have HO252 := n0_; have HO259 := n1_; have HO266 := n2_; have HO269 := n3_; have HO275 := n4_; have BK253 := n5_; have BK261 := n6_; have HB := n7_; clear n0_ n1_ n2_ n3_ n4_ n5_ n6_ n7_; (try clear hb); (try clear hb2); (try clear hk); (try clear hi); (try clear ho0)) | ((with_reducible refine gate_dst (N := 6) rfl ?_); (try (refine gate_guard (by rfl) ?_; dsimp only)); refine box_event ?hg (N := 6) ?hd (cs := #[.int .i64 0, .int .i64 0, .int .i64 0, .slice none 0 0]) (t := 26) ?hr ?_; (case hd => rfl); (case hg => rfl); (case hr => first | (go_simp; done) | (go_simp; rfl)); intro gb277 hg w35 hbox hb; have n0_ := am_ (Kd.R_below q201_ hb); have n1_ := am_ (Kd.R_below q202_ hb); have n2_ := am_ (Kd.R_below q203_ hb); have n3_ := am_ (Kd.R_below q204_ hb); have n4_ := am_ (Kd.R_below (by (with_reducible repeat (first | apply Kd.R_alloc | apply Kd.R_drewN | apply Kd.R_drew)); exact HO275.out) hb); have n5_ := am_ (blk_below (g := gb253) (o := .cells #[.int .i64 2, .int .i64 2, .int .i64 9, .slice Ao18 y250.length co18] 26 (0, 0)) q167_ hb); have n6_ := am_ (blk_below (g := gb261) (o := .cells #[.int .i64 t254, .int .i64 t255, .int .i64 t256, .slice Ao25 t257.length co25] 26 (0, 0)) q168_ hb); have n7_ := am_ (below_step q95_ hb); have n8_ := am_ (hbox); have n9_ := am_ ((by rw [hg]; exact (below_size q95_) : w.heap.size ≤ gb277)); have n10_ := am_ ((by rw [hg]; exact (below_size q95_) : w.heap.size ≤ gb277)); have n11_ := am_ ((by rw [hg]; exact Nat.ne_of_lt (blk_lt (g := gb253) (o := .cells #[.int .i64 2, .int .i64 2, .int .i64 9, .slice Ao18 y250.length co18] 26 (0, 0)) q167_) : gb253 ≠ gb277)); have n12_ := am_ ((by rw [hg]; exact Nat.ne_of_gt (blk_lt (g := gb253) (o := .cells #[.int .i64 2, .int .i64 2, .int .i64 9, .slice Ao18 y250.length co18] 26 (0, 0)) q167_) : gb277 ≠ gb253)); have n13_ := am_ ((by rw [hg]; exact Nat.ne_of_lt (blk_lt (g := gb261) (o := .cells #[.int .i64 t254, .int .i64 t255, .int .i64 t256, .slice Ao25 t257.length co25] 26 (0, 0)) q168_) : gb261 ≠ gb277)); have n14_ := am_ ((by rw [hg]; exact Nat.ne_of_gt (blk_lt (g := gb261) (o := .cells #[.int .i64 t254, .int .i64 t255, .int .i64 t256, .slice Ao25 t257.length co25] 26 (0, 0)) q168_) : gb277 ≠ gb261)); clear HO252 HO259 HO266 HO269 HO275 BK253 BK261 HB; have HO252 := n0_; have HO259 := n1_; have HO266 := n2_; have HO269 := n3_; have HO275 := n4_; have BK253 := n5_; have BK261 := n6_; have HB := n7_; have BK277 := n8_; have GW277 := n9_; have GE277 := n10_; have NB253_277 := n11_; have NB277_253 := n12_; have NB261_277 := n13_; have NB277_261 := n14_; clear n0_ n1_ n2_ n3_ n4_ n5_ n6_ n7_ n8_ n9_ n10_ n11_ n12_ n13_ n14_; clear hb hbox hg; have hnb36 := NB277_253.out; have hnc36 := NB253_277.out; have hnb37 := NB277_261.out; have hnc37 := NB261_277.out; have hcz38_0 := bc0_ BK277.out; have hcz38_1 := bc1_ BK277.out; have hcz38_2 := bc2_ BK277.out; have hcz38_3 := bc3_ BK277.out; have hfz38_0 := blk_frozen BK277.out 0; have hfz38_1 := blk_frozen BK277.out 1; have hfz38_2 := blk_frozen BK277.out 2; have hfz38_3 := blk_frozen BK277.out 3; obtain ⟨Ao39, co39, eo39⟩ := Kd.R_slice HO275.out; subst eo39; have hcz40_0 := bc0_ BK261.out; have hcz40_1 := bc1_ BK261.out; have hcz40_2 := bc2_ BK261.out; have hcz40_3 := bc3_ BK261.out; have hfz40_0 := blk_frozen BK261.out 0; have hfz40_1 := blk_frozen BK261.out 1; have hfz40_2 := blk_frozen BK261.out 2; have hfz40_3 := blk_frozen BK261.out 3; have p278 : 0 ≤ (3 : Int) := (by omega); have q278 : 3 < (t257.length : Int) := of_decide_eq_true q216_; obtain ⟨ad278, e278, hx278_0⟩ := Kd.at_int (Kd.R_reads' HO259.out).2.2 3 p278 q278; cases e278; (try simp only [show (3 : Int).toNat = 3 from rfl, Nat.reduceMul, Nat.reduceEqDiff, Go.Addr.add, ↓reduceIte] at hx278_0); have qi278 : (3 < t257.length) = True := eq_true (by omega); (try rw [show ((3 : Int)).toNat = 3 from rfl] at hx278_0); have hn278_0 : ad278.block ≠ gb277 := Kd.own_blk (Kd.R_ne HO259.out BK277.out (by decide)); have hn278_1 : ad278.block ≠ gb277 := Kd.own_blk (Kd.R_ne HO259.out BK277.out (by decide)); have hn278_2 : ad278.block ≠ gb277 := Kd.own_blk (Kd.R_ne HO259.out BK277.out (by decide)); have hn278_3 : ad278.block ≠ gb277 := Kd.own_blk (Kd.R_ne HO259.out BK277.out (by decide)); replace hx278_0 := (cell_far (p := ⟨gb277, 0, none⟩) (by first | (rw [add_block]; exact hn278_0) | (show (Addr.add _ _).block ≠ _; rw [add_block]; exact hn278_0) | exact hn278_0) (.int .i64 t270)).trans hx278_0; replace hx278_0 := (cell_far (p := ⟨gb277, 1, none⟩) (by first | (rw [add_block]; exact hn278_1) | (show (Addr.add _ _).block ≠ _; rw [add_block]; exact hn278_1) | exact hn278_1) (.int .i64 t271)).trans hx278_0; replace hx278_0 := (cell_far (p := ⟨gb277, 2, none⟩) (by first | (rw [add_block]; exact hn278_2) | (show (Addr.add _ _).block ≠ _; rw [add_block]; exact hn278_2) | exact hn278_2) (.int .i64 t272)).trans hx278_0; replace hx278_0 := (cell_far (p := ⟨gb277, 3, none⟩) (by first | (rw [add_block]; exact hn278_3) | (show (Addr.add _ _).block ≠ _; rw [add_block]; exact hn278_3) | exact hn278_3) (.slice Ao39 t273.length co39)).trans hx278_0; clear hn278_0 hn278_1 hn278_2 hn278_3; replace p278 := eq_true p278; replace q278 := eq_true q278; have p279 : 0 ≤ (1 : Int) := (by omega); have q279 : 1 < (t273.length : Int) := of_decide_eq_true q216_; obtain ⟨ad279, e279, hx279_0⟩ := Kd.at_int (Kd.R_reads' HO275.out).2.2 1 p279 q279; cases e279; (try simp only [show (1 : Int).toNat = 1 from rfl, Nat.reduceMul, Nat.reduceEqDiff, Go.Addr.add, ↓reduceIte] at hx279_0); have qi279 : (1 < t273.length) = True := eq_true (by omega); (try rw [show ((1 : Int)).toNat = 1 from rfl] at hx279_0); have hn279_0 : ad279.block ≠ gb277 := Kd.own_blk (Kd.R_ne HO275.out BK277.out (by decide)); have hn279_1 : ad279.block ≠ gb277 := Kd.own_blk (Kd.R_ne HO275.out BK277.out (by decide)); have hn279_2 : ad279.block ≠ gb277 := Kd.own_blk (Kd.R_ne HO275.out BK277.out (by decide)); have hn279_3 : ad279.block ≠ gb277 := Kd.own_blk (Kd.R_ne HO275.out BK277.out (by decide)); replace hx279_0 := (cell_far (p := ⟨gb277, 0, none⟩) (by first | (rw [add_block]; exact hn279_0) | (show (Addr.add _ _).block ≠ _; rw [add_block]; exact hn279_0) | exact hn279_0) (.int .i64 t270)).trans hx279_0; replace hx279_0 := (cell_far (p := ⟨gb277, 1, none⟩) (by first | (rw [add_block]; exact hn279_1) | (show (Addr.add _ _).block ≠ _; rw [add_block]; exact hn279_1) | exact hn279_1) (.int .i64 t271)).trans hx279_0; replace hx279_0 := (cell_far (p := ⟨gb277, 2, none⟩) (by first | (rw [add_block]; exact hn279_2) | (show (Addr.add _ _).block ≠ _; rw [add_block]; exact hn279_2) | exact hn279_2) (.int .i64 t272)).trans hx279_0; replace hx279_0 := (cell_far (p := ⟨gb277, 3, none⟩) (by first | (rw [add_block]; exact hn279_3) | (show (Addr.add _ _).block ≠ _; rw [add_block]; exact hn279_3) | exact hn279_3) (.slice (some ad279) t273.length co39)).trans hx279_0; clear hn279_0 hn279_1 hn279_2 hn279_3; replace p279 := eq_true p279; replace q279 := eq_true q279) | (go_at_call 15; (with_reducible refine (integral_Check.calls k 2 2 4294967296 t280 _ A15.out).mono ?_); rintro e w41 ⟨rfl, hb⟩; have n0_ := am_ (Kd.R_below (by (with_reducible repeat (first | apply Kd.R_alloc | apply Kd.R_drewN | apply Kd.R_drew)); exact (Kd.R_mono (Kd.R_far (p := ⟨gb277, 3, none⟩) (Kd.R_far (p := ⟨gb277, 2, none⟩) (Kd.R_far (p := ⟨gb277, 1, none⟩) (Kd.R_far (p := ⟨gb277, 0, none⟩) (Kd.R_types HO252.out BK277.out (by decide)) (fun _ hk => hk.2) (.int .i64 t270)) (fun _ hk => hk.2) (.int .i64 t271)) (fun _ hk => hk.2) (.int .i64 t272)) (fun _ hk => hk.2) (.slice (some ad279) t273.length co39)) (fun _ h_ => h_.1))) hb); have n1_ := am_ (Kd.R_below (by (with_reducible repeat (first | apply Kd.R_alloc | apply Kd.R_drewN | apply Kd.R_drew)); exact (Kd.R_mono (Kd.R_far (p := ⟨gb277, 3, none⟩) (Kd.R_far (p := ⟨gb277, 2, none⟩) (Kd.R_far (p := ⟨gb277, 1, none⟩) (Kd.R_far (p := ⟨gb277, 0, none⟩) (Kd.R_types HO259.out BK277.out (by decide)) (fun _ hk => hk.2) (.int .i64 t270)) (fun _ hk => hk.2) (.int .i64 t271)) (fun _ hk => hk.2) (.int .i64 t272)) (fun _ hk => hk.2) (.slice (some ad279) t273.length co39)) (fun _ h_ => h_.1))) hb); have n2_ := am_ (Kd.R_below (by (with_reducible repeat (first | apply Kd.R_alloc | apply Kd.R_drewN | apply Kd.R_drew)); exact (Kd.R_mono (Kd.R_far (p := ⟨gb277, 3, none⟩) (Kd.R_far (p := ⟨gb277, 2, none⟩) (Kd.R_far (p := ⟨gb277, 1, none⟩) (Kd.R_far (p := ⟨gb277, 0, none⟩) (Kd.R_types HO266.out BK277.out (by decide)) (fun _ hk => hk.2) (.int .i64 t270)) (fun _ hk => hk.2) (.int .i64 t271)) (fun _ hk => hk.2) (.int .i64 t272)) (fun _ hk => hk.2) (.slice (some ad279) t273.length co39)) (fun _ h_ => h_.1))) hb); have n3_ := am_ (Kd.R_below (by (with_reducible repeat (first | apply Kd.R_alloc | apply Kd.R_drewN | apply Kd.R_drew)); exact (Kd.R_mono (Kd.R_far (p := ⟨gb277, 3, none⟩) (Kd.R_far (p := ⟨gb277, 2, none⟩) (Kd.R_far (p := ⟨gb277, 1, none⟩) (Kd.R_far (p := ⟨gb277, 0, none⟩) (Kd.R_types HO269.out BK277.out (by decide)) (fun _ hk => hk.2) (.int .i64 t270)) (fun _ hk => hk.2) (.int .i64 t271)) (fun _ hk => hk.2) (.int .i64 t272)) (fun _ hk => hk.2) (.slice (some ad279) t273.length co39)) (fun _ h_ => h_.1))) hb); have n4_ := am_ (Kd.R_below (by (with_reducible repeat (first | apply Kd.R_alloc | apply Kd.R_drewN | apply Kd.R_drew)); exact (Kd.R_mono (Kd.R_far (p := ⟨gb277, 3, none⟩) (Kd.R_far (p := ⟨gb277, 2, none⟩) (Kd.R_far (p := ⟨gb277, 1, none⟩) (Kd.R_far (p := ⟨gb277, 0, none⟩) (Kd.R_types HO275.out BK277.out (by decide)) (fun _ hk => hk.2) (.int .i64 t270)) (fun _ hk => hk.2) (.int .i64 t271)) (fun _ hk => hk.2) (.int .i64 t272)) (fun _ hk => hk.2) (.slice (some ad279) t273.length co39)) (fun _ h_ => h_.1))) hb); have n5_ := am_ (blk_below (g := gb253) (o := .cells #[.int .i64 2, .int .i64 2, .int .i64 9, .slice Ao18 y250.length co18] 26 (0, 0)) (by (with_reducible repeat (first | refine blk_drewN ?_ _ | refine blk_drew ?_ | refine blk_alloc ?_ _)); refine blk_far ?_ NB253_277.out _; (with_reducible repeat (first | refine blk_drewN ?_ _ | refine blk_drew ?_ | refine blk_alloc ?_ _)); refine blk_far ?_ NB253_277.out _; (with_reducible repeat (first | refine blk_drewN ?_ _ | refine blk_drew ?_ | refine blk_alloc ?_ _)); refine blk_far ?_ NB253_277.out _; (with_reducible repeat (first | refine blk_drewN ?_ _ | refine blk_drew ?_ | refine blk_alloc ?_ _)); refine blk_far ?_ NB253_277.out _; (with_reducible repeat (first | refine blk_drewN ?_ _ | refine blk_drew ?_ | refine blk_alloc ?_ _)); exact BK253.out) hb); have n6_ := am_ (blk_below (g := gb261) (o := .cells #[.int .i64 t254, .int .i64 t255, .int .i64 t256, .slice (some ad278) t257.length co25] 26 (0, 0)) (by (with_reducible repeat (first | refine blk_drewN ?_ _ | refine blk_drew ?_ | refine blk_alloc ?_ _)); refine blk_far ?_ NB261_277.out _; (with_reducible repeat (first | refine blk_drewN ?_ _ | refine blk_drew ?_ | refine blk_alloc ?_ _)); refine blk_far ?_ NB261_277.out _; (with_reducible repeat (first | refine blk_drewN ?_ _ | refine blk_drew ?_ | refine blk_alloc ?_ _)); refine blk_far ?_ NB261_277.out _; (with_reducible repeat (first | refine blk_drewN ?_ _ | refine blk_drew ?_ | refine blk_alloc ?_ _)); refine blk_far ?_ NB261_277.out _; (with_reducible repeat (first | refine blk_drewN ?_ _ | refine blk_drew ?_ | refine blk_alloc ?_ _)); exact BK261.out) hb); have n7_ := am_ (blk_below (g := gb277) (o := .cells #[.int .i64 t270, .int .i64 t271, .int .i64 t272, .slice (some ad279) t273.length co39] 26 (0, 0)) (by (with_reducible repeat (first | refine blk_drewN ?_ _ | refine blk_drew ?_ | refine blk_alloc ?_ _)); refine blk_put (cs := #[.int .i64 t270, .int .i64 t271, .int .i64 t272, .slice none 0 0]) ?_ 3 _ rfl; (with_reducible repeat (first | refine blk_drewN ?_ _ | refine blk_drew ?_ | refine blk_alloc ?_ _)); refine blk_put (cs := #[.int .i64 t270, .int .i64 t271, .int .i64 0, .slice none 0 0]) ?_ 2 _ rfl; (with_reducible repeat (first | refine blk_drewN ?_ _ | refine blk_drew ?_ | refine blk_alloc ?_ _)); refine blk_put (cs := #[.int .i64 t270, .int .i64 0, .int .i64 0, .slice none 0 0]) ?_ 1 _ rfl; (with_reducible repeat (first | refine blk_drewN ?_ _ | refine blk_drew ?_ | refine blk_alloc ?_ _)); refine blk_put (cs := #[.int .i64 0, .int .i64 0, .int .i64 0, .slice none 0 0]) ?_ 0 _ rfl; (with_reducible repeat (first | refine blk_drewN ?_ _ | refine blk_drew ?_ | refine blk_alloc ?_ _)); exact BK277.out) hb); have n8_ := am_ (below_step (by repeat (first | (with_reducible first | exact HB.out | apply below_alloc | apply pw_below_drewN | apply below_drew1 | refine below_set ?_ GE253.out | refine below_set ?_ GE261.out | refine below_set ?_ GE277.out) | exact HB.out)) hb); clear HO252 HO259 HO266 HO269 HO275 BK253 BK261 BK277 HB; have HO252 := n0_; have HO259 := n1_; have HO266 := n2_; have HO269 := n3_; have HO275 := n4_; have BK253 := n5_; have BK261 := n6_; have BK277 := n7_; have HB := n8_; clear n0_ n1_ n2_ n3_ n4_ n5_ n6_ n7_ n8_; (try clear hb); (try clear hb2); (try clear hk); (try clear hi)))
            go_ret
            exact ⟨q211_, by repeat (first | (with_reducible first | exact HB.out | apply below_alloc | apply pw_below_drewN | apply below_drew1 | refine below_set ?_ GE253.out | refine below_set ?_ GE261.out | refine below_set ?_ GE277.out) | exact HB.out)⟩
           ·rw [if_neg c14] at H
            have c14b0 : ((rd t273 1) == 10) = false := beq_eq_false_iff_ne.mpr c14; have c14b1 : ((rd t273 1) != 10) = true := bne_iff_ne.mpr c14; exact absurd ((Option.some.inj H).trans HT.out) (by decide)
          ·rw [if_neg c13] at H
           exact absurd H (by simp)
         ·rw [if_neg c12] at H
          have c12b0 : ((t273.length : Int) == 2) = false := beq_eq_false_iff_ne.mpr c12; have c12b1 : ((t273.length : Int) != 2) = true := bne_iff_ne.mpr c12; exact absurd ((Option.some.inj H).trans HT.out) (by decide)
        ·rw [if_neg c11] at H
         have c11b0 : (t276 == 0) = false := beq_eq_false_iff_ne.mpr c11; have c11b1 : (t276 != 0) = true := bne_iff_ne.mpr c11; exact absurd ((Option.some.inj H).trans HT.out) (by decide)
       ·rw [if_neg c10] at H
        have c10b0 : (t262 == 4) = false := beq_eq_false_iff_ne.mpr c10; have c10b1 : (t262 != 4) = true := bne_iff_ne.mpr c10; exact absurd ((Option.some.inj H).trans HT.out) (by decide)
      ·rw [if_neg c9] at H
       have c9b0 : (t263 == 0) = false := beq_eq_false_iff_ne.mpr c9; have c9b1 : (t263 != 0) = true := bne_iff_ne.mpr c9; exact absurd ((Option.some.inj H).trans HT.out) (by decide)
     ·rw [if_neg c8] at H
      have c8b0 : (t256 == 36) = false := beq_eq_false_iff_ne.mpr c8; have c8b1 : (t256 != 36) = true := bne_iff_ne.mpr c8; exact absurd ((Option.some.inj H).trans HT.out) (by decide)
    ·rw [if_neg c7] at H
     have c7b0 : ((rd t257 3) == 10) = false := beq_eq_false_iff_ne.mpr c7; have c7b1 : ((rd t257 3) != 10) = true := bne_iff_ne.mpr c7; exact absurd ((Option.some.inj H).trans HT.out) (by decide)
   ·rw [if_neg c6] at H
    exact absurd H (by simp)
  ·rw [if_neg c5] at H
   have c5b0 : ((t257.length : Int) == 4) = false := beq_eq_false_iff_ne.mpr c5; have c5b1 : ((t257.length : Int) != 4) = true := bne_iff_ne.mpr c5; exact absurd ((Option.some.inj H).trans HT.out) (by decide)
 ·rw [if_neg c4] at H
  have c4b0 : (t260 == 0) = false := beq_eq_false_iff_ne.mpr c4; have c4b1 : (t260 != 0) = true := bne_iff_ne.mpr c4; exact absurd ((Option.some.inj H).trans HT.out) (by decide)


def tilefarmref1_Mul.f (a0 : Int) (a1 : Int) (a2 : Int) : Option (Int × Bool) := if a0 < 0 then (some (0, false)) else (if a1 < 0 then (some (0, false)) else (if a2 < 0 then (some (0, false)) else (if a1 > 0 then (if a1 = 0 then (none) else (if a0 > (wrap64 (Int.tdiv a2 a1)) then (some (0, false)) else (some (wrap64 (a0 * a1), true)))) else (some (wrap64 (a0 * a1), true)))))
set_option maxHeartbeats 8000000 in
set_option maxRecDepth 100000 in
theorem tilefarmref1_Mul.calls (a0 : Int) (a1 : Int) (a2 : Int) (r1 : Int) (r2 : Bool) (w : World) (h : tilefarmref1_Mul.f a0 a1 a2 = some (r1, r2)) :
  Calls Try.prog 55 #[.int .i64 a0, .int .i64 a1, .int .i64 a2] w fun e w' => e = .returned (.tuple #[.int .i64 r1, .bool r2]) ∧ Drawn0 w w' := by
 have H : (if a0 < 0 then (some (0, false)) else (if a1 < 0 then (some (0, false)) else (if a2 < 0 then (some (0, false)) else (if a1 > 0 then (if a1 = 0 then (none) else (if a0 > (wrap64 (Int.tdiv a2 a1)) then (some (0, false)) else (some (wrap64 (a0 * a1), true)))) else (some (wrap64 (a0 * a1), true)))))) = some (r1, r2) := h; clear h
 by_cases c4 : a0 < 0
 ·rw [if_pos c4] at H
  have c4b0 : decide (a0 < 0) = true := decide_eq_true c4; clear c4; simp only [Option.some.injEq, Prod.mk.injEq] at H; obtain ⟨rfl, rfl⟩ := H
  go_enter Try.func55, Try.ntmps55
  go_wp2
  go_ret2
  exact ⟨q217_, q213_⟩
 ·rw [if_neg c4] at H
  have c4b0 : decide (a0 < 0) = false := decide_eq_false c4; clear c4
  by_cases c5 : a1 < 0
  ·rw [if_pos c5] at H
   have c5b0 : decide (a1 < 0) = true := decide_eq_true c5; clear c5; simp only [Option.some.injEq, Prod.mk.injEq] at H; obtain ⟨rfl, rfl⟩ := H
   go_enter Try.func55, Try.ntmps55
   go_wp2
   go_ret2
   exact ⟨q217_, q213_⟩
  ·rw [if_neg c5] at H
   have c5b0 : decide (a1 < 0) = false := decide_eq_false c5; clear c5
   by_cases c6 : a2 < 0
   ·rw [if_pos c6] at H
    have c6b0 : decide (a2 < 0) = true := decide_eq_true c6; clear c6; simp only [Option.some.injEq, Prod.mk.injEq] at H; obtain ⟨rfl, rfl⟩ := H
    go_enter Try.func55, Try.ntmps55
    go_wp2
    go_ret2
    exact ⟨q217_, q213_⟩
   ·rw [if_neg c6] at H
    have c6b0 : decide (a2 < 0) = false := decide_eq_false c6; clear c6
    by_cases c7 : a1 > 0
    ·rw [if_pos c7] at H
     have c7b0 : decide (0 < a1) = true := decide_eq_true c7; clear c7
     by_cases c8 : a1 = 0
     ·rw [if_pos c8] at H
      exact absurd H (by simp)
     ·rw [if_neg c8] at H
      have c8b0 : (a1 == 0) = false := beq_eq_false_iff_ne.mpr c8; have c8b1 : (a1 != 0) = true := bne_iff_ne.mpr c8
      by_cases c9 : a0 > (wrap64 (Int.tdiv a2 a1))
      ·rw [if_pos c9] at H
       have c9b0 : decide ((wrap64 (Int.tdiv a2 a1)) < a0) = true := decide_eq_true c9; clear c9; simp only [Option.some.injEq, Prod.mk.injEq] at H; obtain ⟨rfl, rfl⟩ := H
       go_enter Try.func55, Try.ntmps55
       go_wp2
       go_ret2
       exact ⟨q217_, q213_⟩
      ·rw [if_neg c9] at H
       have c9b0 : decide ((wrap64 (Int.tdiv a2 a1)) < a0) = false := decide_eq_false c9; clear c9; simp only [Option.some.injEq, Prod.mk.injEq] at H; obtain ⟨rfl, rfl⟩ := H
       go_enter Try.func55, Try.ntmps55
       go_wp2
       go_ret2
       exact ⟨q217_, q213_⟩
    ·rw [if_neg c7] at H
     have c7b0 : decide (0 < a1) = false := decide_eq_false c7; clear c7; simp only [Option.some.injEq, Prod.mk.injEq] at H; obtain ⟨rfl, rfl⟩ := H
     go_enter Try.func55, Try.ntmps55
     go_wp2
     go_ret2
     exact ⟨q217_, q213_⟩

end Go.Proofs.Ytkipnpgcpohlcaa.PIntegralWhole

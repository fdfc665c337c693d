-- Written by a program of the session (wip/tools/pack.py): the printed texts, pruned; checked by Lean.
import Derived.Test.YtgkccacenlcebaaKPlaneCropsa
import Derived.Test.YtgkccacenlcebaaKPlaneCropsx0
import Derived.Test.YtgkccacenlcebaaKPlaneCropsx4
import Derived.Test.YtgkccacenlcebaaKPlaneCropsx7
namespace Go.Proofs.Ytgkccacenlcebaa.PPlaneCrops
open Go.RowKit Go.Proofs.YtgkccacenlcebaaW.PrintWords Go.Proofs.YtgkccacenlcebaaW.PrintLast Go.Proofs.YtgkccacenlcebaaW.PrintMore
attribute [local go_sem] max2_int min2_int max_two min_two max_three min_three max_four min_four   -- for this text's walks alone
set_option linter.unusedVariables false
set_option linter.unusedSimpArgs false
section
open Go Kd
def spl (xs : List Int) (L : Nat) (ys : List Int) : List Int := xs.take L ++ (ys ++ xs.drop (L + ys.length))
theorem spl_len {xs ys : List Int} {L : Nat} (h : L + ys.length ≤ xs.length) : (spl xs L ys).length = xs.length := by
 unfold spl; rw [List.length_append, List.length_append, List.length_take, List.length_drop]
 omega

theorem R_copyat_run {P : Program} {W : World} {base e g n c L m1 c1 m2 c2 : Nat} {ok : Nat → Prop} {xs ys : List Int} {A B : Option Addr} (dT sT ty : TypeId) (hu : P.underlying dT = some (.slice e)) (hsz : (P.info? e).map (·.size) = some 1)
  (HO : Kd.R (Kd.int .i64) e W base ok (.slice (some ⟨g, 0, none⟩) n c) xs) (hA : A = if c = L then some ⟨g, 0, none⟩ else (some (⟨g, 0, none⟩ : Addr)).map (·.add (L * 1))) (hm1 : m1 = n - L) (hm2 : m2 = ys.length) (hfit : ys.length ≤ n - L) (hL : L ≤ n) (HR : Kd.C (Kd.int .i64) W B ys.length ys) :
  ∃ w1, (Builtin.copy_ #[dT, sT] ty #[.slice A m1 c1, .slice B m2 c2]).run P W = .ok (goInt ys.length) w1 ∧ Kd.R (Kd.int .i64) e w1 base ok (.slice (some ⟨g, 0, none⟩) n c) (spl xs L ys) ∧ W.grownBy w1 (some g) := by
 have hR := reads_of_C (enc := Value.int .i64) (d := (0 : Int)) (h1 := fun _ => rfl) HR; have hown := own_of_R (enc := Value.int .i64) (h1 := fun _ => rfl) HO; obtain ⟨hxn, _, _⟩ := Kd.R_reads' HO; subst hm1; subst hm2
 rcases Nat.eq_zero_or_pos ys.length with h0 | hp
 ·have hy : ys = [] := List.eq_nil_of_length_eq_zero h0
  refine ⟨W, ?_, ?_, World.grownBy.refl W _⟩
  ·rw [h0]
   exact run_copy_none W dT sT ty e A B (n - L) c1 0 c2 hu hsz (by simp)
  ·have : spl xs L ys = xs := by unfold spl; rw [hy]; simp
   rw [this]; exact HO
 ·obtain ⟨ad, hB, hc⟩ := hR.2.2 hp
  rcases hown.2 with ⟨hv, _⟩ | ⟨g', cap, cur, hv, hb, hh, hnc, hcm, hcs, htake⟩
  ·cases hv
  injection hv with hv1 hv2 hv3; injection hv1 with hv1; injection hv1 with hv1; subst hv1; subst hv3; have hcs1 : cur.size = c := by rw [hcs, Nat.mul_one]
  have hne : ¬ c = L := by omega
  have hA' : A = some ⟨g, L, none⟩ := by rw [hA, if_neg hne, Option.map_some, add_plain, Nat.mul_one]
  have hkl : (encs (Value.int .i64) ys).length = ys.length := encs_length ..
  have hsrc : ∀ j u, (encs (Value.int .i64) ys)[j]? = some u → W.cell? (ad.add j) = some u := by
   intro j u hu
   have hj : j < ys.length := by
    rcases Nat.lt_or_ge j ys.length with h | h
    ·exact h
    ·rw [List.getElem?_eq_none (by rw [hkl]; exact h)] at hu
     cases hu
   rw [encs_get (d := (0 : Int)) _ j hj] at hu; rw [hc j hj, ← hu]
  have hr := run_copy_cells (P := P) W dT sT ty e g L (n - L) c1 ad ys.length c2 (encs (Value.int .i64) ys) hu hsz (by rw [hkl]; exact (Nat.min_eq_left hfit).symm) hsrc
   (fun j hj => by rw [cell_of_row W g _ cur e (0, 0) hh]; simp; omega) (fun j _ => blk_frozen hh _) (by intro u hu; simp only [encs, List.mem_map] at hu; obtain ⟨q, _, rfl⟩ := hu; rfl)
  obtain ⟨cur', h3, h4, h5⟩ := setCells_row (encs (Value.int .i64) ys) L W cur hh (by rw [hkl]; omega); obtain ⟨s1, s2, s3, s4⟩ := setCells_same g (encs (Value.int .i64) ys) L W; have hln : (spl xs L ys).length = xs.length := spl_len (by omega); refine ⟨_, by rw [hA', hB, hr, hkl], R_of_own (enc := Value.int .i64) (h1 := fun _ => rfl) ?_ HO.1, ⟨s1, s2, s3, by rw [s4]; exact Nat.le_refl _, fun k _ hk => setCells_far _ _ k (fun he => hk (by rw [he]))⟩⟩; rw [hln]; refine ⟨by rw [encs_length, hln, Nat.mul_one], .inr ⟨g, c, cur', by rw [hxn], hb, h3, hnc, hcm, by rw [h4, hcs], ?_⟩⟩; have htk : cur.toList.take xs.length = encs (Value.int .i64) xs := by rw [← htake, Nat.mul_one]
  rw [h5, Nat.mul_one, List.append_assoc]; unfold spl; rw [encs_append, encs_append, hkl]
  have t1 : cur.toList.take L = encs (Value.int .i64) (xs.take L) := by
   have : (cur.toList.take xs.length).take L = (encs (Value.int .i64) xs).take L := by rw [htk]
   rw [List.take_take, Nat.min_eq_left (by omega)] at this; rw [this]
   simp [encs, List.map_take]
  have t2 : (cur.toList.drop (L + ys.length)).take (xs.length - (L + ys.length)) = encs (Value.int .i64) (xs.drop (L + ys.length)) := by
   have : (cur.toList.take xs.length).drop (L + ys.length) = (encs (Value.int .i64) xs).drop (L + ys.length) := by rw [htk]
   rw [List.drop_take] at this; rw [this]
   simp [encs, List.map_drop]
  rw [t1, ← t2]; have l1 : (encs (Value.int .i64) (xs.take L)).length = L := by rw [encs_length, List.length_take]; omega
  have fin : ∀ (T Y D : List Value) (m : Nat), T.length + Y.length ≤ m → (T ++ (Y ++ D)).take m = T ++ (Y ++ D.take (m - (T.length + Y.length))) := by
   intro T Y D m h; rw [List.take_append, List.take_of_length_le (l := T) (by omega), List.take_append, List.take_of_length_le (l := Y) (by omega), Nat.sub_sub]
  rw [fin _ _ _ _ (by rw [l1, hkl]; omega), l1, hkl]
section
variable {P : Program} {ops : Array Oper} {rest : List Oper} {o : Oper} {a : Act} {Q : Exit → Act → World → Prop} {Kc : Act → World → Prop}
theorem R_copyat_step {w0 W : World} (base : Nat) (hw : Region.wanted o (yielded ops a.tmps) = true) (s x : Operand) (dT sT e : TypeId) (ho : o.op = .call { callee := .builtin .copy, args := #[s, x], argTypes := #[dT, sT] }) (hu : P.underlying dT = some (.slice e)) (hsz : (P.info? e).map (·.size) = some 1)
  {g n c L m1 c1 m2 c2 : Nat} {ok : Nat → Prop} {xs ys : List Int} {A B : Option Addr} (hs : a.eval s = .slice A m1 c1) (hx : a.eval x = .slice B m2 c2)
  (HO : Kd.R (Kd.int .i64) e W base ok (.slice (some ⟨g, 0, none⟩) n c) xs) (hA : A = if c = L then some ⟨g, 0, none⟩ else (some (⟨g, 0, none⟩ : Addr)).map (·.add (L * 1))) (hm1 : m1 = n - L) (hm2 : m2 = ys.length) (hfit : ys.length ≤ n - L) (hL : L ≤ n) (HR : Kd.C (Kd.int .i64) W B ys.length ys)
  (HB : Below base w0 W) (hbase : base ≤ W.heap.size) {E : Prop}
  (h : ∀ w1, Kd.R (Kd.int .i64) e w1 base ok (.slice (some ⟨g, 0, none⟩) n c) (spl xs L ys) → Below base w0 w1 → W.grownBy w1 (some g) → Kc (a.put o.dst (.int .i64 (ys.length : Int))) w1) : if Region.wanted o (yielded ops a.tmps) = true then Oper.wp P o a W Kc Q else E := by
 obtain ⟨w1, hr, h1, h2⟩ := R_copyat_run (P := P) dT sT o.type hu hsz HO hA hm1 hm2 hfit hL HR; rw [if_pos hw]; unfold Oper.wp execOp; simp only [ho, resolve, invoke, builtin, Sem.run_bind, Sem.run_pure, Result.andThen_ok, List.map_toArray, List.map_cons, List.map_nil, hs, hx]; rw [hr]; exact h w1 h1 (HB.grown h2 hbase (fun k hk => by injection hk with hk; subst hk; exact R_base HO _ (by simp [Value.ownBlock]))) h2
end
end
mutual
def plane_Blit.j0 : Nat → Int → Int → Bool → Int → Int → Int → List Int → Int → Int → Int → List Int → Option (Int × Int × Int × List Int × Bool)
 | 0, _, _, _, _, _, _, _, _, _, _, _ => none
 | k + 1, x2, x3, x44, x173000, x173001, x173002, x173003, x174000, x174001, x174002, x174003 => if x44 = true then (some (0, 0, 0, ([] : List Int), false)) else ((slices_Max_int_int.f k x174003).bind fun t177 => (if t177 > x173002 then (some (0, 0, 0, ([] : List Int), false)) else ((slices_Clone_int_int.f x173003).bind fun t178 => (plane_Blit.l0 k x2 x3 x174001 0 x173000 x173001 x173002 t178 x174000 x174001 x174002 x174003))))
def plane_Blit.l0 : Nat → Int → Int → Int → Int → Int → Int → Int → List Int → Int → Int → Int → List Int → Option (Int × Int × Int × List Int × Bool)
 | 0, _, _, _, _, _, _, _, _, _, _, _, _ => none
 | k + 1, x2, x3, x58, x59, x173000, x173001, x173002, x173003, x174000, x174001, x174002, x174003 => if x59 < x58 then (if 0 ≤ (wrap64 ((wrap64 ((wrap64 (x3 + x59)) * x173000)) + x2)) then (if (wrap64 ((wrap64 ((wrap64 (x3 + x59)) * x173000)) + x2)) ≤ (x173003.length : Int) then (if 0 ≤ (wrap64 (x59 * x174000)) then (if (wrap64 (x59 * x174000)) ≤ (wrap64 ((wrap64 (x59 + 1)) * x174000)) then (if (wrap64 ((wrap64 (x59 + 1)) * x174000)) ≤ (x174003.length : Int) then (if 0 < (((x174003.take ((wrap64 ((wrap64 (x59 + 1)) * x174000)) : Int).toNat).drop ((wrap64 (x59 * x174000)) : Int).toNat).length : Int) then (if (((x174003.take ((wrap64 ((wrap64 (x59 + 1)) * x174000)) : Int).toNat).drop ((wrap64 (x59 * x174000)) : Int).toNat).length : Int) ≤ ((x173003.drop ((wrap64 ((wrap64 ((wrap64 (x3 + x59)) * x173000)) + x2)) : Int).toNat).length : Int) then (plane_Blit.l0 k x2 x3 x58 (wrap64 (x59 + 1)) x173000 x173001 x173002 (spl x173003 ((wrap64 ((wrap64 ((wrap64 (x3 + x59)) * x173000)) + x2)) : Int).toNat ((x174003.take ((wrap64 ((wrap64 (x59 + 1)) * x174000)) : Int).toNat).drop ((wrap64 (x59 * x174000)) : Int).toNat)) x174000 x174001 x174002 x174003) else (none)) else (none)) else (none)) else (none)) else (none)) else (none)) else (none)) else (some (x173000, x173001, x173002, x173003, true))
end
def plane_Blit.f (k : Nat) (a0_0 : Int) (a0_1 : Int) (a0_2 : Int) (l0_3 : List Int) (a1_0 : Int) (a1_1 : Int) (a1_2 : Int) (l1_3 : List Int) (a2 : Int) (a3 : Int) : Option (Int × Int × Int × List Int × Bool) := (plane_Valid.f k a0_0 a0_1 a0_2 l0_3).bind fun t175 => (if t175 = true then ((plane_Valid.f k a1_0 a1_1 a1_2 l1_3).bind fun t176 => (if t176 = true then (if a2 < 0 then (plane_Blit.j0 k a2 a3 true a0_0 a0_1 a0_2 l0_3 a1_0 a1_1 a1_2 l1_3) else (if a3 < 0 then (plane_Blit.j0 k a2 a3 true a0_0 a0_1 a0_2 l0_3 a1_0 a1_1 a1_2 l1_3) else (if a2 > (wrap64 (a0_0 - a1_0)) then (plane_Blit.j0 k a2 a3 true a0_0 a0_1 a0_2 l0_3 a1_0 a1_1 a1_2 l1_3) else (plane_Blit.j0 k a2 a3 (decide (a3 > (wrap64 (a0_1 - a1_1)))) a0_0 a0_1 a0_2 l0_3 a1_0 a1_1 a1_2 l1_3)))) else (plane_Blit.j0 k a2 a3 true a0_0 a0_1 a0_2 l0_3 a1_0 a1_1 a1_2 l1_3))) else (plane_Blit.j0 k a2 a3 true a0_0 a0_1 a0_2 l0_3 a1_0 a1_1 a1_2 l1_3))
theorem plane_Blit.mono_l : ∀ k, (∀ y0 y1 y2 y3 y4 y5 y6 y7 y8 y9 y10, LeO (plane_Blit.j0 k y0 y1 y2 y3 y4 y5 y6 y7 y8 y9 y10) (plane_Blit.j0 (k + 1) y0 y1 y2 y3 y4 y5 y6 y7 y8 y9 y10)) ∧ (∀ y0 y1 y2 y3 y4 y5 y6 y7 y8 y9 y10 y11, LeO (plane_Blit.l0 k y0 y1 y2 y3 y4 y5 y6 y7 y8 y9 y10 y11) (plane_Blit.l0 (k + 1) y0 y1 y2 y3 y4 y5 y6 y7 y8 y9 y10 y11))
 | 0 => ⟨fun _ _ _ _ _ _ _ _ _ _ _ r h => by simp [plane_Blit.j0] at h, fun _ _ _ _ _ _ _ _ _ _ _ _ r h => by simp [plane_Blit.l0] at h⟩
 | k + 1 => by
  obtain ⟨ih0, ih1⟩ := plane_Blit.mono_l k; refine ⟨?_, ?_⟩
  ·intro y0 y1 y2 y3 y4 y5 y6 y7 y8 y9 y10
   unfold plane_Blit.j0
   repeat' first
   | (with_reducible exact ih0 _ _ _ _ _ _ _ _ _ _ _)
   | (with_reducible exact ih1 _ _ _ _ _ _ _ _ _ _ _ _)
   | (with_reducible exact plane_Valid.mono _ _ _ _ _)
   | (with_reducible exact slices_Max_int_int.mono _ _)
   | (with_reducible exact LeO.refl _)
   | (with_reducible exact LeO.none _)
   | (with_reducible refine LeO.ite ?_ ?_)
   | (with_reducible refine LeO.bind ?_ (fun _ => ?_))
   | exact ih0 _ _ _ _ _ _ _ _ _ _ _
   | exact ih1 _ _ _ _ _ _ _ _ _ _ _ _
   | exact plane_Valid.mono _ _ _ _ _
   | exact slices_Max_int_int.mono _ _
   | exact LeO.none _
   | refine LeO.ite ?_ ?_
   | refine LeO.bind ?_ (fun _ => ?_)
  ·intro y0 y1 y2 y3 y4 y5 y6 y7 y8 y9 y10 y11
   unfold plane_Blit.l0
   repeat' first
   | (with_reducible exact ih0 _ _ _ _ _ _ _ _ _ _ _)
   | (with_reducible exact ih1 _ _ _ _ _ _ _ _ _ _ _ _)
   | (with_reducible exact plane_Valid.mono _ _ _ _ _)
   | (with_reducible exact slices_Max_int_int.mono _ _)
   | (with_reducible exact LeO.refl _)
   | (with_reducible exact LeO.none _)
   | (with_reducible refine LeO.ite ?_ ?_)
   | (with_reducible refine LeO.bind ?_ (fun _ => ?_))
   | exact ih0 _ _ _ _ _ _ _ _ _ _ _
   | exact ih1 _ _ _ _ _ _ _ _ _ _ _ _
   | exact plane_Valid.mono _ _ _ _ _
   | exact slices_Max_int_int.mono _ _
   | exact LeO.none _
   | refine LeO.ite ?_ ?_
   | refine LeO.bind ?_ (fun _ => ?_)
theorem plane_Blit.mono : ∀ a0 a1 a2 a3 a4 a5 a6 a7 a8 a9 k, LeO (plane_Blit.f k a0 a1 a2 a3 a4 a5 a6 a7 a8 a9) (plane_Blit.f (k + 1) a0 a1 a2 a3 a4 a5 a6 a7 a8 a9) := by
 intro a0 a1 a2 a3 a4 a5 a6 a7 a8 a9 k; obtain ⟨ih0, ih1⟩ := plane_Blit.mono_l k; unfold plane_Blit.f
 repeat' first
   | (with_reducible exact ih0 _ _ _ _ _ _ _ _ _ _ _)
   | (with_reducible exact ih1 _ _ _ _ _ _ _ _ _ _ _ _)
   | (with_reducible exact plane_Valid.mono _ _ _ _ _)
   | (with_reducible exact slices_Max_int_int.mono _ _)
   | (with_reducible exact LeO.refl _)
   | (with_reducible exact LeO.none _)
   | (with_reducible refine LeO.ite ?_ ?_)
   | (with_reducible refine LeO.bind ?_ (fun _ => ?_))
   | exact ih0 _ _ _ _ _ _ _ _ _ _ _
   | exact ih1 _ _ _ _ _ _ _ _ _ _ _ _
   | exact plane_Valid.mono _ _ _ _ _
   | exact slices_Max_int_int.mono _ _
   | exact LeO.none _
   | refine LeO.ite ?_ ?_
   | refine LeO.bind ?_ (fun _ => ?_)
def plane_Blit.T9 : Bool × List (List Nat × List Nat) := (true, [([], []), ([0], [0]), ([], []), ([], []), ([2, 3], [2, 3]), ([], []), ([5], [5]), ([4, 6], [4, 6]), ([], []), ([7, 8], [7, 8]), ([1, 9], [1, 9]), ([], []), ([11], [11]), ([], []), ([], []), ([14], [14]), ([13, 15], [13, 15]), ([], []), ([17], [17]), ([], []), ([19], [19]), ([18, 20], [18, 20]), ([12, 16, 21], [12, 16, 21]), ([10, 22], [10, 22])])
def plane_Blit.B9 : List Nat := [0, 1, 0, 0, 12, 0, 32, 124, 0, 508, 1023, 0, 2048, 0, 0, 16384, 57344, 0, 131072, 0, 524288, 1966080, 4192256, 8388607]
theorem plane_Blit.tab9 : rtab .any (opsOf Try.f14 9) = plane_Blit.T9 := by kernel_rfl
theorem plane_Blit.bits9 : waitsOk plane_Blit.T9.2 plane_Blit.B9 = true := by kernel_rfl
set_option maxHeartbeats 8000000 in
set_option maxRecDepth 100000 in
theorem plane_Blit.calls (k : Nat) (a0_0 : Int) (a0_1 : Int) (a0_2 : Int) (A0_3 : Option Addr) (c0_3 : Nat) (l0_3 : List Int) (a1_0 : Int) (a1_1 : Int) (a1_2 : Int) (A1_3 : Option Addr) (c1_3 : Nat) (l1_3 : List Int) (a2 : Int) (a3 : Int) (r1 : Int) (r2 : Int) (r3 : Int) (r4 : List Int) (r5 : Bool) (w : World) (hr0_3 : Kd.C (Kd.int .i64) w A0_3 l0_3.length l0_3) (hc0_3 : l0_3.length ≤ c0_3) (hr1_3 : Kd.C (Kd.int .i64) w A1_3 l1_3.length l1_3) (hc1_3 : l1_3.length ≤ c1_3) (h : plane_Blit.f k a0_0 a0_1 a0_2 l0_3 a1_0 a1_1 a1_2 l1_3 a2 a3 = some (r1, r2, r3, r4, r5)) :
  Calls Try.prog 14 #[.agg #[.int .i64 a0_0, .int .i64 a0_1, .int .i64 a0_2, .slice A0_3 l0_3.length c0_3], .agg #[.int .i64 a1_0, .int .i64 a1_1, .int .i64 a1_2, .slice A1_3 l1_3.length c1_3], .int .i64 a2, .int .i64 a3] w fun e w' => ∃ v3_ : Value, e = .returned (.tuple #[.agg #[.int .i64 r1, .int .i64 r2, .int .i64 r3, v3_], .bool r5]) ∧ Kd.R (Kd.int .i64) 3 w' w.heap.size (fun _ => True) v3_ r4 ∧ Below w.heap.size w w' := by
 have hu26 := Try.underlying26; have HR0_3 := am_ hr0_3; have HC0_3 := am_ hc0_3; clear hr0_3 hc0_3; have HR1_3 := am_ hr1_3; have HC1_3 := am_ hc1_3; clear hr1_3 hc1_3; have HB := am_ (Below.refl w.heap.size w); have H : ((plane_Valid.f k a0_0 a0_1 a0_2 l0_3).bind fun t175 => (if t175 = true then ((plane_Valid.f k a1_0 a1_1 a1_2 l1_3).bind fun t176 => (if t176 = true then (if a2 < 0 then (plane_Blit.j0 k a2 a3 true a0_0 a0_1 a0_2 l0_3 a1_0 a1_1 a1_2 l1_3) else (if a3 < 0 then (plane_Blit.j0 k a2 a3 true a0_0 a0_1 a0_2 l0_3 a1_0 a1_1 a1_2 l1_3) else (if a2 > (wrap64 (a0_0 - a1_0)) then (plane_Blit.j0 k a2 a3 true a0_0 a0_1 a0_2 l0_3 a1_0 a1_1 a1_2 l1_3) else (plane_Blit.j0 k a2 a3 (decide (a3 > (wrap64 (a0_1 - a1_1)))) a0_0 a0_1 a0_2 l0_3 a1_0 a1_1 a1_2 l1_3)))) else (plane_Blit.j0 k a2 a3 true a0_0 a0_1 a0_2 l0_3 a1_0 a1_1 a1_2 l1_3))) else (plane_Blit.j0 k a2 a3 true a0_0 a0_1 a0_2 l0_3 a1_0 a1_1 a1_2 l1_3))) = some (r1, r2, r3, r4, r5) := h; clear h; have HC5 := am_ H; clear H
 go_enter Try.func14, Try.ntmps14
 go_upto_region 1 with (first | ((with_reducible refine gate_dst (N := 4) rfl ?_); refine box_event ?hg (N := 4) ?hd (cs := #[.int .i64 a0_0, .int .i64 a0_1, .int .i64 a0_2, .slice A0_3 l0_3.length c0_3]) (t := 26) ?hr ?_; (case hd => rfl); (case hg => rfl); (case hr => first | (go_simp; done) | (go_simp; rfl)); intro gb172 hg w6 hbox hb; have n0_ := am_ (below_step q153_ hb); have n1_ := am_ (hbox); have n2_ := am_ ((q123_ : w.heap.size ≤ gb172)); have n3_ := am_ ((q123_ : w.heap.size ≤ gb172)); clear HB; have HB := n0_; have BK172 := n1_; have GW172 := n2_; have GE172 := n3_; clear n0_ n1_ n2_ n3_; clear hb hbox hg) | ((with_reducible refine gate_dst (N := 5) rfl ?_); refine box_event ?hg (N := 5) ?hd (cs := #[.int .i64 a1_0, .int .i64 a1_1, .int .i64 a1_2, .slice A1_3 l1_3.length c1_3]) (t := 26) ?hr ?_; (case hd => rfl); (case hg => rfl); (case hr => first | (go_simp; done) | (go_simp; rfl)); intro gb173 hg w7 hbox hb; have n0_ := am_ (blk_below (g := gb172) (o := .cells #[.int .i64 a0_0, .int .i64 a0_1, .int .i64 a0_2, .slice A0_3 l0_3.length c0_3] 26 (0, 0)) q167_ hb); have n1_ := am_ (below_step q130_ hb); have n2_ := am_ (hbox); have n3_ := am_ ((by rw [hg]; exact (below_size q130_) : w.heap.size ≤ gb173)); have n4_ := am_ ((by rw [hg]; exact (below_size q130_) : w.heap.size ≤ gb173)); have n5_ := am_ ((by rw [hg]; exact Nat.ne_of_lt (blk_lt (g := gb172) (o := .cells #[.int .i64 a0_0, .int .i64 a0_1, .int .i64 a0_2, .slice A0_3 l0_3.length c0_3] 26 (0, 0)) q167_) : gb172 ≠ gb173)); have n6_ := am_ ((by rw [hg]; exact Nat.ne_of_gt (blk_lt (g := gb172) (o := .cells #[.int .i64 a0_0, .int .i64 a0_1, .int .i64 a0_2, .slice A0_3 l0_3.length c0_3] 26 (0, 0)) q167_) : gb173 ≠ gb172)); clear BK172 HB; have BK172 := n0_; have HB := n1_; have BK173 := n2_; have GW173 := n3_; have GE173 := n4_; have NB172_173 := n5_; have NB173_172 := n6_; clear n0_ n1_ n2_ n3_ n4_ n5_ n6_; clear hb hbox hg) | ((with_reducible refine gate_dst (N := 8) rfl ?_); refine box_event ?hg (N := 8) ?hd (cs := #[.int .i64 0, .int .i64 0, .int .i64 0, .slice none 0 0]) (t := 26) ?hr ?_; (case hd => rfl); (case hg => rfl); (case hr => first | (go_simp; done) | (go_simp; rfl)); intro gb174 hg w8 hbox hb; have n0_ := am_ (blk_below (g := gb172) (o := .cells #[.int .i64 a0_0, .int .i64 a0_1, .int .i64 a0_2, .slice A0_3 l0_3.length c0_3] 26 (0, 0)) q167_ hb); have n1_ := am_ (blk_below (g := gb173) (o := .cells #[.int .i64 a1_0, .int .i64 a1_1, .int .i64 a1_2, .slice A1_3 l1_3.length c1_3] 26 (0, 0)) q168_ hb); have n2_ := am_ (below_step q101_ hb); have n3_ := am_ (hbox); have n4_ := am_ ((by rw [hg]; exact (below_size q101_) : w.heap.size ≤ gb174)); have n5_ := am_ ((by rw [hg]; exact (below_size q101_) : w.heap.size ≤ gb174)); have n6_ := am_ ((by rw [hg]; exact Nat.ne_of_lt (blk_lt (g := gb172) (o := .cells #[.int .i64 a0_0, .int .i64 a0_1, .int .i64 a0_2, .slice A0_3 l0_3.length c0_3] 26 (0, 0)) q167_) : gb172 ≠ gb174)); have n7_ := am_ ((by rw [hg]; exact Nat.ne_of_gt (blk_lt (g := gb172) (o := .cells #[.int .i64 a0_0, .int .i64 a0_1, .int .i64 a0_2, .slice A0_3 l0_3.length c0_3] 26 (0, 0)) q167_) : gb174 ≠ gb172)); have n8_ := am_ ((by rw [hg]; exact Nat.ne_of_lt (blk_lt (g := gb173) (o := .cells #[.int .i64 a1_0, .int .i64 a1_1, .int .i64 a1_2, .slice A1_3 l1_3.length c1_3] 26 (0, 0)) q168_) : gb173 ≠ gb174)); have n9_ := am_ ((by rw [hg]; exact Nat.ne_of_gt (blk_lt (g := gb173) (o := .cells #[.int .i64 a1_0, .int .i64 a1_1, .int .i64 a1_2, .slice A1_3 l1_3.length c1_3] 26 (0, 0)) q168_) : gb174 ≠ gb173)); clear BK172 BK173 HB; have BK172 := n0_; have BK173 := n1_; have HB := n2_; have BK174 := n3_; have GW174 := n4_; have GE174 := n5_; have NB172_174 := n6_; have NB174_172 := n7_; have NB173_174 := n8_; have NB174_173 := n9_; clear n0_ n1_ n2_ n3_ n4_ n5_ n6_ n7_ n8_ n9_; clear hb hbox hg))
 (try simp only [Act.put, la_, lz_, ls_])
 go_cut [44] (fun v44 wc => ∃ (kq : Nat) (x44_4 : Bool), v44 = .bool x44_4 ∧ Aside0 (plane_Blit.j0 kq a2 a3 x44_4 a0_0 a0_1 a0_2 l0_3 a1_0 a1_1 a1_2 l1_3 = some (r1, r2, r3, r4, r5)) ∧ Aside0 (kq ≤ k) ∧ Aside0 (wc.heap[gb172]? = some (.cells #[.int .i64 a0_0, .int .i64 a0_1, .int .i64 a0_2, (.slice A0_3 l0_3.length c0_3)] 26 (0, 0))) ∧ Aside0 (wc.heap[gb173]? = some (.cells #[.int .i64 a1_0, .int .i64 a1_1, .int .i64 a1_2, (.slice A1_3 l1_3.length c1_3)] 26 (0, 0))) ∧ Aside0 (wc.heap[gb174]? = some (.cells #[.int .i64 0, .int .i64 0, .int .i64 0, (.slice none 0 0)] 26 (0, 0))) ∧ Aside0 (Below w.heap.size w wc))
 case first =>
  have H := HC5.out; clear HC5; replace H := Option.bind_eq_some_iff.mp H; obtain ⟨t175, A90, H⟩ := H; replace H : (if t175 = true then ((plane_Valid.f k a1_0 a1_1 a1_2 l1_3).bind fun t176 => (if t176 = true then (if a2 < 0 then (plane_Blit.j0 k a2 a3 true a0_0 a0_1 a0_2 l0_3 a1_0 a1_1 a1_2 l1_3) else (if a3 < 0 then (plane_Blit.j0 k a2 a3 true a0_0 a0_1 a0_2 l0_3 a1_0 a1_1 a1_2 l1_3) else (if a2 > (wrap64 (a0_0 - a1_0)) then (plane_Blit.j0 k a2 a3 true a0_0 a0_1 a0_2 l0_3 a1_0 a1_1 a1_2 l1_3) else (plane_Blit.j0 k a2 a3 (decide (a3 > (wrap64 (a0_1 - a1_1)))) a0_0 a0_1 a0_2 l0_3 a1_0 a1_1 a1_2 l1_3)))) else (plane_Blit.j0 k a2 a3 true a0_0 a0_1 a0_2 l0_3 a1_0 a1_1 a1_2 l1_3))) else (plane_Blit.j0 k a2 a3 true a0_0 a0_1 a0_2 l0_3 a1_0 a1_1 a1_2 l1_3)) = some (r1, r2, r3, r4, r5) := H; have A9 := am_ A90; clear A90
  by_cases c10 : t175 = true
  ·subst c10
   have H1 : ((plane_Valid.f k a1_0 a1_1 a1_2 l1_3).bind fun t176 => (if t176 = true then (if a2 < 0 then (plane_Blit.j0 k a2 a3 true a0_0 a0_1 a0_2 l0_3 a1_0 a1_1 a1_2 l1_3) else (if a3 < 0 then (plane_Blit.j0 k a2 a3 true a0_0 a0_1 a0_2 l0_3 a1_0 a1_1 a1_2 l1_3) else (if a2 > (wrap64 (a0_0 - a1_0)) then (plane_Blit.j0 k a2 a3 true a0_0 a0_1 a0_2 l0_3 a1_0 a1_1 a1_2 l1_3) else (plane_Blit.j0 k a2 a3 (decide (a3 > (wrap64 (a0_1 - a1_1)))) a0_0 a0_1 a0_2 l0_3 a1_0 a1_1 a1_2 l1_3)))) else (plane_Blit.j0 k a2 a3 true a0_0 a0_1 a0_2 l0_3 a1_0 a1_1 a1_2 l1_3))) = some (r1, r2, r3, r4, r5) := by rw [if_pos rfl] at H; exact H
   clear H; have H := H1; clear H1; replace H := Option.bind_eq_some_iff.mp H; obtain ⟨t176, A110, H⟩ := H; replace H : (if t176 = true then (if a2 < 0 then (plane_Blit.j0 k a2 a3 true a0_0 a0_1 a0_2 l0_3 a1_0 a1_1 a1_2 l1_3) else (if a3 < 0 then (plane_Blit.j0 k a2 a3 true a0_0 a0_1 a0_2 l0_3 a1_0 a1_1 a1_2 l1_3) else (if a2 > (wrap64 (a0_0 - a1_0)) then (plane_Blit.j0 k a2 a3 true a0_0 a0_1 a0_2 l0_3 a1_0 a1_1 a1_2 l1_3) else (plane_Blit.j0 k a2 a3 (decide (a3 > (wrap64 (a0_1 - a1_1)))) a0_0 a0_1 a0_2 l0_3 a1_0 a1_1 a1_2 l1_3)))) else (plane_Blit.j0 k a2 a3 true a0_0 a0_1 a0_2 l0_3 a1_0 a1_1 a1_2 l1_3)) = some (r1, r2, r3, r4, r5) := H; have A11 := am_ A110; clear A110
   by_cases c12 : t176 = true
   ·subst c12
    have H1 : (if a2 < 0 then (plane_Blit.j0 k a2 a3 true a0_0 a0_1 a0_2 l0_3 a1_0 a1_1 a1_2 l1_3) else (if a3 < 0 then (plane_Blit.j0 k a2 a3 true a0_0 a0_1 a0_2 l0_3 a1_0 a1_1 a1_2 l1_3) else (if a2 > (wrap64 (a0_0 - a1_0)) then (plane_Blit.j0 k a2 a3 true a0_0 a0_1 a0_2 l0_3 a1_0 a1_1 a1_2 l1_3) else (plane_Blit.j0 k a2 a3 (decide (a3 > (wrap64 (a0_1 - a1_1)))) a0_0 a0_1 a0_2 l0_3 a1_0 a1_1 a1_2 l1_3)))) = some (r1, r2, r3, r4, r5) := by rw [if_pos rfl] at H; exact H
    clear H; have H := H1; clear H1
    by_cases c13 : a2 < 0
    ·rw [if_pos c13] at H
     have c13b0 : decide (a2 < 0) = true := decide_eq_true c13; clear c13; (first | rw [c13b0] | (simp only [i64_w, i32_w]; rw [c13b0]) | skip); have H' := am_ H; clear H; have hnb14 := NB172_173.out; have hnc14 := NB173_172.out; have hnb15 := NB172_174.out; have hnc15 := NB174_172.out; have hcz16_0 := bc0_ BK172.out; have hcz16_1 := bc1_ BK172.out; have hcz16_2 := bc2_ BK172.out; have hcz16_3 := bc3_ BK172.out; have hfz16_0 := blk_frozen BK172.out 0; have hfz16_1 := blk_frozen BK172.out 1; have hfz16_2 := blk_frozen BK172.out 2; have hfz16_3 := blk_frozen BK172.out 3
     go_wp2_with (first | ((with_reducible refine gate_callee (f := 17) rfl ?_); refine goesL_ (some 12) rfl rfl Try.func17 (by kernel_rfl) rfl #[.agg #[.int .i64 a0_0, .int .i64 a0_1, .int .i64 a0_2, .slice A0_3 l0_3.length c0_3]] rfl q150_ ?_; (with_reducible refine (plane_Valid.calls k a0_0 a0_1 a0_2 _ _ l0_3 true _ ?side1 ?side2 A9.out).mono ?_); (case side1 => repeat (first | exact (Kd.C_below HR0_3.out HB.out) | (with_reducible refine Kd.C_alloc ?_ _) | (with_reducible refine Kd.C_drewN ?_ _) | (with_reducible refine Kd.C_drew ?_))); (case side2 => exact HC0_3.out); rintro e w17 ⟨rfl, hb⟩; refine ⟨_, rfl, ?_⟩; have n0_ := am_ (blk_below (g := gb172) (o := .cells #[.int .i64 a0_0, .int .i64 a0_1, .int .i64 a0_2, .slice A0_3 l0_3.length c0_3] 26 (0, 0)) q167_ hb); have n1_ := am_ (blk_below (g := gb173) (o := .cells #[.int .i64 a1_0, .int .i64 a1_1, .int .i64 a1_2, .slice A1_3 l1_3.length c1_3] 26 (0, 0)) q168_ hb); have n2_ := am_ (blk_below (g := gb174) (o := .cells #[.int .i64 0, .int .i64 0, .int .i64 0, .slice none 0 0] 26 (0, 0)) q169_ hb); have n3_ := am_ (below_step q76_ hb); clear BK172 BK173 BK174 HB; have BK172 := n0_; have BK173 := n1_; have BK174 := n2_; have HB := n3_; clear n0_ n1_ n2_ n3_; (try clear hb); (try clear hb2); (try clear hk); (try clear hi); have hnb18 := NB173_174.out; have hnc18 := NB174_173.out; have hcz19_0 := bc0_ BK173.out; have hcz19_1 := bc1_ BK173.out; have hcz19_2 := bc2_ BK173.out; have hcz19_3 := bc3_ BK173.out; have hfz19_0 := blk_frozen BK173.out 0; have hfz19_1 := blk_frozen BK173.out 1; have hfz19_2 := blk_frozen BK173.out 2; have hfz19_3 := blk_frozen BK173.out 3) | (go_at_call 17; (with_reducible refine (plane_Valid.calls k a1_0 a1_1 a1_2 _ _ l1_3 true _ ?side1 ?side2 A11.out).mono ?_); (case side1 => repeat (first | exact (Kd.C_below HR1_3.out HB.out) | (with_reducible refine Kd.C_alloc ?_ _) | (with_reducible refine Kd.C_drewN ?_ _) | (with_reducible refine Kd.C_drew ?_))); (case side2 => exact HC1_3.out); rintro e w20 ⟨rfl, hb⟩; have n0_ := am_ (blk_below (g := gb172) (o := .cells #[.int .i64 a0_0, .int .i64 a0_1, .int .i64 a0_2, .slice A0_3 l0_3.length c0_3] 26 (0, 0)) q167_ hb); have n1_ := am_ (blk_below (g := gb173) (o := .cells #[.int .i64 a1_0, .int .i64 a1_1, .int .i64 a1_2, .slice A1_3 l1_3.length c1_3] 26 (0, 0)) q168_ hb); have n2_ := am_ (blk_below (g := gb174) (o := .cells #[.int .i64 0, .int .i64 0, .int .i64 0, .slice none 0 0] 26 (0, 0)) q169_ hb); have n3_ := am_ (below_step q76_ hb); clear BK172 BK173 BK174 HB; have BK172 := n0_; have BK173 := n1_; have BK174 := n2_; have HB := n3_; clear n0_ n1_ n2_ n3_; (try clear hb); (try clear hb2); (try clear hk); (try clear hi)))
     go_meet
     case rel => exact ⟨_, (true), q227_, H', ⟨by first | omega | exact Nat.le_refl _⟩, ⟨q167_⟩, ⟨q168_⟩, ⟨q169_⟩, ⟨q76_⟩⟩
    ·rw [if_neg c13] at H
     have c13b0 : decide (a2 < 0) = false := decide_eq_false c13; clear c13; (first | rw [c13b0] | (simp only [i64_w, i32_w]; rw [c13b0]) | skip)
     by_cases c21 : a3 < 0
     ·rw [if_pos c21] at H
      have c21b0 : decide (a3 < 0) = true := decide_eq_true c21; clear c21; have H' := am_ H; clear H; have hnb22 := NB172_173.out; have hnc22 := NB173_172.out; have hnb23 := NB172_174.out; have hnc23 := NB174_172.out; have hcz24_0 := bc0_ BK172.out; have hcz24_1 := bc1_ BK172.out; have hcz24_2 := bc2_ BK172.out; have hcz24_3 := bc3_ BK172.out; have hfz24_0 := blk_frozen BK172.out 0; have hfz24_1 := blk_frozen BK172.out 1; have hfz24_2 := blk_frozen BK172.out 2; have hfz24_3 := blk_frozen BK172.out 3
      go_wp2_with (first | ((with_reducible refine gate_callee (f := 17) rfl ?_); refine goesL_ (some 12) rfl rfl Try.func17 (by kernel_rfl) rfl #[.agg #[.int .i64 a0_0, .int .i64 a0_1, .int .i64 a0_2, .slice A0_3 l0_3.length c0_3]] rfl q150_ ?_; (with_reducible refine (plane_Valid.calls k a0_0 a0_1 a0_2 _ _ l0_3 true _ ?side1 ?side2 A9.out).mono ?_); (case side1 => repeat (first | exact (Kd.C_below HR0_3.out HB.out) | (with_reducible refine Kd.C_alloc ?_ _) | (with_reducible refine Kd.C_drewN ?_ _) | (with_reducible refine Kd.C_drew ?_))); (case side2 => exact HC0_3.out); rintro e w25 ⟨rfl, hb⟩; refine ⟨_, rfl, ?_⟩; have n0_ := am_ (blk_below (g := gb172) (o := .cells #[.int .i64 a0_0, .int .i64 a0_1, .int .i64 a0_2, .slice A0_3 l0_3.length c0_3] 26 (0, 0)) q167_ hb); have n1_ := am_ (blk_below (g := gb173) (o := .cells #[.int .i64 a1_0, .int .i64 a1_1, .int .i64 a1_2, .slice A1_3 l1_3.length c1_3] 26 (0, 0)) q168_ hb); have n2_ := am_ (blk_below (g := gb174) (o := .cells #[.int .i64 0, .int .i64 0, .int .i64 0, .slice none 0 0] 26 (0, 0)) q169_ hb); have n3_ := am_ (below_step q76_ hb); clear BK172 BK173 BK174 HB; have BK172 := n0_; have BK173 := n1_; have BK174 := n2_; have HB := n3_; clear n0_ n1_ n2_ n3_; (try clear hb); (try clear hb2); (try clear hk); (try clear hi); have hnb26 := NB173_174.out; have hnc26 := NB174_173.out; have hcz27_0 := bc0_ BK173.out; have hcz27_1 := bc1_ BK173.out; have hcz27_2 := bc2_ BK173.out; have hcz27_3 := bc3_ BK173.out; have hfz27_0 := blk_frozen BK173.out 0; have hfz27_1 := blk_frozen BK173.out 1; have hfz27_2 := blk_frozen BK173.out 2; have hfz27_3 := blk_frozen BK173.out 3) | (go_at_call 17; (with_reducible refine (plane_Valid.calls k a1_0 a1_1 a1_2 _ _ l1_3 true _ ?side1 ?side2 A11.out).mono ?_); (case side1 => repeat (first | exact (Kd.C_below HR1_3.out HB.out) | (with_reducible refine Kd.C_alloc ?_ _) | (with_reducible refine Kd.C_drewN ?_ _) | (with_reducible refine Kd.C_drew ?_))); (case side2 => exact HC1_3.out); rintro e w28 ⟨rfl, hb⟩; have n0_ := am_ (blk_below (g := gb172) (o := .cells #[.int .i64 a0_0, .int .i64 a0_1, .int .i64 a0_2, .slice A0_3 l0_3.length c0_3] 26 (0, 0)) q167_ hb); have n1_ := am_ (blk_below (g := gb173) (o := .cells #[.int .i64 a1_0, .int .i64 a1_1, .int .i64 a1_2, .slice A1_3 l1_3.length c1_3] 26 (0, 0)) q168_ hb); have n2_ := am_ (blk_below (g := gb174) (o := .cells #[.int .i64 0, .int .i64 0, .int .i64 0, .slice none 0 0] 26 (0, 0)) q169_ hb); have n3_ := am_ (below_step q76_ hb); clear BK172 BK173 BK174 HB; have BK172 := n0_; have BK173 := n1_; have BK174 := n2_; have HB := n3_; clear n0_ n1_ n2_ n3_; (try clear hb); (try clear hb2); (try clear hk); (try clear hi)))
      go_meet
      case rel => exact ⟨_, (true), q227_, H', ⟨by first | omega | exact Nat.le_refl _⟩, ⟨q167_⟩, ⟨q168_⟩, ⟨q169_⟩, ⟨q76_⟩⟩
     ·rw [if_neg c21] at H
      have c21b0 : decide (a3 < 0) = false := decide_eq_false c21; clear c21
      by_cases c29 : a2 > (wrap64 (a0_0 - a1_0))
      ·rw [if_pos c29] at H
       have c29b0 : decide ((wrap64 (a0_0 - a1_0)) < a2) = true := decide_eq_true c29; clear c29; have H' := am_ H; clear H; have hnb30 := NB172_173.out; have hnc30 := NB173_172.out; have hnb31 := NB172_174.out; have hnc31 := NB174_172.out; have hcz32_0 := bc0_ BK172.out; have hcz32_1 := bc1_ BK172.out; have hcz32_2 := bc2_ BK172.out; have hcz32_3 := bc3_ BK172.out; have hfz32_0 := blk_frozen BK172.out 0; have hfz32_1 := blk_frozen BK172.out 1; have hfz32_2 := blk_frozen BK172.out 2; have hfz32_3 := blk_frozen BK172.out 3
       go_wp2_with (first | ((with_reducible refine gate_callee (f := 17) rfl ?_); refine goesL_ (some 12) rfl rfl Try.func17 (by kernel_rfl) rfl #[.agg #[.int .i64 a0_0, .int .i64 a0_1, .int .i64 a0_2, .slice A0_3 l0_3.length c0_3]] rfl q150_ ?_; (with_reducible refine (plane_Valid.calls k a0_0 a0_1 a0_2 _ _ l0_3 true _ ?side1 ?side2 A9.out).mono ?_); (case side1 => repeat (first | exact (Kd.C_below HR0_3.out HB.out) | (with_reducible refine Kd.C_alloc ?_ _) | (with_reducible refine Kd.C_drewN ?_ _) | (with_reducible refine Kd.C_drew ?_))); (case side2 => exact HC0_3.out); rintro e w33 ⟨rfl, hb⟩; refine ⟨_, rfl, ?_⟩; have n0_ := am_ (blk_below (g := gb172) (o := .cells #[.int .i64 a0_0, .int .i64 a0_1, .int .i64 a0_2, .slice A0_3 l0_3.length c0_3] 26 (0, 0)) q167_ hb); have n1_ := am_ (blk_below (g := gb173) (o := .cells #[.int .i64 a1_0, .int .i64 a1_1, .int .i64 a1_2, .slice A1_3 l1_3.length c1_3] 26 (0, 0)) q168_ hb); have n2_ := am_ (blk_below (g := gb174) (o := .cells #[.int .i64 0, .int .i64 0, .int .i64 0, .slice none 0 0] 26 (0, 0)) q169_ hb); have n3_ := am_ (below_step q76_ hb); clear BK172 BK173 BK174 HB; have BK172 := n0_; have BK173 := n1_; have BK174 := n2_; have HB := n3_; clear n0_ n1_ n2_ n3_; (try clear hb); (try clear hb2); (try clear hk); (try clear hi); have hnb34 := NB173_174.out; have hnc34 := NB174_173.out; have hcz35_0 := bc0_ BK173.out; have hcz35_1 := bc1_ BK173.out; have hcz35_2 := bc2_ BK173.out; have hcz35_3 := bc3_ BK173.out; have hfz35_0 := blk_frozen BK173.out 0; have hfz35_1 := blk_frozen BK173.out 1; have hfz35_2 := blk_frozen BK173.out 2; have hfz35_3 := blk_frozen BK173.out 3) | (go_at_call 17; (with_reducible refine (plane_Valid.calls k a1_0 a1_1 a1_2 _ _ l1_3 true _ ?side1 ?side2 A11.out).mono ?_); (case side1 => repeat (first | exact (Kd.C_below HR1_3.out HB.out) | (with_reducible refine Kd.C_alloc ?_ _) | (with_reducible refine Kd.C_drewN ?_ _) | (with_reducible refine Kd.C_drew ?_))); (case side2 => exact HC1_3.out); rintro e w36 ⟨rfl, hb⟩; have n0_ := am_ (blk_below (g := gb172) (o := .cells #[.int .i64 a0_0, .int .i64 a0_1, .int .i64 a0_2, .slice A0_3 l0_3.length c0_3] 26 (0, 0)) q167_ hb); have n1_ := am_ (blk_below (g := gb173) (o := .cells #[.int .i64 a1_0, .int .i64 a1_1, .int .i64 a1_2, .slice A1_3 l1_3.length c1_3] 26 (0, 0)) q168_ hb); have n2_ := am_ (blk_below (g := gb174) (o := .cells #[.int .i64 0, .int .i64 0, .int .i64 0, .slice none 0 0] 26 (0, 0)) q169_ hb); have n3_ := am_ (below_step q76_ hb); clear BK172 BK173 BK174 HB; have BK172 := n0_; have BK173 := n1_; have BK174 := n2_; have HB := n3_; clear n0_ n1_ n2_ n3_; (try clear hb); (try clear hb2); (try clear hk); (try clear hi); have hcz37_0 := bc0_ BK172.out; have hcz37_1 := bc1_ BK172.out; have hcz37_2 := bc2_ BK172.out; have hcz37_3 := bc3_ BK172.out; have hfz37_0 := blk_frozen BK172.out 0; have hfz37_1 := blk_frozen BK172.out 1; have hfz37_2 := blk_frozen BK172.out 2; have hfz37_3 := blk_frozen BK172.out 3; have hcz38_0 := bc0_ BK173.out; have hcz38_1 := bc1_ BK173.out; have hcz38_2 := bc2_ BK173.out; have hcz38_3 := bc3_ BK173.out; have hfz38_0 := blk_frozen BK173.out 0; have hfz38_1 := blk_frozen BK173.out 1; have hfz38_2 := blk_frozen BK173.out 2; have hfz38_3 := blk_frozen BK173.out 3))
       go_meet
       case rel => exact ⟨_, (true), q227_, H', ⟨by first | omega | exact Nat.le_refl _⟩, ⟨q167_⟩, ⟨q168_⟩, ⟨q169_⟩, ⟨q76_⟩⟩
      ·rw [if_neg c29] at H
       have c29b0 : decide ((wrap64 (a0_0 - a1_0)) < a2) = false := decide_eq_false c29; clear c29; have H' := am_ H; clear H; have hnb39 := NB172_173.out; have hnc39 := NB173_172.out; have hnb40 := NB172_174.out; have hnc40 := NB174_172.out; have hcz41_0 := bc0_ BK172.out; have hcz41_1 := bc1_ BK172.out; have hcz41_2 := bc2_ BK172.out; have hcz41_3 := bc3_ BK172.out; have hfz41_0 := blk_frozen BK172.out 0; have hfz41_1 := blk_frozen BK172.out 1; have hfz41_2 := blk_frozen BK172.out 2; have hfz41_3 := blk_frozen BK172.out 3
       go_wp2_with (first | ((with_reducible refine gate_callee (f := 17) rfl ?_); refine goesL_ (some 12) rfl rfl Try.func17 (by kernel_rfl) rfl #[.agg #[.int .i64 a0_0, .int .i64 a0_1, .int .i64 a0_2, .slice A0_3 l0_3.length c0_3]] rfl q150_ ?_; (with_reducible refine (plane_Valid.calls k a0_0 a0_1 a0_2 _ _ l0_3 true _ ?side1 ?side2 A9.out).mono ?_); (case side1 => repeat (first | exact (Kd.C_below HR0_3.out HB.out) | (with_reducible refine Kd.C_alloc ?_ _) | (with_reducible refine Kd.C_drewN ?_ _) | (with_reducible refine Kd.C_drew ?_))); (case side2 => exact HC0_3.out); rintro e w42 ⟨rfl, hb⟩; refine ⟨_, rfl, ?_⟩; have n0_ := am_ (blk_below (g := gb172) (o := .cells #[.int .i64 a0_0, .int .i64 a0_1, .int .i64 a0_2, .slice A0_3 l0_3.length c0_3] 26 (0, 0)) q167_ hb); have n1_ := am_ (blk_below (g := gb173) (o := .cells #[.int .i64 a1_0, .int .i64 a1_1, .int .i64 a1_2, .slice A1_3 l1_3.length c1_3] 26 (0, 0)) q168_ hb); have n2_ := am_ (blk_below (g := gb174) (o := .cells #[.int .i64 0, .int .i64 0, .int .i64 0, .slice none 0 0] 26 (0, 0)) q169_ hb); have n3_ := am_ (below_step q76_ hb); clear BK172 BK173 BK174 HB; have BK172 := n0_; have BK173 := n1_; have BK174 := n2_; have HB := n3_; clear n0_ n1_ n2_ n3_; (try clear hb); (try clear hb2); (try clear hk); (try clear hi); have hnb43 := NB173_174.out; have hnc43 := NB174_173.out; have hcz44_0 := bc0_ BK173.out; have hcz44_1 := bc1_ BK173.out; have hcz44_2 := bc2_ BK173.out; have hcz44_3 := bc3_ BK173.out; have hfz44_0 := blk_frozen BK173.out 0; have hfz44_1 := blk_frozen BK173.out 1; have hfz44_2 := blk_frozen BK173.out 2; have hfz44_3 := blk_frozen BK173.out 3) | (go_at_call 17; (with_reducible refine (plane_Valid.calls k a1_0 a1_1 a1_2 _ _ l1_3 true _ ?side1 ?side2 A11.out).mono ?_); (case side1 => repeat (first | exact (Kd.C_below HR1_3.out HB.out) | (with_reducible refine Kd.C_alloc ?_ _) | (with_reducible refine Kd.C_drewN ?_ _) | (with_reducible refine Kd.C_drew ?_))); (case side2 => exact HC1_3.out); rintro e w45 ⟨rfl, hb⟩; have n0_ := am_ (blk_below (g := gb172) (o := .cells #[.int .i64 a0_0, .int .i64 a0_1, .int .i64 a0_2, .slice A0_3 l0_3.length c0_3] 26 (0, 0)) q167_ hb); have n1_ := am_ (blk_below (g := gb173) (o := .cells #[.int .i64 a1_0, .int .i64 a1_1, .int .i64 a1_2, .slice A1_3 l1_3.length c1_3] 26 (0, 0)) q168_ hb); have n2_ := am_ (blk_below (g := gb174) (o := .cells #[.int .i64 0, .int .i64 0, .int .i64 0, .slice none 0 0] 26 (0, 0)) q169_ hb); have n3_ := am_ (below_step q76_ hb); clear BK172 BK173 BK174 HB; have BK172 := n0_; have BK173 := n1_; have BK174 := n2_; have HB := n3_; clear n0_ n1_ n2_ n3_; (try clear hb); (try clear hb2); (try clear hk); (try clear hi); have hcz46_0 := bc0_ BK172.out; have hcz46_1 := bc1_ BK172.out; have hcz46_2 := bc2_ BK172.out; have hcz46_3 := bc3_ BK172.out; have hfz46_0 := blk_frozen BK172.out 0; have hfz46_1 := blk_frozen BK172.out 1; have hfz46_2 := blk_frozen BK172.out 2; have hfz46_3 := blk_frozen BK172.out 3; have hcz47_0 := bc0_ BK173.out; have hcz47_1 := bc1_ BK173.out; have hcz47_2 := bc2_ BK173.out; have hcz47_3 := bc3_ BK173.out; have hfz47_0 := blk_frozen BK173.out 0; have hfz47_1 := blk_frozen BK173.out 1; have hfz47_2 := blk_frozen BK173.out 2; have hfz47_3 := blk_frozen BK173.out 3))
       go_meet
       case rel => exact ⟨_, (decide (a3 > (wrap64 (a0_1 - a1_1)))), q227_, H', ⟨by first | omega | exact Nat.le_refl _⟩, ⟨q167_⟩, ⟨q168_⟩, ⟨q169_⟩, ⟨q76_⟩⟩
   ·replace c12 := Bool.eq_false_iff.mpr c12
    subst c12; have H1 : (plane_Blit.j0 k a2 a3 true a0_0 a0_1 a0_2 l0_3 a1_0 a1_1 a1_2 l1_3) = some (r1, r2, r3, r4, r5) := by rw [if_neg (show ¬ (false = true) by decide)] at H; exact H
    clear H; have H := H1; clear H1; have H' := am_ H; clear H; have hnb48 := NB172_173.out; have hnc48 := NB173_172.out; have hnb49 := NB172_174.out; have hnc49 := NB174_172.out; have hcz50_0 := bc0_ BK172.out; have hcz50_1 := bc1_ BK172.out; have hcz50_2 := bc2_ BK172.out; have hcz50_3 := bc3_ BK172.out; have hfz50_0 := blk_frozen BK172.out 0; have hfz50_1 := blk_frozen BK172.out 1; have hfz50_2 := blk_frozen BK172.out 2; have hfz50_3 := blk_frozen BK172.out 3
    go_wp2_with (first | ((with_reducible refine gate_callee (f := 17) rfl ?_); refine goesL_ (some 12) rfl rfl Try.func17 (by kernel_rfl) rfl #[.agg #[.int .i64 a0_0, .int .i64 a0_1, .int .i64 a0_2, .slice A0_3 l0_3.length c0_3]] rfl q150_ ?_; (with_reducible refine (plane_Valid.calls k a0_0 a0_1 a0_2 _ _ l0_3 true _ ?side1 ?side2 A9.out).mono ?_); (case side1 => repeat (first | exact (Kd.C_below HR0_3.out HB.out) | (with_reducible refine Kd.C_alloc ?_ _) | (with_reducible refine Kd.C_drewN ?_ _) | (with_reducible refine Kd.C_drew ?_))); (case side2 => exact HC0_3.out); rintro e w51 ⟨rfl, hb⟩; refine ⟨_, rfl, ?_⟩; have n0_ := am_ (blk_below (g := gb172) (o := .cells #[.int .i64 a0_0, .int .i64 a0_1, .int .i64 a0_2, .slice A0_3 l0_3.length c0_3] 26 (0, 0)) q167_ hb); have n1_ := am_ (blk_below (g := gb173) (o := .cells #[.int .i64 a1_0, .int .i64 a1_1, .int .i64 a1_2, .slice A1_3 l1_3.length c1_3] 26 (0, 0)) q168_ hb); have n2_ := am_ (blk_below (g := gb174) (o := .cells #[.int .i64 0, .int .i64 0, .int .i64 0, .slice none 0 0] 26 (0, 0)) q169_ hb); have n3_ := am_ (below_step q76_ hb); clear BK172 BK173 BK174 HB; have BK172 := n0_; have BK173 := n1_; have BK174 := n2_; have HB := n3_; clear n0_ n1_ n2_ n3_; (try clear hb); (try clear hb2); (try clear hk); (try clear hi); have hnb52 := NB173_174.out; have hnc52 := NB174_173.out; have hcz53_0 := bc0_ BK173.out; have hcz53_1 := bc1_ BK173.out; have hcz53_2 := bc2_ BK173.out; have hcz53_3 := bc3_ BK173.out; have hfz53_0 := blk_frozen BK173.out 0; have hfz53_1 := blk_frozen BK173.out 1; have hfz53_2 := blk_frozen BK173.out 2; have hfz53_3 := blk_frozen BK173.out 3) | (go_at_call 17; (with_reducible refine (plane_Valid.calls k a1_0 a1_1 a1_2 _ _ l1_3 false _ ?side1 ?side2 A11.out).mono ?_); (case side1 => repeat (first | exact (Kd.C_below HR1_3.out HB.out) | (with_reducible refine Kd.C_alloc ?_ _) | (with_reducible refine Kd.C_drewN ?_ _) | (with_reducible refine Kd.C_drew ?_))); (case side2 => exact HC1_3.out); rintro e w54 ⟨rfl, hb⟩; have n0_ := am_ (blk_below (g := gb172) (o := .cells #[.int .i64 a0_0, .int .i64 a0_1, .int .i64 a0_2, .slice A0_3 l0_3.length c0_3] 26 (0, 0)) q167_ hb); have n1_ := am_ (blk_below (g := gb173) (o := .cells #[.int .i64 a1_0, .int .i64 a1_1, .int .i64 a1_2, .slice A1_3 l1_3.length c1_3] 26 (0, 0)) q168_ hb); have n2_ := am_ (blk_below (g := gb174) (o := .cells #[.int .i64 0, .int .i64 0, .int .i64 0, .slice none 0 0] 26 (0, 0)) q169_ hb); have n3_ := am_ (below_step q76_ hb); clear BK172 BK173 BK174 HB; have BK172 := n0_; have BK173 := n1_; have BK174 := n2_; have HB := n3_; clear n0_ n1_ n2_ n3_; (try clear hb); (try clear hb2); (try clear hk); (try clear hi)))
    go_meet
    case rel => exact ⟨_, (true), q227_, H', ⟨by first | omega | exact Nat.le_refl _⟩, ⟨q167_⟩, ⟨q168_⟩, ⟨q169_⟩, ⟨q76_⟩⟩
  ·replace c10 := Bool.eq_false_iff.mpr c10
   subst c10; have H1 : (plane_Blit.j0 k a2 a3 true a0_0 a0_1 a0_2 l0_3 a1_0 a1_1 a1_2 l1_3) = some (r1, r2, r3, r4, r5) := by rw [if_neg (show ¬ (false = true) by decide)] at H; exact H
   clear H; have H := H1; clear H1; have H' := am_ H; clear H; have hnb55 := NB172_173.out; have hnc55 := NB173_172.out; have hnb56 := NB172_174.out; have hnc56 := NB174_172.out; have hcz57_0 := bc0_ BK172.out; have hcz57_1 := bc1_ BK172.out; have hcz57_2 := bc2_ BK172.out; have hcz57_3 := bc3_ BK172.out; have hfz57_0 := blk_frozen BK172.out 0; have hfz57_1 := blk_frozen BK172.out 1; have hfz57_2 := blk_frozen BK172.out 2; have hfz57_3 := blk_frozen BK172.out 3
   go_wp2_with (first | ((with_reducible refine gate_callee (f := 17) rfl ?_); refine goesL_ (some 12) rfl rfl Try.func17 (by kernel_rfl) rfl #[.agg #[.int .i64 a0_0, .int .i64 a0_1, .int .i64 a0_2, .slice A0_3 l0_3.length c0_3]] rfl q150_ ?_; (with_reducible refine (plane_Valid.calls k a0_0 a0_1 a0_2 _ _ l0_3 false _ ?side1 ?side2 A9.out).mono ?_); (case side1 => repeat (first | exact (Kd.C_below HR0_3.out HB.out) | (with_reducible refine Kd.C_alloc ?_ _) | (with_reducible refine Kd.C_drewN ?_ _) | (with_reducible refine Kd.C_drew ?_))); (case side2 => exact HC0_3.out); rintro e w58 ⟨rfl, hb⟩; refine ⟨_, rfl, ?_⟩; have n0_ := am_ (blk_below (g := gb172) (o := .cells #[.int .i64 a0_0, .int .i64 a0_1, .int .i64 a0_2, .slice A0_3 l0_3.length c0_3] 26 (0, 0)) q167_ hb); have n1_ := am_ (blk_below (g := gb173) (o := .cells #[.int .i64 a1_0, .int .i64 a1_1, .int .i64 a1_2, .slice A1_3 l1_3.length c1_3] 26 (0, 0)) q168_ hb); have n2_ := am_ (blk_below (g := gb174) (o := .cells #[.int .i64 0, .int .i64 0, .int .i64 0, .slice none 0 0] 26 (0, 0)) q169_ hb); have n3_ := am_ (below_step q76_ hb); clear BK172 BK173 BK174 HB; have BK172 := n0_; have BK173 := n1_; have BK174 := n2_; have HB := n3_; clear n0_ n1_ n2_ n3_; (try clear hb); (try clear hb2); (try clear hk); (try clear hi)))
   go_meet
   case rel => exact ⟨_, (true), q227_, H', ⟨by first | omega | exact Nat.le_refl _⟩, ⟨q167_⟩, ⟨q168_⟩, ⟨q169_⟩, ⟨q76_⟩⟩
 case rest =>
  clear HC5; (try clear c1); (try clear c2); (try clear p2); (try clear c3); (try clear c4); (try clear c5); (try clear p6); (try clear c10); (try clear c12); (try clear c13); (try clear c13b0); (try clear c14); (try clear c15); (try clear c17); (try clear c18); (try clear c21); (try clear c21b0); (try clear c22); (try clear c23); (try clear c26); (try clear c29); (try clear c29b0); (try clear c30); (try clear c31); (try clear c34); (try clear c39); (try clear c40); (try clear c43); (try clear c48); (try clear c49); (try clear c52); (try clear c55); (try clear c56); (try clear hcz16_0 hcz16_1 hcz16_2 hcz16_3); (try clear hcz19_0 hcz19_1 hcz19_2 hcz19_3); (try clear hcz24_0 hcz24_1 hcz24_2 hcz24_3); (try clear hcz27_0 hcz27_1 hcz27_2 hcz27_3); (try clear hcz32_0 hcz32_1 hcz32_2 hcz32_3); (try clear hcz35_0 hcz35_1 hcz35_2 hcz35_3); (try clear hcz37_0 hcz37_1 hcz37_2 hcz37_3); (try clear hcz38_0 hcz38_1 hcz38_2 hcz38_3); (try clear hcz41_0 hcz41_1 hcz41_2 hcz41_3); (try clear hcz44_0 hcz44_1 hcz44_2 hcz44_3); (try clear hcz46_0 hcz46_1 hcz46_2 hcz46_3); (try clear hcz47_0 hcz47_1 hcz47_2 hcz47_3); (try clear hcz50_0 hcz50_1 hcz50_2 hcz50_3); (try clear hcz53_0 hcz53_1 hcz53_2 hcz53_3); (try clear hcz57_0 hcz57_1 hcz57_2 hcz57_3); (try clear hfz16_0 hfz16_1 hfz16_2 hfz16_3); (try clear hfz19_0 hfz19_1 hfz19_2 hfz19_3); (try clear hfz24_0 hfz24_1 hfz24_2 hfz24_3); (try clear hfz27_0 hfz27_1 hfz27_2 hfz27_3); (try clear hfz32_0 hfz32_1 hfz32_2 hfz32_3); (try clear hfz35_0 hfz35_1 hfz35_2 hfz35_3); (try clear hfz37_0 hfz37_1 hfz37_2 hfz37_3); (try clear hfz38_0 hfz38_1 hfz38_2 hfz38_3); (try clear hfz41_0 hfz41_1 hfz41_2 hfz41_3); (try clear hfz44_0 hfz44_1 hfz44_2 hfz44_3); (try clear hfz46_0 hfz46_1 hfz46_2 hfz46_3); (try clear hfz47_0 hfz47_1 hfz47_2 hfz47_3); (try clear hfz50_0 hfz50_1 hfz50_2 hfz50_3); (try clear hfz53_0 hfz53_1 hfz53_2 hfz53_3); (try clear hfz57_0 hfz57_1 hfz57_2 hfz57_3); obtain ⟨kq, x44_4, rfl, HA, HJ4, BK172, BK173, BK174, HB⟩ := hcut; cases kq with
  | zero => exact absurd HA.out (by simp [plane_Blit.j0])
  | succ kj4 =>
   have H := HA.out; clear HA; simp only [plane_Blit.j0] at H
   by_cases c59 : x44_4 = true
   ·subst c59
    have H1 : (some (0, 0, 0, ([] : List Int), false)) = some (r1, r2, r3, r4, r5) := by rw [if_pos rfl] at H; exact H
    clear H; have H := H1; clear H1; simp only [Option.some.injEq, Prod.mk.injEq] at H; obtain ⟨rfl, rfl, rfl, rfl, rfl⟩ := H; have hnb60 := NB174_172.out; have hnc60 := NB172_174.out; have hnb61 := NB174_173.out; have hnc61 := NB173_174.out; have hcz62_0 := bc0_ BK174.out; have hcz62_1 := bc1_ BK174.out; have hcz62_2 := bc2_ BK174.out; have hcz62_3 := bc3_ BK174.out; have hfz62_0 := blk_frozen BK174.out 0; have hfz62_1 := blk_frozen BK174.out 1; have hfz62_2 := blk_frozen BK174.out 2; have hfz62_3 := blk_frozen BK174.out 3
    go_wp2
    refine bodyPost_ret (results_ct rfl _ _ gb174 26 #[.int .i64 0, .int .i64 0, .int .i64 0, .slice none 0 0] (0, 0) _ rfl (by (with_reducible repeat (first | refine blk_drewN ?_ _ | refine blk_drew ?_ | refine blk_alloc ?_ _)); refine blk_put (cs := #[.int .i64 0, .int .i64 0, .int .i64 0, .slice none 0 0]) ?_ 3 _ rfl; (with_reducible repeat (first | refine blk_drewN ?_ _ | refine blk_drew ?_ | refine blk_alloc ?_ _)); refine blk_put (cs := #[.int .i64 0, .int .i64 0, .int .i64 0, .slice none 0 0]) ?_ 2 _ rfl; (with_reducible repeat (first | refine blk_drewN ?_ _ | refine blk_drew ?_ | refine blk_alloc ?_ _)); refine blk_put (cs := #[.int .i64 0, .int .i64 0, .int .i64 0, .slice none 0 0]) ?_ 1 _ rfl; (with_reducible repeat (first | refine blk_drewN ?_ _ | refine blk_drew ?_ | refine blk_alloc ?_ _)); refine blk_put (cs := #[.int .i64 0, .int .i64 0, .int .i64 0, .slice none 0 0]) ?_ 0 _ rfl; (with_reducible repeat (first | refine blk_drewN ?_ _ | refine blk_drew ?_ | refine blk_alloc ?_ _)); exact BK174.out) Try.underlying26 rfl (by kernel_rfl)) rfl ?_; exact ⟨_, q224_, q149_, q76_⟩
   ·replace c59 := Bool.eq_false_iff.mpr c59
    subst c59; have H1 : ((slices_Max_int_int.f kj4 l1_3).bind fun t177 => (if t177 > a0_2 then (some (0, 0, 0, ([] : List Int), false)) else ((slices_Clone_int_int.f l0_3).bind fun t178 => (plane_Blit.l0 kj4 a2 a3 a1_1 0 a0_0 a0_1 a0_2 t178 a1_0 a1_1 a1_2 l1_3)))) = some (r1, r2, r3, r4, r5) := by rw [if_neg (show ¬ (false = true) by decide)] at H; exact H
    clear H; have H := H1; clear H1; replace H := Option.bind_eq_some_iff.mp H; obtain ⟨t177, A630, H⟩ := H; replace H : (if t177 > a0_2 then (some (0, 0, 0, ([] : List Int), false)) else ((slices_Clone_int_int.f l0_3).bind fun t178 => (plane_Blit.l0 kj4 a2 a3 a1_1 0 a0_0 a0_1 a0_2 t178 a1_0 a1_1 a1_2 l1_3))) = some (r1, r2, r3, r4, r5) := H; have A63 := am_ A630; clear A630
    by_cases c64 : t177 > a0_2
    ·rw [if_pos c64] at H
     have c64b0 : decide (a0_2 < t177) = true := decide_eq_true c64; clear c64; simp only [Option.some.injEq, Prod.mk.injEq] at H; obtain ⟨rfl, rfl, rfl, rfl, rfl⟩ := H
     try go_wp2
     have n0_ := am_ (blk_drew BK172.out); have n1_ := am_ (blk_drew BK173.out); have n2_ := am_ (blk_drew BK174.out); have n3_ := am_ (below_drew1 HB.out); clear BK172 BK173 BK174 HB; have BK172 := n0_; have BK173 := n1_; have BK174 := n2_; have HB := n3_; clear n0_ n1_ n2_ n3_; refine start_ (n := 6) (S := fun w' => w'.cell? ⟨gb173, 0, none⟩ = some (.int .i64 a1_0) ∧ w'.cell? ⟨gb173, 1, none⟩ = some (.int .i64 a1_1) ∧ w'.cell? ⟨gb173, 2, none⟩ = some (.int .i64 a1_2) ∧ w'.cell? ⟨gb173, 3, none⟩ = some (.slice A1_3 l1_3.length c1_3) ∧ w'.cell? ⟨gb172, 0, none⟩ = some (.int .i64 a0_0) ∧ w'.cell? ⟨gb172, 1, none⟩ = some (.int .i64 a0_1) ∧ w'.cell? ⟨gb172, 2, none⟩ = some (.int .i64 a0_2) ∧ w'.cell? ⟨gb172, 3, none⟩ = some (.slice A0_3 l0_3.length c0_3)) (ds := []) #[F_, F_, F_, F_, F_, F_] (by kernel_rfl) rfl rfl ⟨bc0_ BK173.out, bc1_ BK173.out, bc2_ BK173.out, bc3_ BK173.out, bc0_ BK172.out, bc1_ BK172.out, bc2_ BK172.out, bc3_ BK172.out⟩ (fun hHeld => ?_); generalize wc.drew = w65 at BK172 BK173 BK174 HB hHeld ⊢; refine pure_ (i := 0) (N := some 46) (v := ?_) (a' := ?_) #[T_, F_, F_, F_, F_, F_] rfl rfl (by kernel_rfl) (fun _ _ _ h => h) (Or.inl ⟨by rfl, ?_⟩) ?_ ?_; rotate_left
     ·intro w'
      go_simp
      with_reducible rfl
     rotate_left
     ·simp only [Act.put, la_, lz_, ls_, i64_w, i32_w]
      rfl
     refine pure_ (i := 3) (N := some 49) (v := ?_) (a' := ?_) #[T_, F_, F_, T_, F_, F_] rfl rfl (by kernel_rfl) (fun _ _ _ h => h) (Or.inl ⟨by rfl, ?_⟩) ?_ ?_; rotate_left
     ·intro w'
      go_simp
      with_reducible rfl
     rotate_left
     ·simp only [Act.put, la_, lz_, ls_, i64_w, i32_w]
      rfl
     refine take_ (i := 1) (N := some 47) (v := ?_) (a' := ?_) #[T_, T_, F_, T_, F_, F_] rfl rfl (by kernel_rfl) (fun _ _ _ h => h) (Or.inl ⟨by rfl, ?_⟩) hHeld ?_ ?_; rotate_left
     ·rintro w' ⟨s0, s1, s2, s3, s4, s5, s6, s7⟩
      go_simp
      with_reducible rfl
     rotate_left
     ·simp only [Act.put, la_, lz_, ls_, i64_w, i32_w]
      rfl
     refine take_ (i := 4) (N := some 50) (v := ?_) (a' := ?_) #[T_, T_, F_, T_, T_, F_] rfl rfl (by kernel_rfl) (fun _ _ _ h => h) (Or.inl ⟨by rfl, ?_⟩) hHeld ?_ ?_; rotate_left
     ·rintro w' ⟨s0, s1, s2, s3, s4, s5, s6, s7⟩
      go_simp
      with_reducible rfl
     rotate_left
     ·simp only [Act.put, la_, lz_, ls_, i64_w, i32_w]
      rfl
     refine one_ (i := 2) (N := some 48) #[T_, T_, T_, T_, T_, F_] rfl rfl (by kernel_rfl) (by decide) (fun K hK => ?_); refine goes_ Try.func36 (by kernel_rfl) rfl #[.slice A1_3 l1_3.length c1_3] (by rfl) rfl rfl q150_ ?_
     with_reducible refine (slices_Max_int_int.calls kj4 _ _ l1_3 t177 _ ?side1 ?side2 A63.out).mono ?_
     (case side1 => repeat (first | exact (Kd.C_below HR1_3.out HB.out) | (with_reducible refine Kd.C_alloc ?_ _) | (with_reducible refine Kd.C_drewN ?_ _) | (with_reducible refine Kd.C_drew ?_))); (case side2 => exact HC1_3.out); rintro e w66 ⟨rfl, hb⟩; refine ⟨_, rfl, ?_⟩; have n0_ := am_ (blk_below (g := gb172) (o := .cells #[.int .i64 a0_0, .int .i64 a0_1, .int .i64 a0_2, .slice A0_3 l0_3.length c0_3] 26 (0, 0)) q167_ hb); have n1_ := am_ (blk_below (g := gb173) (o := .cells #[.int .i64 a1_0, .int .i64 a1_1, .int .i64 a1_2, .slice A1_3 l1_3.length c1_3] 26 (0, 0)) q168_ hb); have n2_ := am_ (blk_below (g := gb174) (o := .cells #[.int .i64 0, .int .i64 0, .int .i64 0, .slice none 0 0] 26 (0, 0)) q169_ hb); have n3_ := am_ (below_step q76_ hb); clear BK172 BK173 BK174 HB; have BK172 := n0_; have BK173 := n1_; have BK174 := n2_; have HB := n3_; clear n0_ n1_ n2_ n3_; (try clear hb); (try clear hb2); (try clear hk); (try clear hi); refine hK.out _ _ ⟨bc0_ BK173.out, bc1_ BK173.out, bc2_ BK173.out, bc3_ BK173.out, bc0_ BK172.out, bc1_ BK172.out, bc2_ BK172.out, bc3_ BK172.out⟩ (fun hHeld => ?_); clear hK K; refine norm_ (a' := ?_) ?_ ?_; rotate_left
     ·show Act.put _ (some 48) _ = _
      simp only [Act.put, la_, lz_, ls_, i64_w, i32_w]; rfl
     refine pure_ (i := 5) (N := some 51) (v := ?_) (a' := ?_) #[T_, T_, T_, T_, T_, T_] rfl rfl (by kernel_rfl) (fun _ _ _ h => h) (Or.inl ⟨by rfl, ?_⟩) ?_ ?_; rotate_left
     ·intro w'
      go_simp
      with_reducible rfl
     rotate_left
     ·simp only [Act.put, la_, lz_, ls_, i64_w, i32_w]
      rfl
     refine done_ (by kernel_rfl) ?_; have hnb67 := NB174_172.out; have hnc67 := NB172_174.out; have hnb68 := NB174_173.out; have hnc68 := NB173_174.out; have hcz69_0 := bc0_ BK174.out; have hcz69_1 := bc1_ BK174.out; have hcz69_2 := bc2_ BK174.out; have hcz69_3 := bc3_ BK174.out; have hfz69_0 := blk_frozen BK174.out 0; have hfz69_1 := blk_frozen BK174.out 1; have hfz69_2 := blk_frozen BK174.out 2; have hfz69_3 := blk_frozen BK174.out 3
     try go_wp2
     refine bodyPost_ret (results_ct rfl _ _ gb174 26 #[.int .i64 0, .int .i64 0, .int .i64 0, .slice none 0 0] (0, 0) _ rfl (by (with_reducible repeat (first | refine blk_drewN ?_ _ | refine blk_drew ?_ | refine blk_alloc ?_ _)); refine blk_put (cs := #[.int .i64 0, .int .i64 0, .int .i64 0, .slice none 0 0]) ?_ 3 _ rfl; (with_reducible repeat (first | refine blk_drewN ?_ _ | refine blk_drew ?_ | refine blk_alloc ?_ _)); refine blk_put (cs := #[.int .i64 0, .int .i64 0, .int .i64 0, .slice none 0 0]) ?_ 2 _ rfl; (with_reducible repeat (first | refine blk_drewN ?_ _ | refine blk_drew ?_ | refine blk_alloc ?_ _)); refine blk_put (cs := #[.int .i64 0, .int .i64 0, .int .i64 0, .slice none 0 0]) ?_ 1 _ rfl; (with_reducible repeat (first | refine blk_drewN ?_ _ | refine blk_drew ?_ | refine blk_alloc ?_ _)); refine blk_put (cs := #[.int .i64 0, .int .i64 0, .int .i64 0, .slice none 0 0]) ?_ 0 _ rfl; (with_reducible repeat (first | refine blk_drewN ?_ _ | refine blk_drew ?_ | refine blk_alloc ?_ _)); exact BK174.out) Try.underlying26 rfl (by kernel_rfl)) rfl ?_; exact ⟨_, q224_, q149_, q76_⟩
    ·rw [if_neg c64] at H
     have c64b0 : decide (a0_2 < t177) = false := decide_eq_false c64; clear c64; replace H := Option.bind_eq_some_iff.mp H; obtain ⟨t178, A700, H⟩ := H; replace H : (plane_Blit.l0 kj4 a2 a3 a1_1 0 a0_0 a0_1 a0_2 t178 a1_0 a1_1 a1_2 l1_3) = some (r1, r2, r3, r4, r5) := H; have A70 := am_ A700; clear A700; have H' := am_ H; clear H
     try go_wp2
     have n0_ := am_ (blk_drew BK172.out); have n1_ := am_ (blk_drew BK173.out); have n2_ := am_ (blk_drew BK174.out); have n3_ := am_ (below_drew1 HB.out); clear BK172 BK173 BK174 HB; have BK172 := n0_; have BK173 := n1_; have BK174 := n2_; have HB := n3_; clear n0_ n1_ n2_ n3_; refine start_ (n := 6) (S := fun w' => w'.cell? ⟨gb173, 0, none⟩ = some (.int .i64 a1_0) ∧ w'.cell? ⟨gb173, 1, none⟩ = some (.int .i64 a1_1) ∧ w'.cell? ⟨gb173, 2, none⟩ = some (.int .i64 a1_2) ∧ w'.cell? ⟨gb173, 3, none⟩ = some (.slice A1_3 l1_3.length c1_3) ∧ w'.cell? ⟨gb172, 0, none⟩ = some (.int .i64 a0_0) ∧ w'.cell? ⟨gb172, 1, none⟩ = some (.int .i64 a0_1) ∧ w'.cell? ⟨gb172, 2, none⟩ = some (.int .i64 a0_2) ∧ w'.cell? ⟨gb172, 3, none⟩ = some (.slice A0_3 l0_3.length c0_3)) (ds := []) #[F_, F_, F_, F_, F_, F_] (by kernel_rfl) rfl rfl ⟨bc0_ BK173.out, bc1_ BK173.out, bc2_ BK173.out, bc3_ BK173.out, bc0_ BK172.out, bc1_ BK172.out, bc2_ BK172.out, bc3_ BK172.out⟩ (fun hHeld => ?_); generalize wc.drew = w71 at BK172 BK173 BK174 HB hHeld ⊢; refine pure_ (i := 0) (N := some 46) (v := ?_) (a' := ?_) #[T_, F_, F_, F_, F_, F_] rfl rfl (by kernel_rfl) (fun _ _ _ h => h) (Or.inl ⟨by rfl, ?_⟩) ?_ ?_; rotate_left
     ·intro w'
      go_simp
      with_reducible rfl
     rotate_left
     ·simp only [Act.put, la_, lz_, ls_, i64_w, i32_w]
      rfl
     refine pure_ (i := 3) (N := some 49) (v := ?_) (a' := ?_) #[T_, F_, F_, T_, F_, F_] rfl rfl (by kernel_rfl) (fun _ _ _ h => h) (Or.inl ⟨by rfl, ?_⟩) ?_ ?_; rotate_left
     ·intro w'
      go_simp
      with_reducible rfl
     rotate_left
     ·simp only [Act.put, la_, lz_, ls_, i64_w, i32_w]
      rfl
     refine take_ (i := 1) (N := some 47) (v := ?_) (a' := ?_) #[T_, T_, F_, T_, F_, F_] rfl rfl (by kernel_rfl) (fun _ _ _ h => h) (Or.inl ⟨by rfl, ?_⟩) hHeld ?_ ?_; rotate_left
     ·rintro w' ⟨s0, s1, s2, s3, s4, s5, s6, s7⟩
      go_simp
      with_reducible rfl
     rotate_left
     ·simp only [Act.put, la_, lz_, ls_, i64_w, i32_w]
      rfl
     refine take_ (i := 4) (N := some 50) (v := ?_) (a' := ?_) #[T_, T_, F_, T_, T_, F_] rfl rfl (by kernel_rfl) (fun _ _ _ h => h) (Or.inl ⟨by rfl, ?_⟩) hHeld ?_ ?_; rotate_left
     ·rintro w' ⟨s0, s1, s2, s3, s4, s5, s6, s7⟩
      go_simp
      with_reducible rfl
     rotate_left
     ·simp only [Act.put, la_, lz_, ls_, i64_w, i32_w]
      rfl
     refine one_ (i := 2) (N := some 48) #[T_, T_, T_, T_, T_, F_] rfl rfl (by kernel_rfl) (by decide) (fun K hK => ?_); refine goes_ Try.func36 (by kernel_rfl) rfl #[.slice A1_3 l1_3.length c1_3] (by rfl) rfl rfl q150_ ?_
     with_reducible refine (slices_Max_int_int.calls kj4 _ _ l1_3 t177 _ ?side1 ?side2 A63.out).mono ?_
     (case side1 => repeat (first | exact (Kd.C_below HR1_3.out HB.out) | (with_reducible refine Kd.C_alloc ?_ _) | (with_reducible refine Kd.C_drewN ?_ _) | (with_reducible refine Kd.C_drew ?_))); (case side2 => exact HC1_3.out); rintro e w72 ⟨rfl, hb⟩; refine ⟨_, rfl, ?_⟩; have n0_ := am_ (blk_below (g := gb172) (o := .cells #[.int .i64 a0_0, .int .i64 a0_1, .int .i64 a0_2, .slice A0_3 l0_3.length c0_3] 26 (0, 0)) q167_ hb); have n1_ := am_ (blk_below (g := gb173) (o := .cells #[.int .i64 a1_0, .int .i64 a1_1, .int .i64 a1_2, .slice A1_3 l1_3.length c1_3] 26 (0, 0)) q168_ hb); have n2_ := am_ (blk_below (g := gb174) (o := .cells #[.int .i64 0, .int .i64 0, .int .i64 0, .slice none 0 0] 26 (0, 0)) q169_ hb); have n3_ := am_ (below_step q76_ hb); clear BK172 BK173 BK174 HB; have BK172 := n0_; have BK173 := n1_; have BK174 := n2_; have HB := n3_; clear n0_ n1_ n2_ n3_; (try clear hb); (try clear hb2); (try clear hk); (try clear hi); refine hK.out _ _ ⟨bc0_ BK173.out, bc1_ BK173.out, bc2_ BK173.out, bc3_ BK173.out, bc0_ BK172.out, bc1_ BK172.out, bc2_ BK172.out, bc3_ BK172.out⟩ (fun hHeld => ?_); clear hK K; refine norm_ (a' := ?_) ?_ ?_; rotate_left
     ·show Act.put _ (some 48) _ = _
      simp only [Act.put, la_, lz_, ls_, i64_w, i32_w]; rfl
     refine pure_ (i := 5) (N := some 51) (v := ?_) (a' := ?_) #[T_, T_, T_, T_, T_, T_] rfl rfl (by kernel_rfl) (fun _ _ _ h => h) (Or.inl ⟨by rfl, ?_⟩) ?_ ?_; rotate_left
     ·intro w'
      go_simp
      with_reducible rfl
     rotate_left
     ·simp only [Act.put, la_, lz_, ls_, i64_w, i32_w]
      rfl
     refine done_ (by kernel_rfl) ?_; have hnb73 := NB172_173.out; have hnc73 := NB173_172.out; have hnb74 := NB172_174.out; have hnc74 := NB174_172.out; have hcz75_0 := bc0_ BK172.out; have hcz75_1 := bc1_ BK172.out; have hcz75_2 := bc2_ BK172.out; have hcz75_3 := bc3_ BK172.out; have hfz75_0 := blk_frozen BK172.out 0; have hfz75_1 := blk_frozen BK172.out 1; have hfz75_2 := blk_frozen BK172.out 2; have hfz75_3 := blk_frozen BK172.out 3
     try go_wp2_with (first | ((with_reducible refine gate_callee (f := 37) rfl ?_); refine goesL_ (some 55) rfl rfl Try.func37 (by kernel_rfl) rfl #[.slice A0_3 l0_3.length c0_3] rfl q150_ ?_; (with_reducible refine (slices_Clone_int_int.calls _ _ l0_3 t178 _ ?side1 ?side2 A70.out).mono ?_); (case side1 => repeat (first | exact (Kd.C_below HR0_3.out HB.out) | (with_reducible refine Kd.C_alloc ?_ _) | (with_reducible refine Kd.C_drewN ?_ _) | (with_reducible refine Kd.C_drew ?_))); (case side2 => exact HC0_3.out); rintro e w76 ⟨v179, rfl, ho0, hb⟩; refine ⟨_, rfl, ?_⟩; have n0_ := am_ (Kd.R_lower ho0 (below_size q76_)); have n1_ := am_ (blk_below (g := gb172) (o := .cells #[.int .i64 a0_0, .int .i64 a0_1, .int .i64 a0_2, .slice A0_3 l0_3.length c0_3] 26 (0, 0)) q167_ hb); have n2_ := am_ (blk_below (g := gb173) (o := .cells #[.int .i64 a1_0, .int .i64 a1_1, .int .i64 a1_2, .slice A1_3 l1_3.length c1_3] 26 (0, 0)) q168_ hb); have n3_ := am_ (blk_below (g := gb174) (o := .cells #[.int .i64 0, .int .i64 0, .int .i64 0, .slice none 0 0] 26 (0, 0)) q169_ hb); have n4_ := am_ (below_step q76_ hb); clear BK172 BK173 BK174 HB; have HO180 := n0_; have BK172 := n1_; have BK173 := n2_; have BK174 := n3_; have HB := n4_; clear n0_ n1_ n2_ n3_ n4_; (try clear hb); (try clear hb2); (try clear hk); (try clear hi); (try clear ho0); obtain ⟨Ao77, co77, eo77⟩ := Kd.R_slice HO180.out; subst eo77; have hcz78_0 := bc0_ BK172.out; have hcz78_1 := bc1_ BK172.out; have hcz78_2 := bc2_ BK172.out; have hcz78_3 := bc3_ BK172.out; have hfz78_0 := blk_frozen BK172.out 0; have hfz78_1 := blk_frozen BK172.out 1; have hfz78_2 := blk_frozen BK172.out 2; have hfz78_3 := blk_frozen BK172.out 3; have hnb79 := NB173_174.out; have hnc79 := NB174_173.out; have hcz80_0 := bc0_ BK173.out; have hcz80_1 := bc1_ BK173.out; have hcz80_2 := bc2_ BK173.out; have hcz80_3 := bc3_ BK173.out; have hfz80_0 := blk_frozen BK173.out 0; have hfz80_1 := blk_frozen BK173.out 1; have hfz80_2 := blk_frozen BK173.out 2; have hfz80_3 := blk_frozen BK173.out 3))
     go_loopg [59] kj4 (fun kq v59 w' => ∃ (x59_2 : Int) (x173003_2 : List Int) (u173003 : Value), v59 = .int .i64 x59_2 ∧ Aside0 (plane_Blit.l0 kq a2 a3 a1_1 x59_2 a0_0 a0_1 a0_2 x173003_2 a1_0 a1_1 a1_2 l1_3 = some (r1, r2, r3, r4, r5)) ∧ Aside0 (kq ≤ kj4) ∧ Aside0 (Kd.R (Kd.int .i64) 3 w' w.heap.size (fun _ => True) u173003 x173003_2) ∧ Aside0 (w'.heap[gb172]? = some (.cells #[.int .i64 a0_0, .int .i64 a0_1, .int .i64 a0_2, u173003] 26 (0, 0))) ∧ Aside0 (w'.heap[gb173]? = some (.cells #[.int .i64 a1_0, .int .i64 a1_1, .int .i64 a1_2, (.slice A1_3 l1_3.length c1_3)] 26 (0, 0))) ∧ Aside0 (w'.heap[gb174]? = some (.cells #[.int .i64 0, .int .i64 0, .int .i64 0, (.slice none 0 0)] 26 (0, 0))) ∧ Aside0 (Below w.heap.size w w'))
     case atStart => exact ⟨(0), (t178), (.slice Ao77 t178.length co77), q227_, H', ⟨Nat.le_refl _⟩, ⟨by (with_reducible repeat (first | apply Kd.R_alloc | apply Kd.R_drewN | apply Kd.R_drew)); exact Kd.R_mono (Kd.R_far (p := ⟨gb172, 3, none⟩) (Kd.R_types HO180.out BK172.out (by decide)) (fun _ hk => hk.2) (.slice Ao77 t178.length co77)) (fun _ hk => trivial)⟩, ⟨by (with_reducible repeat (first | refine blk_drewN ?_ _ | refine blk_drew ?_ | refine blk_alloc ?_ _)); refine blk_put (cs := #[.int .i64 a0_0, .int .i64 a0_1, .int .i64 a0_2, .slice A0_3 l0_3.length c0_3]) ?_ 3 _ rfl; (with_reducible repeat (first | refine blk_drewN ?_ _ | refine blk_drew ?_ | refine blk_alloc ?_ _)); exact BK172.out⟩, ⟨by (with_reducible repeat (first | refine blk_drewN ?_ _ | refine blk_drew ?_ | refine blk_alloc ?_ _)); refine blk_far ?_ NB173_172.out _; (with_reducible repeat (first | refine blk_drewN ?_ _ | refine blk_drew ?_ | refine blk_alloc ?_ _)); exact BK173.out⟩, ⟨by (with_reducible repeat (first | refine blk_drewN ?_ _ | refine blk_drew ?_ | refine blk_alloc ?_ _)); refine blk_far ?_ NB174_172.out _; (with_reducible repeat (first | refine blk_drewN ?_ _ | refine blk_drew ?_ | refine blk_alloc ?_ _)); exact BK174.out⟩, ⟨q76_⟩⟩
     case round =>
      clear H'; (try clear c1); (try clear c2); (try clear p2); (try clear c3); (try clear c4); (try clear c5); (try clear c6); (try clear p6); (try clear c7); (try clear c10); (try clear c12); (try clear c13); (try clear c13b0); (try clear c14); (try clear c15); (try clear c17); (try clear c18); (try clear c21); (try clear c21b0); (try clear c22); (try clear c23); (try clear c26); (try clear c29); (try clear c29b0); (try clear c30); (try clear c31); (try clear c34); (try clear c36); (try clear c37); (try clear c39); (try clear c40); (try clear c43); (try clear c48); (try clear c49); (try clear c52); (try clear c55); (try clear c56); (try clear c59); (try clear c60); (try clear c61); (try clear c64); (try clear c64b0); (try clear p64); (try clear c67); (try clear c68); (try clear c73); (try clear c74); (try clear c79); (try clear hcz16_0 hcz16_1 hcz16_2 hcz16_3); (try clear hcz19_0 hcz19_1 hcz19_2 hcz19_3); (try clear hcz24_0 hcz24_1 hcz24_2 hcz24_3); (try clear hcz27_0 hcz27_1 hcz27_2 hcz27_3); (try clear hcz32_0 hcz32_1 hcz32_2 hcz32_3); (try clear hcz35_0 hcz35_1 hcz35_2 hcz35_3); (try clear hcz37_0 hcz37_1 hcz37_2 hcz37_3); (try clear hcz38_0 hcz38_1 hcz38_2 hcz38_3); (try clear hcz41_0 hcz41_1 hcz41_2 hcz41_3); (try clear hcz44_0 hcz44_1 hcz44_2 hcz44_3); (try clear hcz46_0 hcz46_1 hcz46_2 hcz46_3); (try clear hcz47_0 hcz47_1 hcz47_2 hcz47_3); (try clear hcz50_0 hcz50_1 hcz50_2 hcz50_3); (try clear hcz53_0 hcz53_1 hcz53_2 hcz53_3); (try clear hcz57_0 hcz57_1 hcz57_2 hcz57_3); (try clear hcz62_0 hcz62_1 hcz62_2 hcz62_3); (try clear hcz69_0 hcz69_1 hcz69_2 hcz69_3); (try clear hcz75_0 hcz75_1 hcz75_2 hcz75_3); (try clear hcz78_0 hcz78_1 hcz78_2 hcz78_3); (try clear hcz80_0 hcz80_1 hcz80_2 hcz80_3); (try clear hfz16_0 hfz16_1 hfz16_2 hfz16_3); (try clear hfz19_0 hfz19_1 hfz19_2 hfz19_3); (try clear hfz24_0 hfz24_1 hfz24_2 hfz24_3); (try clear hfz27_0 hfz27_1 hfz27_2 hfz27_3); (try clear hfz32_0 hfz32_1 hfz32_2 hfz32_3); (try clear hfz35_0 hfz35_1 hfz35_2 hfz35_3); (try clear hfz37_0 hfz37_1 hfz37_2 hfz37_3); (try clear hfz38_0 hfz38_1 hfz38_2 hfz38_3); (try clear hfz41_0 hfz41_1 hfz41_2 hfz41_3); (try clear hfz44_0 hfz44_1 hfz44_2 hfz44_3); (try clear hfz46_0 hfz46_1 hfz46_2 hfz46_3); (try clear hfz47_0 hfz47_1 hfz47_2 hfz47_3); (try clear hfz50_0 hfz50_1 hfz50_2 hfz50_3); (try clear hfz53_0 hfz53_1 hfz53_2 hfz53_3); (try clear hfz57_0 hfz57_1 hfz57_2 hfz57_3); (try clear hfz62_0 hfz62_1 hfz62_2 hfz62_3); (try clear hfz69_0 hfz69_1 hfz69_2 hfz69_3); (try clear hfz75_0 hfz75_1 hfz75_2 hfz75_3); (try clear hfz78_0 hfz78_1 hfz78_2 hfz78_3); (try clear hfz80_0 hfz80_1 hfz80_2 hfz80_3); (try clear p2); (try clear p6); obtain ⟨x59_2, x173003_2, u173003, rfl, HA, HK2, HO_173003, BK172, BK173, BK174, HB⟩ := hrel; cases gk with
      | zero => exact absurd HA.out (by simp [plane_Blit.l0])
      | succ k2 =>
       have H := HA.out; clear HA; simp only [plane_Blit.l0] at H
       by_cases c81 : x59_2 < a1_1
       ·rw [if_pos c81] at H
        have c81b0 : decide (x59_2 < a1_1) = true := decide_eq_true c81; clear c81; obtain ⟨ji82, hji82⟩ : ∃ j_ : Int, (wrap64 ((wrap64 ((wrap64 (a3 + x59_2)) * a0_0)) + a2)) = j_ := ⟨_, rfl⟩; replace H : (if 0 ≤ (ji82) then (if (ji82) ≤ (x173003_2.length : Int) then (if 0 ≤ (wrap64 (x59_2 * a1_0)) then (if (wrap64 (x59_2 * a1_0)) ≤ (wrap64 ((wrap64 (x59_2 + 1)) * a1_0)) then (if (wrap64 ((wrap64 (x59_2 + 1)) * a1_0)) ≤ (l1_3.length : Int) then (if 0 < (((l1_3.take ((wrap64 ((wrap64 (x59_2 + 1)) * a1_0)) : Int).toNat).drop ((wrap64 (x59_2 * a1_0)) : Int).toNat).length : Int) then (if (((l1_3.take ((wrap64 ((wrap64 (x59_2 + 1)) * a1_0)) : Int).toNat).drop ((wrap64 (x59_2 * a1_0)) : Int).toNat).length : Int) ≤ ((x173003_2.drop ((ji82) : Int).toNat).length : Int) then (plane_Blit.l0 k2 a2 a3 a1_1 (wrap64 (x59_2 + 1)) a0_0 a0_1 a0_2 (spl x173003_2 ((ji82) : Int).toNat ((l1_3.take ((wrap64 ((wrap64 (x59_2 + 1)) * a1_0)) : Int).toNat).drop ((wrap64 (x59_2 * a1_0)) : Int).toNat)) a1_0 a1_1 a1_2 l1_3) else (none)) else (none)) else (none)) else (none)) else (none)) else (none)) else (none)) = some (r1, r2, r3, r4, r5) := by first | (rw [hji82] at H; exact H) | (simp only [hji82] at H ⊢; exact H)
        have hji82w : (IntKind.i64.wrap ((wrap64 ((wrap64 (a3 + x59_2)) * a0_0)) + a2)) = ji82 := (i64_w _).trans hji82
        by_cases c83 : 0 ≤ (ji82)
        ·rw [if_pos c83] at H
         have c83b0 := eq_true c83; have c83b1 : decide (0 ≤ (ji82)) = true := decide_eq_true c83; clear c83
         by_cases c84 : (ji82) ≤ (x173003_2.length : Int)
         ·rw [if_pos c84] at H
          have c84b0 := eq_true c84; have c84b1 : decide ((ji82) ≤ (x173003_2.length : Int)) = true := decide_eq_true c84; clear c84; obtain ⟨y181, hy181⟩ : ∃ y_ : List Int, y_ = (x173003_2.drop ((ji82) : Int).toNat) := ⟨_, rfl⟩; replace H : (if 0 ≤ (wrap64 (x59_2 * a1_0)) then (if (wrap64 (x59_2 * a1_0)) ≤ (wrap64 ((wrap64 (x59_2 + 1)) * a1_0)) then (if (wrap64 ((wrap64 (x59_2 + 1)) * a1_0)) ≤ (l1_3.length : Int) then (if 0 < (((l1_3.take ((wrap64 ((wrap64 (x59_2 + 1)) * a1_0)) : Int).toNat).drop ((wrap64 (x59_2 * a1_0)) : Int).toNat).length : Int) then (if (((l1_3.take ((wrap64 ((wrap64 (x59_2 + 1)) * a1_0)) : Int).toNat).drop ((wrap64 (x59_2 * a1_0)) : Int).toNat).length : Int) ≤ (y181.length : Int) then (plane_Blit.l0 k2 a2 a3 a1_1 (wrap64 (x59_2 + 1)) a0_0 a0_1 a0_2 (spl x173003_2 ((ji82) : Int).toNat ((l1_3.take ((wrap64 ((wrap64 (x59_2 + 1)) * a1_0)) : Int).toNat).drop ((wrap64 (x59_2 * a1_0)) : Int).toNat)) a1_0 a1_1 a1_2 l1_3) else (none)) else (none)) else (none)) else (none)) else (none)) = some (r1, r2, r3, r4, r5) := by first | (rw [hy181]; with_reducible exact H) | (have H2_ := (Option.bind_some _ _).symm.trans H; rw [hy181]; with_reducible exact H2_) | (have H2_ := (Option.bind_some _ _).symm.trans H; with_reducible exact H2_) | with_reducible exact H | (rw [hy181]; exact H) | exact H
          have Ny181 := am_ hy181; clear hy181; obtain ⟨ji85, hji85⟩ : ∃ j_ : Int, (wrap64 (x59_2 * a1_0)) = j_ := ⟨_, rfl⟩; replace H : (if 0 ≤ (ji85) then (if (ji85) ≤ (wrap64 ((wrap64 (x59_2 + 1)) * a1_0)) then (if (wrap64 ((wrap64 (x59_2 + 1)) * a1_0)) ≤ (l1_3.length : Int) then (if 0 < (((l1_3.take ((wrap64 ((wrap64 (x59_2 + 1)) * a1_0)) : Int).toNat).drop ((ji85) : Int).toNat).length : Int) then (if (((l1_3.take ((wrap64 ((wrap64 (x59_2 + 1)) * a1_0)) : Int).toNat).drop ((ji85) : Int).toNat).length : Int) ≤ (y181.length : Int) then (plane_Blit.l0 k2 a2 a3 a1_1 (wrap64 (x59_2 + 1)) a0_0 a0_1 a0_2 (spl x173003_2 ((ji82) : Int).toNat ((l1_3.take ((wrap64 ((wrap64 (x59_2 + 1)) * a1_0)) : Int).toNat).drop ((ji85) : Int).toNat)) a1_0 a1_1 a1_2 l1_3) else (none)) else (none)) else (none)) else (none)) else (none)) = some (r1, r2, r3, r4, r5) := by first | (rw [hji85] at H; exact H) | (simp only [hji85] at H ⊢; exact H)
          have hji85w : (IntKind.i64.wrap (x59_2 * a1_0)) = ji85 := (i64_w _).trans hji85
          by_cases c86 : 0 ≤ (ji85)
          ·rw [if_pos c86] at H
           have c86b0 := eq_true c86; have c86b1 : decide (0 ≤ (ji85)) = true := decide_eq_true c86; clear c86
           by_cases c87 : (ji85) ≤ (wrap64 ((wrap64 (x59_2 + 1)) * a1_0))
           ·rw [if_pos c87] at H
            have c87b0 := eq_true c87; have c87b1 : decide ((ji85) ≤ (wrap64 ((wrap64 (x59_2 + 1)) * a1_0))) = true := decide_eq_true c87
            by_cases c88 : (wrap64 ((wrap64 (x59_2 + 1)) * a1_0)) ≤ (l1_3.length : Int)
            ·rw [if_pos c88] at H
             have c88b0 := eq_true c88; have c88b1 : decide ((wrap64 ((wrap64 (x59_2 + 1)) * a1_0)) ≤ (l1_3.length : Int)) = true := decide_eq_true c88
             by_cases c89 : 0 < (((l1_3.take ((wrap64 ((wrap64 (x59_2 + 1)) * a1_0)) : Int).toNat).drop ((ji85) : Int).toNat).length : Int)
             ·rw [if_pos c89] at H
              have c89b0 := eq_true c89; have c89b1 : decide (0 < (((l1_3.take ((wrap64 ((wrap64 (x59_2 + 1)) * a1_0)) : Int).toNat).drop ((ji85) : Int).toNat).length : Int)) = true := decide_eq_true c89
              by_cases c90 : (((l1_3.take ((wrap64 ((wrap64 (x59_2 + 1)) * a1_0)) : Int).toNat).drop ((ji85) : Int).toNat).length : Int) ≤ (y181.length : Int)
              ·rw [if_pos c90] at H
               have c90b0 := eq_true c90; have c90b1 : decide ((((l1_3.take ((wrap64 ((wrap64 (x59_2 + 1)) * a1_0)) : Int).toNat).drop ((ji85) : Int).toNat).length : Int) ≤ (y181.length : Int)) = true := decide_eq_true c90; obtain ⟨y186, hy186⟩ : ∃ y_ : List Int, y_ = (spl x173003_2 ((ji82) : Int).toNat ((l1_3.take ((wrap64 ((wrap64 (x59_2 + 1)) * a1_0)) : Int).toNat).drop ((ji85) : Int).toNat)) := ⟨_, rfl⟩; replace H : (plane_Blit.l0 k2 a2 a3 a1_1 (wrap64 (x59_2 + 1)) a0_0 a0_1 a0_2 y186 a1_0 a1_1 a1_2 l1_3) = some (r1, r2, r3, r4, r5) := by first | (rw [hy186]; with_reducible exact H) | (have H2_ := (Option.bind_some _ _).symm.trans H; rw [hy186]; with_reducible exact H2_) | (have H2_ := (Option.bind_some _ _).symm.trans H; with_reducible exact H2_) | with_reducible exact H | (rw [hy186]; exact H) | exact H
               have Ny186 := am_ hy186; clear hy186; have H' := am_ H; clear H
               try go_wp2
               have n0_ := am_ (Kd.R_drew HO_173003.out); have n1_ := am_ (blk_drew BK172.out); have n2_ := am_ (blk_drew BK173.out); have n3_ := am_ (blk_drew BK174.out); have n4_ := am_ (below_drew1 HB.out); clear HO_173003 BK172 BK173 BK174 HB; have HO_173003 := n0_; have BK172 := n1_; have BK173 := n2_; have BK174 := n3_; have HB := n4_; clear n0_ n1_ n2_ n3_ n4_; obtain ⟨Ao93, co93, eo93⟩ := Kd.R_slice HO_173003.out; (first | subst eo93 | (injection eo93 with f1_ f2_ f3_; have f4_ := f1_.symm; have f5_ := f3_.symm; clear f1_ f2_ f3_; subst f4_; subst f5_)); have q92 : ((ji82) : Int) ≤ ((x173003_2.length : Int) : Int) := of_decide_eq_true q226_; obtain ⟨i092, hi092, _, hsz92, _⟩ := info_parts info3; have hroom92 : x173003_2.length ≤ co93 := (Kd.R_reads' HO_173003.out).2.1; have hC92 : Kd.C (Kd.int .i64) _ Ao93 x173003_2.length x173003_2 := (Kd.R_reads' HO_173003.out).2.2; have q092 : (0 : Int) ≤ ((ji82) : Int) := of_decide_eq_true q226_; have hcut92 := cut_from (P := Try.prog) 22 3 .i64 Try.underlying22 hi092 1 hsz92 Ao93 x173003_2.length co93 (ji82) q092 q92; have hr92 := Kd.C_drop (m := ((ji82) : Int).toNat) (c := co93) hC92 (by omega) hroom92; obtain ⟨A92, hA92⟩ : ∃ A1, A1 = (if co93 = ((ji82) : Int).toNat then Ao93 else (Ao93 : Option Addr).map (·.add (((ji82) : Int).toNat * 1))) := ⟨_, rfl⟩; obtain ⟨c92, hc92⟩ : ∃ c1, c1 = co93 - ((ji82) : Int).toNat := ⟨_, rfl⟩; have hy92 : y181.length = x173003_2.length - ((ji82) : Int).toNat := (by rw [Ny181.out, List.length_drop] <;> omega); rw [show (x173003_2).drop ((ji82) : Int).toNat = y181 from Ny181.out.symm] at hr92; replace hr92 : Kd.C (Kd.int .i64) _ A92 y181.length y181 := (by rw [hA92]; exact hr92); rw [← hy92, ← hA92, ← hc92] at hcut92; have HR184 := am_ hr92; have HC184 := am_ (show y181.length ≤ c92 from by rw [hy92, hc92]; exact Nat.sub_le_sub_right hroom92 _); clear hr92 hC92 hroom92 hi092 hsz92 hc92; have KY92 := am_ hy92; have KA92 := am_ hA92; clear hy92 hA92; have KL92 := am_ (show ((ji82) : Int).toNat ≤ x173003_2.length from by omega); replace q92 := eq_true q92; obtain ⟨i094, hi094, _, hsz94, _⟩ := info_parts info3; obtain ⟨A94, hcut94, hA94, hC94⟩ := print_mid_of (P := Try.prog) (Value.int .i64) 0 22 3 .i64 .i64 Try.underlying22 hi094 hsz94 A1_3 c1_3 l1_3 (ji85) (wrap64 ((wrap64 (x59_2 + 1)) * a1_0)) (of_decide_eq_true q226_) (by first | omega | exact of_decide_eq_true q226_) (of_decide_eq_true q226_) HC1_3.out; have HR185 := am_ (Kd.C_of_reads (h1 := fun _ => rfl) (hA94 _ (Kd.reads_of_C HR1_3.out))); have HC185 := am_ hC94; clear hA94 hC94 hi094 hsz94; obtain ⟨go96, co96, eo96, gb96, gl96, cl96, HG96⟩ := Kd.R_form HO_173003.out (by have hf_ : (((l1_3.take ((wrap64 ((wrap64 (x59_2 + 1)) * a1_0)) : Int).toNat).drop ((ji85) : Int).toNat).length : Int) ≤ (y181.length : Int) := of_decide_eq_true q226_; have h1_ : (0 : Int) < (((l1_3.take ((wrap64 ((wrap64 (x59_2 + 1)) * a1_0)) : Int).toNat).drop ((ji85) : Int).toNat).length : Int) := of_decide_eq_true q226_; have hl_ : ((ji82) : Int) ≤ ((x173003_2.length : Int) : Int) := of_decide_eq_true q226_; have hy1_ := KY92.out; omega); (first | cases eo96 | (injection eo96 with ea_ en_ ec_; (first | subst ea_ | (injection ea_ with ea_; subst ea_)); subst ec_; clear en_)); have GB96 := am_ gb96; have GG96 := am_ HG96; clear gb96 gl96 HG96; refine start_ (n := 24) (S := fun w' => w'.cell? ⟨gb172, 0, none⟩ = some (.int .i64 a0_0) ∧ w'.cell? ⟨gb172, 1, none⟩ = some (.int .i64 a0_1) ∧ w'.cell? ⟨gb172, 2, none⟩ = some (.int .i64 a0_2) ∧ w'.cell? ⟨gb172, 3, none⟩ = some (.slice (some ⟨go96, 0, none⟩) x173003_2.length co93) ∧ w'.cell? ⟨gb173, 0, none⟩ = some (.int .i64 a1_0) ∧ w'.cell? ⟨gb173, 1, none⟩ = some (.int .i64 a1_1) ∧ w'.cell? ⟨gb173, 2, none⟩ = some (.int .i64 a1_2) ∧ w'.cell? ⟨gb173, 3, none⟩ = some (.slice A1_3 l1_3.length c1_3)) (ds := []) #[F_, F_, F_, F_, F_, F_, F_, F_, F_, F_, F_, F_, F_, F_, F_, F_, F_, F_, F_, F_, F_, F_, F_, F_] (by kernel_rfl) rfl rfl ⟨bc0_ BK172.out, bc1_ BK172.out, bc2_ BK172.out, bc3_ BK172.out, bc0_ BK173.out, bc1_ BK173.out, bc2_ BK173.out, bc3_ BK173.out⟩ (fun hHeld => ?_); refine with_tabW plane_Blit.tab9 plane_Blit.bits9 (fun HT_ HW_ => ?_); generalize wr.drew = w91 at HO_173003 BK172 BK173 BK174 HB GG96 HR184 HR185 hHeld ⊢; refine pure_ (i := 0) (N := some 62) (v := ?_) (a' := ?_) #[T_, F_, F_, F_, F_, F_, F_, F_, F_, F_, F_, F_, F_, F_, F_, F_, F_, F_, F_, F_, F_, F_, F_, F_] rfl rfl (any_of HT_.out (by kernel_rfl)) (fun _ _ _ h => h) (Or.inl ⟨by rfl, ?_⟩) ?_ ?_; rotate_left
               ·intro w'
                go_simp
                with_reducible rfl
               rotate_left
               ·simp only [Act.put, la_, lz_, ls_, i64_w, i32_w]
                rfl
               refine pure_ (i := 2) (N := some 64) (v := ?_) (a' := ?_) #[T_, F_, T_, F_, F_, F_, F_, F_, F_, F_, F_, F_, F_, F_, F_, F_, F_, F_, F_, F_, F_, F_, F_, F_] rfl rfl (any_of HT_.out (by kernel_rfl)) (fun _ _ _ h => h) (Or.inl ⟨by rfl, ?_⟩) ?_ ?_; rotate_left
               ·intro w'
                go_simp
                with_reducible rfl
               rotate_left
               ·simp only [Act.put, la_, lz_, ls_, i64_w, i32_w]
                rfl
               refine pure_ (i := 3) (N := some 65) (v := ?_) (a' := ?_) #[T_, F_, T_, T_, F_, F_, F_, F_, F_, F_, F_, F_, F_, F_, F_, F_, F_, F_, F_, F_, F_, F_, F_, F_] rfl rfl (any_of HT_.out (by kernel_rfl)) (fun _ _ _ h => h) (Or.inl ⟨by rfl, ?_⟩) ?_ ?_; rotate_left
               ·intro w'
                go_simp
                with_reducible rfl
               rotate_left
               ·simp only [Act.put, la_, lz_, ls_, i64_w, i32_w]
                rfl
               refine pure_ (i := 4) (N := some 66) (v := ?_) (a' := ?_) #[T_, F_, T_, T_, T_, F_, F_, F_, F_, F_, F_, F_, F_, F_, F_, F_, F_, F_, F_, F_, F_, F_, F_, F_] rfl rfl (any_of HT_.out (by kernel_rfl)) (fun _ _ _ h => h) (Or.inl ⟨by rfl, ?_⟩) ?_ ?_; rotate_left
               ·intro w'
                go_simp
                with_reducible rfl
               rotate_left
               ·simp only [Act.put, la_, lz_, ls_, i64_w, i32_w]
                rfl
               refine pure_ (i := 5) (N := some 67) (v := ?_) (a' := ?_) #[T_, F_, T_, T_, T_, T_, F_, F_, F_, F_, F_, F_, F_, F_, F_, F_, F_, F_, F_, F_, F_, F_, F_, F_] rfl rfl (any_of HT_.out (by kernel_rfl)) (fun _ _ _ h => h) (Or.inl ⟨by rfl, ?_⟩) ?_ ?_; rotate_left
               ·intro w'
                go_simp
                with_reducible rfl
               rotate_left
               ·simp only [Act.put, la_, lz_, ls_, i64_w, i32_w]
                rfl
               refine pure_ (i := 8) (N := some 70) (v := ?_) (a' := ?_) #[T_, F_, T_, T_, T_, T_, F_, F_, T_, F_, F_, F_, F_, F_, F_, F_, F_, F_, F_, F_, F_, F_, F_, F_] rfl rfl (any_of HT_.out (by kernel_rfl)) (fun _ _ _ h => h) (Or.inl ⟨by rfl, ?_⟩) ?_ ?_; rotate_left
               ·intro w'
                go_simp
                with_reducible rfl
               rotate_left
               ·simp only [Act.put, la_, lz_, ls_, i64_w, i32_w]
                rfl
               refine pure_ (i := 11) (N := some 73) (v := ?_) (a' := ?_) #[T_, F_, T_, T_, T_, T_, F_, F_, T_, F_, F_, T_, F_, F_, F_, F_, F_, F_, F_, F_, F_, F_, F_, F_] rfl rfl (any_of HT_.out (by kernel_rfl)) (fun _ _ _ h => h) (Or.inl ⟨by rfl, ?_⟩) ?_ ?_; rotate_left
               ·intro w'
                go_simp
                with_reducible rfl
               rotate_left
               ·simp only [Act.put, la_, lz_, ls_, i64_w, i32_w]
                rfl
               refine pure_ (i := 13) (N := some 75) (v := ?_) (a' := ?_) #[T_, F_, T_, T_, T_, T_, F_, F_, T_, F_, F_, T_, F_, T_, F_, F_, F_, F_, F_, F_, F_, F_, F_, F_] rfl rfl (any_of HT_.out (by kernel_rfl)) (fun _ _ _ h => h) (Or.inl ⟨by rfl, ?_⟩) ?_ ?_; rotate_left
               ·intro w'
                go_simp
                with_reducible rfl
               rotate_left
               ·simp only [Act.put, la_, lz_, ls_, i64_w, i32_w]
                rfl
               refine pure_ (i := 14) (N := some 76) (v := ?_) (a' := ?_) #[T_, F_, T_, T_, T_, T_, F_, F_, T_, F_, F_, T_, F_, T_, T_, F_, F_, F_, F_, F_, F_, F_, F_, F_] rfl rfl (any_of HT_.out (by kernel_rfl)) (fun _ _ _ h => h) (Or.inl ⟨by rfl, ?_⟩) ?_ ?_; rotate_left
               ·intro w'
                go_simp
                with_reducible rfl
               rotate_left
               ·simp only [Act.put, la_, lz_, ls_, i64_w, i32_w]
                rfl
               refine pure_ (i := 17) (N := some 79) (v := ?_) (a' := ?_) #[T_, F_, T_, T_, T_, T_, F_, F_, T_, F_, F_, T_, F_, T_, T_, F_, F_, T_, F_, F_, F_, F_, F_, F_] rfl rfl (any_of HT_.out (by kernel_rfl)) (fun _ _ _ h => h) (Or.inl ⟨by rfl, ?_⟩) ?_ ?_; rotate_left
               ·intro w'
                go_simp
                with_reducible rfl
               rotate_left
               ·simp only [Act.put, la_, lz_, ls_, i64_w, i32_w]
                rfl
               refine pure_ (i := 18) (N := some 80) (v := ?_) (a' := ?_) #[T_, F_, T_, T_, T_, T_, F_, F_, T_, F_, F_, T_, F_, T_, T_, F_, F_, T_, T_, F_, F_, F_, F_, F_] rfl rfl (any_of HT_.out (by kernel_rfl)) (fun _ _ _ h => h) (Or.inl ⟨by rfl, ?_⟩) ?_ ?_; rotate_left
               ·intro w'
                go_simp
                with_reducible rfl
               rotate_left
               ·simp only [Act.put, la_, lz_, ls_, i64_w, i32_w]
                rfl
               refine pure_ (i := 19) (N := some 81) (v := ?_) (a' := ?_) #[T_, F_, T_, T_, T_, T_, F_, F_, T_, F_, F_, T_, F_, T_, T_, F_, F_, T_, T_, T_, F_, F_, F_, F_] rfl rfl (any_of HT_.out (by kernel_rfl)) (fun _ _ _ h => h) (Or.inl ⟨by rfl, ?_⟩) ?_ ?_; rotate_left
               ·intro w'
                go_simp
                with_reducible rfl
               rotate_left
               ·simp only [Act.put, la_, lz_, ls_, i64_w, i32_w]
                rfl
               refine take_ (i := 1) (N := some 63) (v := ?_) (a' := ?_) #[T_, T_, T_, T_, T_, T_, F_, F_, T_, F_, F_, T_, F_, T_, T_, F_, F_, T_, T_, T_, F_, F_, F_, F_] rfl rfl (take_ofW HT_.out HW_.out (by kernel_rfl)) (fun _ _ _ h => h) (Or.inl ⟨by rfl, ?_⟩) hHeld ?_ ?_; rotate_left
               ·rintro w' ⟨s0, s1, s2, s3, s4, s5, s6, s7⟩
                go_simp
                with_reducible rfl
               rotate_left
               ·simp only [Act.put, la_, lz_, ls_, i64_w, i32_w]
                rfl
               refine take_ (i := 6) (N := some 68) (v := ?_) (a' := ?_) #[T_, T_, T_, T_, T_, T_, T_, F_, T_, F_, F_, T_, F_, T_, T_, F_, F_, T_, T_, T_, F_, F_, F_, F_] rfl rfl (take_ofW HT_.out HW_.out (by kernel_rfl)) (fun _ _ _ h => h) (Or.inl ⟨by rfl, ?_⟩) hHeld ?_ ?_; rotate_left
               ·rintro w' ⟨s0, s1, s2, s3, s4, s5, s6, s7⟩
                go_simp
                with_reducible rfl
               rotate_left
               ·simp only [Act.put, la_, lz_, ls_, i64_w, i32_w]
                rfl
               refine pure_ (i := 7) (N := some 69) (v := ?_) (a' := ?_) #[T_, T_, T_, T_, T_, T_, T_, T_, T_, F_, F_, T_, F_, T_, T_, F_, F_, T_, T_, T_, F_, F_, F_, F_] rfl rfl (any_of HT_.out (by kernel_rfl)) (fun _ _ _ h => h) (Or.inl ⟨by rfl, ?_⟩) ?_ ?_; rotate_left
               ·intro w'
                go_simp
                with_reducible rfl
               rotate_left
               ·simp only [Act.put, la_, lz_, ls_, i64_w, i32_w]
                rfl
               refine pure_ (i := 9) (N := some 71) (v := ?_) (a' := ?_) #[T_, T_, T_, T_, T_, T_, T_, T_, T_, T_, F_, T_, F_, T_, T_, F_, F_, T_, T_, T_, F_, F_, F_, F_] rfl rfl (any_of HT_.out (by kernel_rfl)) (fun _ _ _ h => h) (Or.inl ⟨by rfl, ?_⟩) ?_ ?_; rotate_left
               ·intro w'
                go_simp
                with_reducible rfl
               rotate_left
               ·simp only [Act.put, la_, lz_, ls_, i64_w, i32_w]
                rfl
               refine pure_ (i := 10) (N := some 72) (v := ?_) (a' := ?_) #[T_, T_, T_, T_, T_, T_, T_, T_, T_, T_, T_, T_, F_, T_, T_, F_, F_, T_, T_, T_, F_, F_, F_, F_] rfl rfl (any_of HT_.out (by kernel_rfl)) (fun _ _ _ h => h) (Or.inl ⟨by rfl, ?_⟩) ?_ ?_; rotate_left
               ·intro w'
                go_simp
                with_reducible rfl
               rotate_left
               ·simp only [Act.put, la_, lz_, ls_, i64_w, i32_w]
                rfl
               refine take_ (i := 12) (N := some 74) (v := ?_) (a' := ?_) #[T_, T_, T_, T_, T_, T_, T_, T_, T_, T_, T_, T_, T_, T_, T_, F_, F_, T_, T_, T_, F_, F_, F_, F_] rfl rfl (take_ofW HT_.out HW_.out (by kernel_rfl)) (fun _ _ _ h => h) (Or.inl ⟨by rfl, ?_⟩) hHeld ?_ ?_; rotate_left
               ·rintro w' ⟨s0, s1, s2, s3, s4, s5, s6, s7⟩
                go_simp
                with_reducible rfl
               rotate_left
               ·simp only [Act.put, la_, lz_, ls_, i64_w, i32_w]
                rfl
               refine take_ (i := 15) (N := some 77) (v := ?_) (a' := ?_) #[T_, T_, T_, T_, T_, T_, T_, T_, T_, T_, T_, T_, T_, T_, T_, T_, F_, T_, T_, T_, F_, F_, F_, F_] rfl rfl (take_ofW HT_.out HW_.out (by kernel_rfl)) (fun _ _ _ h => h) (Or.inl ⟨by rfl, ?_⟩) hHeld ?_ ?_; rotate_left
               ·rintro w' ⟨s0, s1, s2, s3, s4, s5, s6, s7⟩
                go_simp
                with_reducible rfl
               rotate_left
               ·simp only [Act.put, la_, lz_, ls_, i64_w, i32_w]
                rfl
               refine pure_ (i := 16) (N := some 78) (v := ?_) (a' := ?_) #[T_, T_, T_, T_, T_, T_, T_, T_, T_, T_, T_, T_, T_, T_, T_, T_, T_, T_, T_, T_, F_, F_, F_, F_] rfl rfl (any_of HT_.out (by kernel_rfl)) (fun _ _ _ h => h) (Or.inl ⟨by rfl, ?_⟩) ?_ ?_; rotate_left
               ·intro w'
                go_simp
                with_reducible rfl
               rotate_left
               ·simp only [Act.put, la_, lz_, ls_, i64_w, i32_w]
                rfl
               refine take_ (i := 20) (N := some 82) (v := ?_) (a' := ?_) #[T_, T_, T_, T_, T_, T_, T_, T_, T_, T_, T_, T_, T_, T_, T_, T_, T_, T_, T_, T_, T_, F_, F_, F_] rfl rfl (take_ofW HT_.out HW_.out (by kernel_rfl)) (fun _ _ _ h => h) (Or.inl ⟨by rfl, ?_⟩) hHeld ?_ ?_; rotate_left
               ·rintro w' ⟨s0, s1, s2, s3, s4, s5, s6, s7⟩
                go_simp
                with_reducible rfl
               rotate_left
               ·simp only [Act.put, la_, lz_, ls_, i64_w, i32_w]
                rfl
               refine pure_ (i := 21) (N := some 83) (v := ?_) (a' := ?_) #[T_, T_, T_, T_, T_, T_, T_, T_, T_, T_, T_, T_, T_, T_, T_, T_, T_, T_, T_, T_, T_, T_, F_, F_] rfl rfl (any_of HT_.out (by kernel_rfl)) (fun _ _ _ h => h) (Or.inl ⟨by rfl, ?_⟩) ?_ ?_; rotate_left
               ·intro w'
                go_simp
                with_reducible rfl
               rotate_left
               ·simp only [Act.put, la_, lz_, ls_, i64_w, i32_w]
                rfl
               refine pure_ (i := 22) (N := some 84) (v := ?_) (a' := ?_) #[T_, T_, T_, T_, T_, T_, T_, T_, T_, T_, T_, T_, T_, T_, T_, T_, T_, T_, T_, T_, T_, T_, T_, F_] rfl rfl (any_of HT_.out (by kernel_rfl)) (fun _ _ _ h => h) (Or.inl ⟨by rfl, ?_⟩) ?_ ?_; rotate_left
               ·intro w'
                go_simp
                with_reducible rfl
               rotate_left
               ·simp only [Act.put, la_, lz_, ls_, i64_w, i32_w]
                rfl
               refine one_ (i := 23) (N := some 85) #[T_, T_, T_, T_, T_, T_, T_, T_, T_, T_, T_, T_, T_, T_, T_, T_, T_, T_, T_, T_, T_, T_, T_, T_] rfl rfl (one_of HT_.out (by kernel_rfl)) (by decide) (fun K hK => ?_); have hf_ : (((l1_3.take ((wrap64 ((wrap64 (x59_2 + 1)) * a1_0)) : Int).toNat).drop ((ji85) : Int).toNat).length : Int) ≤ (y181.length : Int) := of_decide_eq_true q226_; have h1_ : (0 : Int) < (((l1_3.take ((wrap64 ((wrap64 (x59_2 + 1)) * a1_0)) : Int).toNat).drop ((ji85) : Int).toNat).length : Int) := of_decide_eq_true q226_; have hl_ : ((ji82) : Int) ≤ ((x173003_2.length : Int) : Int) := of_decide_eq_true q226_; have hy1_ := KY92.out; have hx1_ := (Kd.R_reads' HO_173003.out).1; refine R_copyat_step (w0 := w) w.heap.size (by rfl) (.tmp 72) (.tmp 84) 22 22 3 rfl Try.underlying22 (by kernel_rfl) (g := go96) (n := x173003_2.length) (c := co93) (L := ((ji82) : Int).toNat) (ys := ((l1_3.take ((wrap64 ((wrap64 (x59_2 + 1)) * a1_0)) : Int).toNat).drop ((ji85) : Int).toNat)) rfl rfl (by (with_reducible repeat (first | apply Kd.R_alloc | apply Kd.R_drewN | apply Kd.R_drew)); exact HO_173003.out) ?hA ?hm1 ?hm2 ?hfit ?hL ?hR q76_ (below_size q76_) ?_; (case hA => have ha_ := KA92.out; exact ha_); (case hm1 => omega); (case hm2 => first | rfl | (simp only [List.length_drop, List.length_take]; done) | (simp only [List.length_drop, List.length_take]; omega)); (case hfit => omega); (case hL => omega); (case hR => repeat (first | exact (Kd.C_below HR185.out HB.out) | (with_reducible refine Kd.C_alloc ?_ _) | (with_reducible refine Kd.C_drewN ?_ _) | (with_reducible refine Kd.C_drew ?_))); intro w95 ho hb hg; clear hf_ h1_ hl_ hx1_ hy1_; rw [← Ny186.out] at ho; have n0_ := am_ (ho); have n1_ := am_ (blk_grown (g := gb172) (o := .cells #[.int .i64 a0_0, .int .i64 a0_1, .int .i64 a0_2, .slice (some ⟨go96, 0, none⟩) x173003_2.length co93] 26 (0, 0)) q167_ hg (Kd.R_ne HO_173003.out BK172.out (by decide))); have n2_ := am_ (blk_grown (g := gb173) (o := .cells #[.int .i64 a1_0, .int .i64 a1_1, .int .i64 a1_2, .slice A1_3 l1_3.length c1_3] 26 (0, 0)) q168_ hg (Kd.R_ne HO_173003.out BK173.out (by decide))); have n3_ := am_ (blk_grown (g := gb174) (o := .cells #[.int .i64 0, .int .i64 0, .int .i64 0, .slice none 0 0] 26 (0, 0)) q169_ hg (Kd.R_ne HO_173003.out BK174.out (by decide))); have n4_ := am_ (hb); clear HO_173003 BK172 BK173 BK174 HB; have HO_173003 := n0_; have BK172 := n1_; have BK173 := n2_; have BK174 := n3_; have HB := n4_; clear n0_ n1_ n2_ n3_ n4_; clear ho hb hg; refine hK.out _ _ ⟨bc0_ BK172.out, bc1_ BK172.out, bc2_ BK172.out, bc3_ BK172.out, bc0_ BK173.out, bc1_ BK173.out, bc2_ BK173.out, bc3_ BK173.out⟩ (fun hHeld => ?_); clear hK K; refine norm_ (a' := ?_) ?_ ?_; rotate_left
               ·show Act.put _ (some 85) _ = _
                simp only [Act.put, la_, lz_, ls_, i64_w, i32_w]; rfl
               refine done_ (done_of HT_.out (by kernel_rfl)) ?_
               try go_wp2
               go_roundg k2
               case measure => have := HJ4.out; have := HK2.out; omega
               case rel => exact ⟨(wrap64 (x59_2 + 1)), (y186), (.slice (some ⟨go96, 0, none⟩) x173003_2.length co93), q227_, (by first | exact H' | ((try (rw [hji82])); (try (rw [hji85])); exact H')), ⟨by have := HJ4.out; have := HK2.out; omega⟩, ⟨by (with_reducible repeat (first | apply Kd.R_alloc | apply Kd.R_drewN | apply Kd.R_drew)); exact HO_173003.out⟩, ⟨q167_⟩, ⟨q168_⟩, ⟨q169_⟩, ⟨q76_⟩⟩
              ·rw [if_neg c90] at H
               exact absurd H (by simp)
             ·rw [if_neg c89] at H
              exact absurd H (by simp)
            ·rw [if_neg c88] at H
             exact absurd H (by simp)
           ·rw [if_neg c87] at H
            exact absurd H (by simp)
          ·rw [if_neg c86] at H
           exact absurd H (by simp)
         ·rw [if_neg c84] at H
          exact absurd H (by simp)
        ·rw [if_neg c83] at H
         exact absurd H (by simp)
       ·rw [if_neg c81] at H
        have c81b0 : decide (x59_2 < a1_1) = false := decide_eq_false c81; clear c81; simp only [Option.some.injEq, Prod.mk.injEq] at H; obtain ⟨rfl, rfl, rfl, rfl, rfl⟩ := H; have hnb97 := NB172_173.out; have hnc97 := NB173_172.out; have hnb98 := NB172_174.out; have hnc98 := NB174_172.out; have hcz99_0 := bc0_ BK172.out; have hcz99_1 := bc1_ BK172.out; have hcz99_2 := bc2_ BK172.out; have hcz99_3 := bc3_ BK172.out; have hfz99_0 := blk_frozen BK172.out 0; have hfz99_1 := blk_frozen BK172.out 1; have hfz99_2 := blk_frozen BK172.out 2; have hfz99_3 := blk_frozen BK172.out 3; have hnb100 := NB174_173.out; have hnc100 := NB173_174.out; have hcz101_0 := bc0_ BK174.out; have hcz101_1 := bc1_ BK174.out; have hcz101_2 := bc2_ BK174.out; have hcz101_3 := bc3_ BK174.out; have hfz101_0 := blk_frozen BK174.out 0; have hfz101_1 := blk_frozen BK174.out 1; have hfz101_2 := blk_frozen BK174.out 2; have hfz101_3 := blk_frozen BK174.out 3; obtain ⟨Ao102, co102, eo102⟩ := Kd.R_slice HO_173003.out; subst eo102
        go_wp2
        refine bodyPost_ret (results_ct rfl _ _ gb174 26 #[.int .i64 a0_0, .int .i64 a0_1, .int .i64 a0_2, .slice Ao102 x173003_2.length co102] (0, 0) _ rfl (by (with_reducible repeat (first | refine blk_drewN ?_ _ | refine blk_drew ?_ | refine blk_alloc ?_ _)); refine blk_put (cs := #[.int .i64 a0_0, .int .i64 a0_1, .int .i64 a0_2, .slice none 0 0]) ?_ 3 _ rfl; (with_reducible repeat (first | refine blk_drewN ?_ _ | refine blk_drew ?_ | refine blk_alloc ?_ _)); refine blk_put (cs := #[.int .i64 a0_0, .int .i64 a0_1, .int .i64 0, .slice none 0 0]) ?_ 2 _ rfl; (with_reducible repeat (first | refine blk_drewN ?_ _ | refine blk_drew ?_ | refine blk_alloc ?_ _)); refine blk_put (cs := #[.int .i64 a0_0, .int .i64 0, .int .i64 0, .slice none 0 0]) ?_ 1 _ rfl; (with_reducible repeat (first | refine blk_drewN ?_ _ | refine blk_drew ?_ | refine blk_alloc ?_ _)); refine blk_put (cs := #[.int .i64 0, .int .i64 0, .int .i64 0, .slice none 0 0]) ?_ 0 _ rfl; (with_reducible repeat (first | refine blk_drewN ?_ _ | refine blk_drew ?_ | refine blk_alloc ?_ _)); exact BK174.out) Try.underlying26 rfl (by kernel_rfl)) rfl ?_; exact ⟨_, q224_, by (with_reducible repeat (first | apply Kd.R_alloc | apply Kd.R_drewN | apply Kd.R_drew)); exact Kd.R_mono (Kd.R_far (p := ⟨gb174, 3, none⟩) (Kd.R_far (p := ⟨gb174, 2, none⟩) (Kd.R_far (p := ⟨gb174, 1, none⟩) (Kd.R_far (p := ⟨gb174, 0, none⟩) (Kd.R_types HO_173003.out BK174.out (by decide)) (fun _ hk => hk.2) (.int .i64 a0_0)) (fun _ hk => hk.2) (.int .i64 a0_1)) (fun _ hk => hk.2) (.int .i64 a0_2)) (fun _ hk => hk.2) (.slice Ao102 x173003_2.length co102)) (fun _ hk => trivial), q76_⟩

end Go.Proofs.Ytgkccacenlcebaa.PPlaneCrops

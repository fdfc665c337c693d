-- Written by a program of the session (wip/tools/myprint.py) over the kit's printer; checked by Lean.
import Derived.Test.YtikpmojofdndnaaPGridPartitionx0
import Derived.Test.YtikpmojofdndnaaPGridPartitionx2
import Derived.Test.YtikpmojofdndnaaPGridPartitionx4
namespace Go.Proofs.Ytikpmojofdndnaa.PGridPartition
open Go.RowKit Go.Proofs.YtikpmojofdndnaaW.PrintWords Go.Proofs.YtikpmojofdndnaaW.PrintLast Go.Proofs.YtikpmojofdndnaaW.PrintMore
attribute [local go_sem] max2_int min2_int max_two min_two max_three min_three max_four min_four   -- for this text's walks alone
set_option linter.unusedVariables false
set_option linter.unusedSimpArgs false

/-! ### tilefarmlaw5_GridPartition: function 5 -/
mutual
def tilefarmlaw5_GridPartition.l0 : Nat → Int → Int → Int → Int → Int → Int → Int → Int → Int → Bool → Int → Int → Int → Option (Bool)
  | 0, _, _, _, _, _, _, _, _, _, _, _, _, _ => none
  | k + 1, x11, x12, x13, x14, x15, x16, x17, x18, x19, x20, x21, x22, x23 => if x23 < (wrap64 (x17 * x18)) then ((grid_Tile.f k x11 x12 x13 x14 x23).bind fun bt177 => (if bt177.2.2.2.2 = true then ((tilefarmref2_Inside.f bt177.1 bt177.2.1 bt177.2.2.1 bt177.2.2.2.1 0 0 x11 x12).bind fun t183 => (if t183 = true then (if (wrap64 (bt177.2.2.1 - bt177.1)) > x13 then (tilefarmlaw5_GridPartition.j1 k x11 x12 x13 x14 x15 x16 x17 x18 x19 x20 x21 x22 x23 true bt177.1 bt177.2.1 bt177.2.2.1 bt177.2.2.2.1) else (tilefarmlaw5_GridPartition.j1 k x11 x12 x13 x14 x15 x16 x17 x18 x19 x20 x21 x22 x23 (decide ((wrap64 (bt177.2.2.2.1 - bt177.2.1)) > x14)) bt177.1 bt177.2.1 bt177.2.2.1 bt177.2.2.2.1)) else (tilefarmlaw5_GridPartition.j1 k x11 x12 x13 x14 x15 x16 x17 x18 x19 x20 x21 x22 x23 true bt177.1 bt177.2.1 bt177.2.2.1 bt177.2.2.2.1))) else (tilefarmlaw5_GridPartition.j1 k x11 x12 x13 x14 x15 x16 x17 x18 x19 x20 x21 x22 x23 true bt177.1 bt177.2.1 bt177.2.2.1 bt177.2.2.2.1))) else (if x20 = true then (if x22 = 1 then (if x21 = (wrap64 (x11 * x12)) then ((tilefarmlaw5_sane.f k).bind fun t176 => (some t176)) else (some false)) else (some false)) else (some false))
def tilefarmlaw5_GridPartition.j1 : Nat → Int → Int → Int → Int → Int → Int → Int → Int → Int → Bool → Int → Int → Int → Bool → Int → Int → Int → Int → Option (Bool)
  | 0, _, _, _, _, _, _, _, _, _, _, _, _, _, _, _, _, _, _ => none
  | k + 1, x11, x12, x13, x14, x15, x16, x17, x18, x19, x20, x21, x22, x23, x113, x183000, x183001, x183002, x183003 => if x113 = true then (some false) else ((tilefarmref2_Area.f x183000 x183001 x183002 x183003).bind fun t184 => ((tilefarmref2_Contains.f x183000 x183001 x183002 x183003 x15 x16).bind fun t185 => (if t185 = true then (if x23 = x19 then (tilefarmlaw5_GridPartition.l0 k x11 x12 x13 x14 x15 x16 x17 x18 x19 x20 (wrap64 (x21 + t184)) (wrap64 (x22 + 1)) (wrap64 (x23 + 1))) else (some false)) else (tilefarmlaw5_GridPartition.l0 k x11 x12 x13 x14 x15 x16 x17 x18 x19 x20 (wrap64 (x21 + t184)) x22 (wrap64 (x23 + 1))))))
end
def tilefarmlaw5_GridPartition.f (k : Nat) (a0 : Int) (a1 : Int) (a2 : Int) (a3 : Int) (a4 : Int) : Option (Bool) := (tilefarmgen_Mod.f a0 30).bind fun t166 => ((tilefarmgen_Mod.f a1 30).bind fun t167 => ((tilefarmgen_Mod.f a2 9).bind fun t168 => ((tilefarmgen_Mod.f a3 9).bind fun t169 => ((tilefarmgen_Mod.f a4 (wrap64 ((wrap64 (1 + t166)) * (wrap64 (1 + t167))))).bind fun t170 => (if (wrap64 (1 + t166)) = 0 then (none) else ((tilefarmgen_Mod.f a4 (wrap64 ((wrap64 (1 + t166)) * (wrap64 (1 + t167))))).bind fun t171 => ((grid_Count.f k (wrap64 (1 + t166)) (wrap64 (1 + t167)) (wrap64 (1 + t168)) (wrap64 (1 + t169))).bind fun bt172 => ((grid_Of.f k (wrap64 (1 + t166)) (wrap64 (1 + t167)) (wrap64 (1 + t168)) (wrap64 (1 + t169)) (Int.tmod t170 (wrap64 (1 + t166))) (wrap64 (Int.tdiv t171 (wrap64 (1 + t166))))).bind fun bt174 => (tilefarmlaw5_GridPartition.l0 k (wrap64 (1 + t166)) (wrap64 (1 + t167)) (wrap64 (1 + t168)) (wrap64 (1 + t169)) (Int.tmod t170 (wrap64 (1 + t166))) (wrap64 (Int.tdiv t171 (wrap64 (1 + t166)))) bt172.1 bt172.2 bt174.1 bt174.2 0 0 0)))))))))
theorem tilefarmlaw5_GridPartition.mono_l : ∀ k, (∀ y0 y1 y2 y3 y4 y5 y6 y7 y8 y9 y10 y11 y12, LeO (tilefarmlaw5_GridPartition.l0 k y0 y1 y2 y3 y4 y5 y6 y7 y8 y9 y10 y11 y12) (tilefarmlaw5_GridPartition.l0 (k + 1) y0 y1 y2 y3 y4 y5 y6 y7 y8 y9 y10 y11 y12)) ∧ (∀ y0 y1 y2 y3 y4 y5 y6 y7 y8 y9 y10 y11 y12 y13 y14 y15 y16 y17, LeO (tilefarmlaw5_GridPartition.j1 k y0 y1 y2 y3 y4 y5 y6 y7 y8 y9 y10 y11 y12 y13 y14 y15 y16 y17) (tilefarmlaw5_GridPartition.j1 (k + 1) y0 y1 y2 y3 y4 y5 y6 y7 y8 y9 y10 y11 y12 y13 y14 y15 y16 y17))
  | 0 => ⟨fun _ _ _ _ _ _ _ _ _ _ _ _ _ r h => by simp [tilefarmlaw5_GridPartition.l0] at h, fun _ _ _ _ _ _ _ _ _ _ _ _ _ _ _ _ _ _ r h => by simp [tilefarmlaw5_GridPartition.j1] at h⟩
  | k + 1 => by
    obtain ⟨ih0, ih1⟩ := tilefarmlaw5_GridPartition.mono_l k
    refine ⟨?_, ?_⟩
    · intro y0 y1 y2 y3 y4 y5 y6 y7 y8 y9 y10 y11 y12
      unfold tilefarmlaw5_GridPartition.l0
      repeat' first
      | (with_reducible exact ih0 _ _ _ _ _ _ _ _ _ _ _ _ _)
      | (with_reducible exact ih1 _ _ _ _ _ _ _ _ _ _ _ _ _ _ _ _ _ _)
      | (with_reducible exact grid_Count.mono _ _ _ _ _)
      | (with_reducible exact grid_Of.mono _ _ _ _ _ _ _)
      | (with_reducible exact grid_Tile.mono _ _ _ _ _ _)
      | (with_reducible exact tilefarmlaw5_sane.mono _)
      | (with_reducible exact LeO.refl _)
      | (with_reducible exact LeO.none _)
      | (with_reducible refine LeO.ite ?_ ?_)
      | (with_reducible refine LeO.bind ?_ (fun _ => ?_))
      | exact ih0 _ _ _ _ _ _ _ _ _ _ _ _ _
      | exact ih1 _ _ _ _ _ _ _ _ _ _ _ _ _ _ _ _ _ _
      | exact grid_Count.mono _ _ _ _ _
      | exact grid_Of.mono _ _ _ _ _ _ _
      | exact grid_Tile.mono _ _ _ _ _ _
      | exact tilefarmlaw5_sane.mono _
      | exact LeO.none _
      | refine LeO.ite ?_ ?_
      | refine LeO.bind ?_ (fun _ => ?_)
    · intro y0 y1 y2 y3 y4 y5 y6 y7 y8 y9 y10 y11 y12 y13 y14 y15 y16 y17
      unfold tilefarmlaw5_GridPartition.j1
      repeat' first
      | (with_reducible exact ih0 _ _ _ _ _ _ _ _ _ _ _ _ _)
      | (with_reducible exact ih1 _ _ _ _ _ _ _ _ _ _ _ _ _ _ _ _ _ _)
      | (with_reducible exact grid_Count.mono _ _ _ _ _)
      | (with_reducible exact grid_Of.mono _ _ _ _ _ _ _)
      | (with_reducible exact grid_Tile.mono _ _ _ _ _ _)
      | (with_reducible exact tilefarmlaw5_sane.mono _)
      | (with_reducible exact LeO.refl _)
      | (with_reducible exact LeO.none _)
      | (with_reducible refine LeO.ite ?_ ?_)
      | (with_reducible refine LeO.bind ?_ (fun _ => ?_))
      | exact ih0 _ _ _ _ _ _ _ _ _ _ _ _ _
      | exact ih1 _ _ _ _ _ _ _ _ _ _ _ _ _ _ _ _ _ _
      | exact grid_Count.mono _ _ _ _ _
      | exact grid_Of.mono _ _ _ _ _ _ _
      | exact grid_Tile.mono _ _ _ _ _ _
      | exact tilefarmlaw5_sane.mono _
      | exact LeO.none _
      | refine LeO.ite ?_ ?_
      | refine LeO.bind ?_ (fun _ => ?_)
theorem tilefarmlaw5_GridPartition.mono : ∀ a0 a1 a2 a3 a4 k, LeO (tilefarmlaw5_GridPartition.f k a0 a1 a2 a3 a4) (tilefarmlaw5_GridPartition.f (k + 1) a0 a1 a2 a3 a4) := by
  intro a0 a1 a2 a3 a4 k
  obtain ⟨ih0, ih1⟩ := tilefarmlaw5_GridPartition.mono_l k
  unfold tilefarmlaw5_GridPartition.f
  repeat' first
      | (with_reducible exact ih0 _ _ _ _ _ _ _ _ _ _ _ _ _)
      | (with_reducible exact ih1 _ _ _ _ _ _ _ _ _ _ _ _ _ _ _ _ _ _)
      | (with_reducible exact grid_Count.mono _ _ _ _ _)
      | (with_reducible exact grid_Of.mono _ _ _ _ _ _ _)
      | (with_reducible exact grid_Tile.mono _ _ _ _ _ _)
      | (with_reducible exact tilefarmlaw5_sane.mono _)
      | (with_reducible exact LeO.refl _)
      | (with_reducible exact LeO.none _)
      | (with_reducible refine LeO.ite ?_ ?_)
      | (with_reducible refine LeO.bind ?_ (fun _ => ?_))
      | exact ih0 _ _ _ _ _ _ _ _ _ _ _ _ _
      | exact ih1 _ _ _ _ _ _ _ _ _ _ _ _ _ _ _ _ _ _
      | exact grid_Count.mono _ _ _ _ _
      | exact grid_Of.mono _ _ _ _ _ _ _
      | exact grid_Tile.mono _ _ _ _ _ _
      | exact tilefarmlaw5_sane.mono _
      | exact LeO.none _
      | refine LeO.ite ?_ ?_
      | refine LeO.bind ?_ (fun _ => ?_)
def tilefarmlaw5_GridPartition.T2 : Bool × List (List Nat × List Nat) := (true, [([], []), ([], []), ([], []), ([1, 2], [1, 2]), ([0, 3], [0, 3]), ([], []), ([4, 5], [4, 5]), ([], []), ([], []), ([], []), ([8, 9], [8, 9]), ([7, 10, 4], [7, 10]), ([], []), ([11, 12], [11, 12]), ([6, 11, 0, 1, 2, 3, 4, 5, 6], [6]), ([13, 14, 0, 1, 2, 3, 4, 5, 6, 7, 8, 9, 10, 11, 12, 13, 14], [13])])
def tilefarmlaw5_GridPartition.B2 : List Nat := [0, 0, 0, 6, 15, 0, 63, 0, 0, 0, 768, 1951, 0, 8095, 4095, 32767]
theorem tilefarmlaw5_GridPartition.tab2 : rtab .any (opsOf Try.f5 2) = tilefarmlaw5_GridPartition.T2 := by kernel_rfl
theorem tilefarmlaw5_GridPartition.bits2 : waitsOk tilefarmlaw5_GridPartition.T2.2 tilefarmlaw5_GridPartition.B2 = true := by kernel_rfl
set_option maxHeartbeats 8000000 in
set_option maxRecDepth 100000 in
theorem tilefarmlaw5_GridPartition.calls (k : Nat) (a0 : Int) (a1 : Int) (a2 : Int) (a3 : Int) (a4 : Int) (r : Bool) (w : World) (h : tilefarmlaw5_GridPartition.f k a0 a1 a2 a3 a4 = some r) (hT : r = true := by first | rfl | assumption) :
    Calls Try.prog 5 #[.int .i64 a0, .int .i64 a1, .int .i64 a2, .int .i64 a3, .int .i64 a4] w fun e w' => e = .returned (.bool r) ∧ Below w.heap.size w w' := by
  have HT := Aside0.mk hT
  clear hT
  have hu31 := Try.underlying31
  have HB := Aside0.mk (Below.refl w.heap.size w)
  have H : ((tilefarmgen_Mod.f a0 30).bind fun t166 => ((tilefarmgen_Mod.f a1 30).bind fun t167 => ((tilefarmgen_Mod.f a2 9).bind fun t168 => ((tilefarmgen_Mod.f a3 9).bind fun t169 => ((tilefarmgen_Mod.f a4 (wrap64 ((wrap64 (1 + t166)) * (wrap64 (1 + t167))))).bind fun t170 => (if (wrap64 (1 + t166)) = 0 then (none) else ((tilefarmgen_Mod.f a4 (wrap64 ((wrap64 (1 + t166)) * (wrap64 (1 + t167))))).bind fun t171 => ((grid_Count.f k (wrap64 (1 + t166)) (wrap64 (1 + t167)) (wrap64 (1 + t168)) (wrap64 (1 + t169))).bind fun bt172 => ((grid_Of.f k (wrap64 (1 + t166)) (wrap64 (1 + t167)) (wrap64 (1 + t168)) (wrap64 (1 + t169)) (Int.tmod t170 (wrap64 (1 + t166))) (wrap64 (Int.tdiv t171 (wrap64 (1 + t166))))).bind fun bt174 => (tilefarmlaw5_GridPartition.l0 k (wrap64 (1 + t166)) (wrap64 (1 + t167)) (wrap64 (1 + t168)) (wrap64 (1 + t169)) (Int.tmod t170 (wrap64 (1 + t166))) (wrap64 (Int.tdiv t171 (wrap64 (1 + t166)))) bt172.1 bt172.2 bt174.1 bt174.2 0 0 0)))))))))) = some r := h
  clear h
  replace H := Option.bind_eq_some_iff.mp H
  obtain ⟨t166, A60, H⟩ := H
  replace H : ((tilefarmgen_Mod.f a1 30).bind fun t167 => ((tilefarmgen_Mod.f a2 9).bind fun t168 => ((tilefarmgen_Mod.f a3 9).bind fun t169 => ((tilefarmgen_Mod.f a4 (wrap64 ((wrap64 (1 + t166)) * (wrap64 (1 + t167))))).bind fun t170 => (if (wrap64 (1 + t166)) = 0 then (none) else ((tilefarmgen_Mod.f a4 (wrap64 ((wrap64 (1 + t166)) * (wrap64 (1 + t167))))).bind fun t171 => ((grid_Count.f k (wrap64 (1 + t166)) (wrap64 (1 + t167)) (wrap64 (1 + t168)) (wrap64 (1 + t169))).bind fun bt172 => ((grid_Of.f k (wrap64 (1 + t166)) (wrap64 (1 + t167)) (wrap64 (1 + t168)) (wrap64 (1 + t169)) (Int.tmod t170 (wrap64 (1 + t166))) (wrap64 (Int.tdiv t171 (wrap64 (1 + t166))))).bind fun bt174 => (tilefarmlaw5_GridPartition.l0 k (wrap64 (1 + t166)) (wrap64 (1 + t167)) (wrap64 (1 + t168)) (wrap64 (1 + t169)) (Int.tmod t170 (wrap64 (1 + t166))) (wrap64 (Int.tdiv t171 (wrap64 (1 + t166)))) bt172.1 bt172.2 bt174.1 bt174.2 0 0 0))))))))) = some r := H
  have A6 := Aside0.mk A60
  clear A60
  replace H := Option.bind_eq_some_iff.mp H
  obtain ⟨t167, A70, H⟩ := H
  replace H : ((tilefarmgen_Mod.f a2 9).bind fun t168 => ((tilefarmgen_Mod.f a3 9).bind fun t169 => ((tilefarmgen_Mod.f a4 (wrap64 ((wrap64 (1 + t166)) * (wrap64 (1 + t167))))).bind fun t170 => (if (wrap64 (1 + t166)) = 0 then (none) else ((tilefarmgen_Mod.f a4 (wrap64 ((wrap64 (1 + t166)) * (wrap64 (1 + t167))))).bind fun t171 => ((grid_Count.f k (wrap64 (1 + t166)) (wrap64 (1 + t167)) (wrap64 (1 + t168)) (wrap64 (1 + t169))).bind fun bt172 => ((grid_Of.f k (wrap64 (1 + t166)) (wrap64 (1 + t167)) (wrap64 (1 + t168)) (wrap64 (1 + t169)) (Int.tmod t170 (wrap64 (1 + t166))) (wrap64 (Int.tdiv t171 (wrap64 (1 + t166))))).bind fun bt174 => (tilefarmlaw5_GridPartition.l0 k (wrap64 (1 + t166)) (wrap64 (1 + t167)) (wrap64 (1 + t168)) (wrap64 (1 + t169)) (Int.tmod t170 (wrap64 (1 + t166))) (wrap64 (Int.tdiv t171 (wrap64 (1 + t166)))) bt172.1 bt172.2 bt174.1 bt174.2 0 0 0)))))))) = some r := H
  have A7 := Aside0.mk A70
  clear A70
  replace H := Option.bind_eq_some_iff.mp H
  obtain ⟨t168, A80, H⟩ := H
  replace H : ((tilefarmgen_Mod.f a3 9).bind fun t169 => ((tilefarmgen_Mod.f a4 (wrap64 ((wrap64 (1 + t166)) * (wrap64 (1 + t167))))).bind fun t170 => (if (wrap64 (1 + t166)) = 0 then (none) else ((tilefarmgen_Mod.f a4 (wrap64 ((wrap64 (1 + t166)) * (wrap64 (1 + t167))))).bind fun t171 => ((grid_Count.f k (wrap64 (1 + t166)) (wrap64 (1 + t167)) (wrap64 (1 + t168)) (wrap64 (1 + t169))).bind fun bt172 => ((grid_Of.f k (wrap64 (1 + t166)) (wrap64 (1 + t167)) (wrap64 (1 + t168)) (wrap64 (1 + t169)) (Int.tmod t170 (wrap64 (1 + t166))) (wrap64 (Int.tdiv t171 (wrap64 (1 + t166))))).bind fun bt174 => (tilefarmlaw5_GridPartition.l0 k (wrap64 (1 + t166)) (wrap64 (1 + t167)) (wrap64 (1 + t168)) (wrap64 (1 + t169)) (Int.tmod t170 (wrap64 (1 + t166))) (wrap64 (Int.tdiv t171 (wrap64 (1 + t166)))) bt172.1 bt172.2 bt174.1 bt174.2 0 0 0))))))) = some r := H
  have A8 := Aside0.mk A80
  clear A80
  replace H := Option.bind_eq_some_iff.mp H
  obtain ⟨t169, A90, H⟩ := H
  replace H : ((tilefarmgen_Mod.f a4 (wrap64 ((wrap64 (1 + t166)) * (wrap64 (1 + t167))))).bind fun t170 => (if (wrap64 (1 + t166)) = 0 then (none) else ((tilefarmgen_Mod.f a4 (wrap64 ((wrap64 (1 + t166)) * (wrap64 (1 + t167))))).bind fun t171 => ((grid_Count.f k (wrap64 (1 + t166)) (wrap64 (1 + t167)) (wrap64 (1 + t168)) (wrap64 (1 + t169))).bind fun bt172 => ((grid_Of.f k (wrap64 (1 + t166)) (wrap64 (1 + t167)) (wrap64 (1 + t168)) (wrap64 (1 + t169)) (Int.tmod t170 (wrap64 (1 + t166))) (wrap64 (Int.tdiv t171 (wrap64 (1 + t166))))).bind fun bt174 => (tilefarmlaw5_GridPartition.l0 k (wrap64 (1 + t166)) (wrap64 (1 + t167)) (wrap64 (1 + t168)) (wrap64 (1 + t169)) (Int.tmod t170 (wrap64 (1 + t166))) (wrap64 (Int.tdiv t171 (wrap64 (1 + t166)))) bt172.1 bt172.2 bt174.1 bt174.2 0 0 0)))))) = some r := H
  have A9 := Aside0.mk A90
  clear A90
  replace H := Option.bind_eq_some_iff.mp H
  obtain ⟨t170, A100, H⟩ := H
  replace H : (if (wrap64 (1 + t166)) = 0 then (none) else ((tilefarmgen_Mod.f a4 (wrap64 ((wrap64 (1 + t166)) * (wrap64 (1 + t167))))).bind fun t171 => ((grid_Count.f k (wrap64 (1 + t166)) (wrap64 (1 + t167)) (wrap64 (1 + t168)) (wrap64 (1 + t169))).bind fun bt172 => ((grid_Of.f k (wrap64 (1 + t166)) (wrap64 (1 + t167)) (wrap64 (1 + t168)) (wrap64 (1 + t169)) (Int.tmod t170 (wrap64 (1 + t166))) (wrap64 (Int.tdiv t171 (wrap64 (1 + t166))))).bind fun bt174 => (tilefarmlaw5_GridPartition.l0 k (wrap64 (1 + t166)) (wrap64 (1 + t167)) (wrap64 (1 + t168)) (wrap64 (1 + t169)) (Int.tmod t170 (wrap64 (1 + t166))) (wrap64 (Int.tdiv t171 (wrap64 (1 + t166)))) bt172.1 bt172.2 bt174.1 bt174.2 0 0 0))))) = some r := H
  have A10 := Aside0.mk A100
  clear A100
  by_cases c11 : (wrap64 (1 + t166)) = 0
  · rw [if_pos c11] at H
    exact absurd H (by simp)
  · rw [if_neg c11] at H
    have c11b0 : ((wrap64 (1 + t166)) == 0) = false := beq_eq_false_iff_ne.mpr c11
    have c11b1 : ((wrap64 (1 + t166)) != 0) = true := bne_iff_ne.mpr c11
    replace H := Option.bind_eq_some_iff.mp H
    obtain ⟨t171, A120, H⟩ := H
    replace H : ((grid_Count.f k (wrap64 (1 + t166)) (wrap64 (1 + t167)) (wrap64 (1 + t168)) (wrap64 (1 + t169))).bind fun bt172 => ((grid_Of.f k (wrap64 (1 + t166)) (wrap64 (1 + t167)) (wrap64 (1 + t168)) (wrap64 (1 + t169)) (Int.tmod t170 (wrap64 (1 + t166))) (wrap64 (Int.tdiv t171 (wrap64 (1 + t166))))).bind fun bt174 => (tilefarmlaw5_GridPartition.l0 k (wrap64 (1 + t166)) (wrap64 (1 + t167)) (wrap64 (1 + t168)) (wrap64 (1 + t169)) (Int.tmod t170 (wrap64 (1 + t166))) (wrap64 (Int.tdiv t171 (wrap64 (1 + t166)))) bt172.1 bt172.2 bt174.1 bt174.2 0 0 0))) = some r := H
    have A12 := Aside0.mk A120
    clear A120
    replace H := Option.bind_eq_some_iff.mp H
    obtain ⟨⟨t172, t173⟩, A130, H⟩ := H
    replace H : ((grid_Of.f k (wrap64 (1 + t166)) (wrap64 (1 + t167)) (wrap64 (1 + t168)) (wrap64 (1 + t169)) (Int.tmod t170 (wrap64 (1 + t166))) (wrap64 (Int.tdiv t171 (wrap64 (1 + t166))))).bind fun bt174 => (tilefarmlaw5_GridPartition.l0 k (wrap64 (1 + t166)) (wrap64 (1 + t167)) (wrap64 (1 + t168)) (wrap64 (1 + t169)) (Int.tmod t170 (wrap64 (1 + t166))) (wrap64 (Int.tdiv t171 (wrap64 (1 + t166)))) t172 t173 bt174.1 bt174.2 0 0 0)) = some r := H
    have A13 := Aside0.mk A130
    clear A130
    replace H := Option.bind_eq_some_iff.mp H
    obtain ⟨⟨t174, t175⟩, A140, H⟩ := H
    replace H : (tilefarmlaw5_GridPartition.l0 k (wrap64 (1 + t166)) (wrap64 (1 + t167)) (wrap64 (1 + t168)) (wrap64 (1 + t169)) (Int.tmod t170 (wrap64 (1 + t166))) (wrap64 (Int.tdiv t171 (wrap64 (1 + t166)))) t172 t173 t174 t175 0 0 0) = some r := H
    have A14 := Aside0.mk A140
    clear A140
    have H' := Aside0.mk H
    clear H
    go_enter Try.func5, Try.ntmps5
    try go_wp2_with (first | ((with_reducible refine gate_callee (f := 7) rfl ?_); refine goesL_ (some 27) rfl rfl Try.func7 (by kernel_rfl) rfl #[.int .i64 a0, .int .i64 30] rfl (by (try simp only [List.map_toArray, List.map_cons, List.map_nil]); first | done | rfl | (simp only [List.length_drop, List.length_take]; rfl)) ?_; (with_reducible refine (tilefarmgen_Mod.calls a0 30 t166 _ A6.out).mono ?_); rintro e w' ⟨rfl, ⟨nd, rfl⟩⟩; refine ⟨_, rfl, ?_⟩) | ((with_reducible refine gate_callee (f := 7) rfl ?_); refine goesL_ (some 30) rfl rfl Try.func7 (by kernel_rfl) rfl #[.int .i64 a1, .int .i64 30] rfl (by (try simp only [List.map_toArray, List.map_cons, List.map_nil]); first | done | rfl | (simp only [List.length_drop, List.length_take]; rfl)) ?_; (with_reducible refine (tilefarmgen_Mod.calls a1 30 t167 _ A7.out).mono ?_); rintro e w' ⟨rfl, ⟨nd, rfl⟩⟩; refine ⟨_, rfl, ?_⟩) | ((with_reducible refine gate_callee (f := 7) rfl ?_); refine goesL_ (some 33) rfl rfl Try.func7 (by kernel_rfl) rfl #[.int .i64 a2, .int .i64 9] rfl (by (try simp only [List.map_toArray, List.map_cons, List.map_nil]); first | done | rfl | (simp only [List.length_drop, List.length_take]; rfl)) ?_; (with_reducible refine (tilefarmgen_Mod.calls a2 9 t168 _ A8.out).mono ?_); rintro e w' ⟨rfl, ⟨nd, rfl⟩⟩; refine ⟨_, rfl, ?_⟩) | ((with_reducible refine gate_callee (f := 7) rfl ?_); refine goesL_ (some 36) rfl rfl Try.func7 (by kernel_rfl) rfl #[.int .i64 a3, .int .i64 9] rfl (by (try simp only [List.map_toArray, List.map_cons, List.map_nil]); first | done | rfl | (simp only [List.length_drop, List.length_take]; rfl)) ?_; (with_reducible refine (tilefarmgen_Mod.calls a3 9 t169 _ A9.out).mono ?_); rintro e w' ⟨rfl, ⟨nd, rfl⟩⟩; refine ⟨_, rfl, ?_⟩))
    rw [drewN_self w]
    generalize hq_ : World.drewN w _ = w15
    have n0_ := Aside0.mk (below_at hq_ HB.out)
    clear HB hq_
    have HB := n0_
    clear n0_
    have n0_ := Aside0.mk (below_drew1 HB.out)
    clear HB
    have HB := n0_
    clear n0_
    refine start_ (n := 16) (S := fun w' => True) (ds := []) #[false, false, false, false, false, false, false, false, false, false, false, false, false, false, false, false] (by kernel_rfl) rfl rfl trivial (fun hHeld => ?_); refine with_tabW tilefarmlaw5_GridPartition.tab2 tilefarmlaw5_GridPartition.bits2 (fun HT_ HW_ => ?_)
    generalize w15.drew = w16 at HB hHeld ⊢
    refine pure_ (i := 0) (N := some 38) (v := ?_) (a' := ?_) #[true, false, false, false, false, false, false, false, false, false, false, false, false, false, false, false] rfl rfl (any_of HT_.out (by kernel_rfl)) (fun _ _ _ h => h) (Or.inl ⟨by rfl, ?_⟩) ?_ ?_
    rotate_left
    · intro w'
      go_simp
      with_reducible rfl
    rotate_left
    · simp only [Act.put, List.setIfInBounds_toArray, List.set_cons_zero, List.set_cons_succ, i64_w, i32_w]
      rfl
    refine pure_ (i := 1) (N := some 39) (v := ?_) (a' := ?_) #[true, true, false, false, false, false, false, false, false, false, false, false, false, false, false, false] rfl rfl (any_of HT_.out (by kernel_rfl)) (fun _ _ _ h => h) (Or.inl ⟨by rfl, ?_⟩) ?_ ?_
    rotate_left
    · intro w'
      go_simp
      with_reducible rfl
    rotate_left
    · simp only [Act.put, List.setIfInBounds_toArray, List.set_cons_zero, List.set_cons_succ, i64_w, i32_w]
      rfl
    refine pure_ (i := 2) (N := some 40) (v := ?_) (a' := ?_) #[true, true, true, false, false, false, false, false, false, false, false, false, false, false, false, false] rfl rfl (any_of HT_.out (by kernel_rfl)) (fun _ _ _ h => h) (Or.inl ⟨by rfl, ?_⟩) ?_ ?_
    rotate_left
    · intro w'
      go_simp
      with_reducible rfl
    rotate_left
    · simp only [Act.put, List.setIfInBounds_toArray, List.set_cons_zero, List.set_cons_succ, i64_w, i32_w]
      rfl
    refine pure_ (i := 3) (N := some 41) (v := ?_) (a' := ?_) #[true, true, true, true, false, false, false, false, false, false, false, false, false, false, false, false] rfl rfl (any_of HT_.out (by kernel_rfl)) (fun _ _ _ h => h) (Or.inl ⟨by rfl, ?_⟩) ?_ ?_
    rotate_left
    · intro w'
      go_simp
      with_reducible rfl
    rotate_left
    · simp only [Act.put, List.setIfInBounds_toArray, List.set_cons_zero, List.set_cons_succ, i64_w, i32_w]
      rfl
    refine pure_ (i := 5) (N := some 43) (v := ?_) (a' := ?_) #[true, true, true, true, false, true, false, false, false, false, false, false, false, false, false, false] rfl rfl (any_of HT_.out (by kernel_rfl)) (fun _ _ _ h => h) (Or.inl ⟨by rfl, ?_⟩) ?_ ?_
    rotate_left
    · intro w'
      go_simp
      with_reducible rfl
    rotate_left
    · simp only [Act.put, List.setIfInBounds_toArray, List.set_cons_zero, List.set_cons_succ, i64_w, i32_w]
      rfl
    refine pure_ (i := 7) (N := some 45) (v := ?_) (a' := ?_) #[true, true, true, true, false, true, false, true, false, false, false, false, false, false, false, false] rfl rfl (any_of HT_.out (by kernel_rfl)) (fun _ _ _ h => h) (Or.inl ⟨by rfl, ?_⟩) ?_ ?_
    rotate_left
    · intro w'
      go_simp
      with_reducible rfl
    rotate_left
    · simp only [Act.put, List.setIfInBounds_toArray, List.set_cons_zero, List.set_cons_succ, i64_w, i32_w]
      rfl
    refine pure_ (i := 8) (N := some 46) (v := ?_) (a' := ?_) #[true, true, true, true, false, true, false, true, true, false, false, false, false, false, false, false] rfl rfl (any_of HT_.out (by kernel_rfl)) (fun _ _ _ h => h) (Or.inl ⟨by rfl, ?_⟩) ?_ ?_
    rotate_left
    · intro w'
      go_simp
      with_reducible rfl
    rotate_left
    · simp only [Act.put, List.setIfInBounds_toArray, List.set_cons_zero, List.set_cons_succ, i64_w, i32_w]
      rfl
    refine pure_ (i := 9) (N := some 47) (v := ?_) (a' := ?_) #[true, true, true, true, false, true, false, true, true, true, false, false, false, false, false, false] rfl rfl (any_of HT_.out (by kernel_rfl)) (fun _ _ _ h => h) (Or.inl ⟨by rfl, ?_⟩) ?_ ?_
    rotate_left
    · intro w'
      go_simp
      with_reducible rfl
    rotate_left
    · simp only [Act.put, List.setIfInBounds_toArray, List.set_cons_zero, List.set_cons_succ, i64_w, i32_w]
      rfl
    refine pure_ (i := 10) (N := some 48) (v := ?_) (a' := ?_) #[true, true, true, true, false, true, false, true, true, true, true, false, false, false, false, false] rfl rfl (any_of HT_.out (by kernel_rfl)) (fun _ _ _ h => h) (Or.inl ⟨by rfl, ?_⟩) ?_ ?_
    rotate_left
    · intro w'
      go_simp
      with_reducible rfl
    rotate_left
    · simp only [Act.put, List.setIfInBounds_toArray, List.set_cons_zero, List.set_cons_succ, i64_w, i32_w]
      rfl
    refine pure_ (i := 12) (N := some 50) (v := ?_) (a' := ?_) #[true, true, true, true, false, true, false, true, true, true, true, false, true, false, false, false] rfl rfl (any_of HT_.out (by kernel_rfl)) (fun _ _ _ h => h) (Or.inl ⟨by rfl, ?_⟩) ?_ ?_
    rotate_left
    · intro w'
      go_simp
      with_reducible rfl
    rotate_left
    · simp only [Act.put, List.setIfInBounds_toArray, List.set_cons_zero, List.set_cons_succ, i64_w, i32_w]
      rfl
    refine one_ (i := 4) (N := some 42) #[true, true, true, true, true, true, false, true, true, true, true, false, true, false, false, false] rfl rfl (one_of HT_.out (by kernel_rfl)) (by decide) (fun K hK => ?_)
    refine goes_ Try.func7 (by kernel_rfl) rfl #[.int .i64 a4, .int .i64 (wrap64 ((wrap64 (1 + t166)) * (wrap64 (1 + t167))))] (by rfl) rfl rfl (by (try simp only [List.map_toArray, List.map_cons, List.map_nil]); first | done | rfl | (simp only [List.length_drop, List.length_take]; rfl)) ?_
    with_reducible refine (tilefarmgen_Mod.calls a4 (wrap64 ((wrap64 (1 + t166)) * (wrap64 (1 + t167)))) t170 _ A10.out).mono ?_
    rintro e w' ⟨rfl, ⟨nd, rfl⟩⟩
    refine ⟨_, rfl, ?_⟩
    refine hK.out _ _ trivial (fun hHeld => ?_)
    clear hK K
    refine norm_ (a' := ?_) ?_ ?_
    rotate_left
    · show Act.put _ (some 42) _ = _
      simp only [Act.put, List.setIfInBounds_toArray, List.set_cons_zero, List.set_cons_succ, i64_w, i32_w]
      rfl
    refine pure_ (i := 6) (N := some 44) (v := ?_) (a' := ?_) #[true, true, true, true, true, true, true, true, true, true, true, false, true, false, false, false] rfl rfl (any_of HT_.out (by kernel_rfl)) (fun _ _ _ h => h) (Or.inl ⟨by rfl, ?_⟩) ?_ ?_
    rotate_left
    · intro w'
      go_simp
      with_reducible rfl
    rotate_left
    · simp only [Act.put, List.setIfInBounds_toArray, List.set_cons_zero, List.set_cons_succ, i64_w, i32_w]
      rfl
    refine one_ (i := 11) (N := some 49) #[true, true, true, true, true, true, true, true, true, true, true, true, true, false, false, false] rfl rfl (one_of HT_.out (by kernel_rfl)) (by decide) (fun K hK => ?_)
    refine goes_ Try.func7 (by kernel_rfl) rfl #[.int .i64 a4, .int .i64 (wrap64 ((wrap64 (1 + t166)) * (wrap64 (1 + t167))))] (by rfl) rfl rfl (by (try simp only [List.map_toArray, List.map_cons, List.map_nil]); first | done | rfl | (simp only [List.length_drop, List.length_take]; rfl)) ?_
    with_reducible refine (tilefarmgen_Mod.calls a4 (wrap64 ((wrap64 (1 + t166)) * (wrap64 (1 + t167)))) t171 _ A12.out).mono ?_
    rintro e w' ⟨rfl, ⟨nd, rfl⟩⟩
    refine ⟨_, rfl, ?_⟩
    refine hK.out _ _ trivial (fun hHeld => ?_)
    clear hK K
    refine norm_ (a' := ?_) ?_ ?_
    rotate_left
    · show Act.put _ (some 49) _ = _
      simp only [Act.put, List.setIfInBounds_toArray, List.set_cons_zero, List.set_cons_succ, i64_w, i32_w]
      rfl
    refine pure_ (i := 13) (N := some 51) (v := ?_) (a' := ?_) #[true, true, true, true, true, true, true, true, true, true, true, true, true, true, false, false] rfl rfl (any_of HT_.out (by kernel_rfl)) (fun _ _ _ h => h) (Or.inl ⟨by rfl, ?_⟩) ?_ ?_
    rotate_left
    · intro w'
      go_simp
      with_reducible rfl
    rotate_left
    · simp only [Act.put, List.setIfInBounds_toArray, List.set_cons_zero, List.set_cons_succ, i64_w, i32_w]
      rfl
    refine pure_ (i := 14) (N := some 15) (v := ?_) (a' := ?_) #[true, true, true, true, true, true, true, true, true, true, true, true, true, true, true, false] rfl rfl (any_of HT_.out (by kernel_rfl)) (fun _ _ _ h => h) (Or.inl ⟨by rfl, ?_⟩) ?_ ?_
    rotate_left
    · intro w'
      go_simp
      with_reducible rfl
    rotate_left
    · simp only [Act.put, List.setIfInBounds_toArray, List.set_cons_zero, List.set_cons_succ, i64_w, i32_w]
      rfl
    refine pure_ (i := 15) (N := some 16) (v := ?_) (a' := ?_) #[true, true, true, true, true, true, true, true, true, true, true, true, true, true, true, true] rfl rfl (any_of HT_.out (by kernel_rfl)) (fun _ _ _ h => h) (Or.inl ⟨by rfl, ?_⟩) ?_ ?_
    rotate_left
    · intro w'
      go_simp
      with_reducible rfl
    rotate_left
    · simp only [Act.put, List.setIfInBounds_toArray, List.set_cons_zero, List.set_cons_succ, i64_w, i32_w]
      rfl
    refine done_ (done_of HT_.out (by kernel_rfl)) ?_
    try go_wp2_with (first | ((with_reducible refine gate_callee (f := 9) rfl ?_); refine goesL_ (some 57) rfl rfl Try.func9 (by kernel_rfl) rfl #[.int .i64 (wrap64 (1 + t166)), .int .i64 (wrap64 (1 + t167)), .int .i64 (wrap64 (1 + t168)), .int .i64 (wrap64 (1 + t169))] rfl (by (try simp only [List.map_toArray, List.map_cons, List.map_nil]); first | done | rfl | (simp only [List.length_drop, List.length_take]; rfl)) ?_; (with_reducible refine (grid_Count.calls k (wrap64 (1 + t166)) (wrap64 (1 + t167)) (wrap64 (1 + t168)) (wrap64 (1 + t169)) t172 t173 _ A13.out).mono ?_); rintro e w' ⟨rfl, ⟨nd, rfl⟩⟩; refine ⟨_, rfl, ?_⟩) | ((with_reducible refine gate_callee (f := 8) rfl ?_); refine goesL_ (some 67) rfl rfl Try.func8 (by kernel_rfl) rfl #[.int .i64 (wrap64 (1 + t166)), .int .i64 (wrap64 (1 + t167)), .int .i64 (wrap64 (1 + t168)), .int .i64 (wrap64 (1 + t169)), .int .i64 (Int.tmod t170 (wrap64 (1 + t166))), .int .i64 (wrap64 (Int.tdiv t171 (wrap64 (1 + t166))))] rfl (by (try simp only [List.map_toArray, List.map_cons, List.map_nil]); first | done | rfl | (simp only [List.length_drop, List.length_take]; rfl)) ?_; (with_reducible refine (grid_Of.calls k (wrap64 (1 + t166)) (wrap64 (1 + t167)) (wrap64 (1 + t168)) (wrap64 (1 + t169)) (Int.tmod t170 (wrap64 (1 + t166))) (wrap64 (Int.tdiv t171 (wrap64 (1 + t166)))) t174 t175 _ A14.out).mono ?_); rintro e w' ⟨rfl, ⟨nd, rfl⟩⟩; refine ⟨_, rfl, ?_⟩))
    go_loopg [21, 22, 23] k (fun kq v21 v22 v23 w' => ∃ (x21_1 : Int) (x22_1 : Int) (x23_1 : Int), v21 = .int .i64 x21_1 ∧ v22 = .int .i64 x22_1 ∧ v23 = .int .i64 x23_1 ∧ Aside0 (tilefarmlaw5_GridPartition.l0 kq (wrap64 (1 + t166)) (wrap64 (1 + t167)) (wrap64 (1 + t168)) (wrap64 (1 + t169)) (Int.tmod t170 (wrap64 (1 + t166))) (wrap64 (Int.tdiv t171 (wrap64 (1 + t166)))) t172 t173 t174 t175 x21_1 x22_1 x23_1 = some r) ∧ Aside0 (kq ≤ k) ∧ Aside0 (Below w.heap.size w w'))
    case atStart => exact ⟨(0), (0), (0), (by first | rfl | (simp; done) | (simp [*]; done)), (by first | rfl | (simp; done) | (simp [*]; done)), (by first | rfl | (simp; done) | (simp [*]; done)), H', ⟨Nat.le_refl _⟩, ⟨by repeat (first | (with_reducible first | exact HB.out | apply below_alloc | apply pw_below_drewN | apply below_drew1) | exact HB.out)⟩⟩
    case round =>
      clear H'
      try clear c1
      try clear p2
      try clear c5
      try clear p6
      try clear c7
      try clear c8
      try clear c9
      try clear c11
      try clear c11b0
      try clear c11b1
      obtain ⟨x21_1, x22_1, x23_1, rfl, rfl, rfl, HA, HK1, HB⟩ := hrel
      cases gk with
      | zero => exact absurd HA.out (by simp [tilefarmlaw5_GridPartition.l0])
      | succ k1 =>
        have H := HA.out
        clear HA
        simp only [tilefarmlaw5_GridPartition.l0] at H
        by_cases c17 : x23_1 < (wrap64 (t172 * t173))
        · rw [if_pos c17] at H
          have c17b0 : decide (x23_1 < (wrap64 (t172 * t173))) = true := decide_eq_true c17
          clear c17
          replace H := Option.bind_eq_some_iff.mp H
          obtain ⟨⟨t177, t178, t179, t180, t181⟩, A180, H⟩ := H
          replace H : (if t181 = true then ((tilefarmref2_Inside.f t177 t178 t179 t180 0 0 (wrap64 (1 + t166)) (wrap64 (1 + t167))).bind fun t183 => (if t183 = true then (if (wrap64 (t179 - t177)) > (wrap64 (1 + t168)) then (tilefarmlaw5_GridPartition.j1 k1 (wrap64 (1 + t166)) (wrap64 (1 + t167)) (wrap64 (1 + t168)) (wrap64 (1 + t169)) (Int.tmod t170 (wrap64 (1 + t166))) (wrap64 (Int.tdiv t171 (wrap64 (1 + t166)))) t172 t173 t174 t175 x21_1 x22_1 x23_1 true t177 t178 t179 t180) else (tilefarmlaw5_GridPartition.j1 k1 (wrap64 (1 + t166)) (wrap64 (1 + t167)) (wrap64 (1 + t168)) (wrap64 (1 + t169)) (Int.tmod t170 (wrap64 (1 + t166))) (wrap64 (Int.tdiv t171 (wrap64 (1 + t166)))) t172 t173 t174 t175 x21_1 x22_1 x23_1 (decide ((wrap64 (t180 - t178)) > (wrap64 (1 + t169)))) t177 t178 t179 t180)) else (tilefarmlaw5_GridPartition.j1 k1 (wrap64 (1 + t166)) (wrap64 (1 + t167)) (wrap64 (1 + t168)) (wrap64 (1 + t169)) (Int.tmod t170 (wrap64 (1 + t166))) (wrap64 (Int.tdiv t171 (wrap64 (1 + t166)))) t172 t173 t174 t175 x21_1 x22_1 x23_1 true t177 t178 t179 t180))) else (tilefarmlaw5_GridPartition.j1 k1 (wrap64 (1 + t166)) (wrap64 (1 + t167)) (wrap64 (1 + t168)) (wrap64 (1 + t169)) (Int.tmod t170 (wrap64 (1 + t166))) (wrap64 (Int.tdiv t171 (wrap64 (1 + t166)))) t172 t173 t174 t175 x21_1 x22_1 x23_1 true t177 t178 t179 t180)) = some r := H
          have A18 := Aside0.mk A180
          clear A180
          have HC19 := Aside0.mk H
          clear H
          go_upto_region 10 with (first | ((with_reducible refine gate_callee (f := 15) rfl ?_); refine goesL_ (some 83) rfl rfl Try.func15 (by kernel_rfl) rfl #[.int .i64 (wrap64 (1 + t166)), .int .i64 (wrap64 (1 + t167)), .int .i64 (wrap64 (1 + t168)), .int .i64 (wrap64 (1 + t169)), .int .i64 x23_1] rfl (by (try simp only [List.map_toArray, List.map_cons, List.map_nil]); first | done | rfl | (simp only [List.length_drop, List.length_take]; rfl)) ?_; (with_reducible refine (grid_Tile.calls k1 (wrap64 (1 + t166)) (wrap64 (1 + t167)) (wrap64 (1 + t168)) (wrap64 (1 + t169)) x23_1 t177 t178 t179 t180 t181 _ A18.out).mono ?_); rintro e w20 ⟨rfl, hb⟩; refine ⟨_, rfl, ?_⟩; have n0_ := Aside0.mk (below_step (by repeat (first | (with_reducible first | exact HB.out | apply below_alloc | apply pw_below_drewN | apply below_drew1) | exact HB.out)) hb); clear HB; have HB := n0_; clear n0_; (try clear hb); (try clear hb2); (try clear hk); (try clear hi)) | ((with_reducible refine gate_dst (N := 24) rfl ?_); refine box_event ?hg (N := 24) ?hd (cs := #[.int .i64 0, .int .i64 0, .int .i64 0, .int .i64 0]) (t := 31) ?hr ?_; (case hd => rfl); (case hg => rfl); (case hr => first | (go_simp; done) | (go_simp; rfl)); intro gb182 hg w21 hbox hb; have n0_ := Aside0.mk (below_step (by repeat (first | (with_reducible first | exact HB.out | apply below_alloc | apply pw_below_drewN | apply below_drew1) | exact HB.out)) hb); have n1_ := Aside0.mk (hbox); have n2_ := Aside0.mk ((by rw [hg]; exact (below_size (by repeat (first | (with_reducible first | exact HB.out | apply below_alloc | apply pw_below_drewN | apply below_drew1) | exact HB.out))) : w.heap.size ≤ gb182)); have n3_ := Aside0.mk ((by rw [hg]; exact (below_size (by repeat (first | (with_reducible first | exact HB.out | apply below_alloc | apply pw_below_drewN | apply below_drew1) | exact HB.out))) : w.heap.size ≤ gb182)); clear HB; have HB := n0_; have BK182 := n1_; have GW182 := n2_; have GE182 := n3_; clear n0_ n1_ n2_ n3_; clear hb hbox hg; have hcz22_0 : w21.cell? ⟨gb182, 0, none⟩ = some (.int .i64 0) := (blk_cell BK182.out 0).trans rfl; have hcz22_1 : w21.cell? ⟨gb182, 1, none⟩ = some (.int .i64 0) := (blk_cell BK182.out 1).trans rfl; have hcz22_2 : w21.cell? ⟨gb182, 2, none⟩ = some (.int .i64 0) := (blk_cell BK182.out 2).trans rfl; have hcz22_3 : w21.cell? ⟨gb182, 3, none⟩ = some (.int .i64 0) := (blk_cell BK182.out 3).trans rfl; have hfz22_0 := blk_frozen BK182.out 0; have hfz22_1 := blk_frozen BK182.out 1; have hfz22_2 := blk_frozen BK182.out 2; have hfz22_3 := blk_frozen BK182.out 3))
          (try simp only [Act.put, List.setIfInBounds_toArray, List.set_cons_zero, List.set_cons_succ])
          go_cut [113] (fun v113 wc => ∃ (kq : Nat) (x113_18 : Bool), v113 = .bool x113_18 ∧ Aside0 (tilefarmlaw5_GridPartition.j1 kq (wrap64 (1 + t166)) (wrap64 (1 + t167)) (wrap64 (1 + t168)) (wrap64 (1 + t169)) (Int.tmod t170 (wrap64 (1 + t166))) (wrap64 (Int.tdiv t171 (wrap64 (1 + t166)))) t172 t173 t174 t175 x21_1 x22_1 x23_1 x113_18 t177 t178 t179 t180 = some r) ∧ Aside0 (kq ≤ k1) ∧ Aside0 (wc.heap[gb182]? = some (.cells #[.int .i64 t177, .int .i64 t178, .int .i64 t179, .int .i64 t180] 31 (0, 0))) ∧ Aside0 (Below w.heap.size w wc))
          case first =>
            have H := HC19.out
            clear HC19
            by_cases c23 : t181 = true
            · subst c23
              have H1 : ((tilefarmref2_Inside.f t177 t178 t179 t180 0 0 (wrap64 (1 + t166)) (wrap64 (1 + t167))).bind fun t183 => (if t183 = true then (if (wrap64 (t179 - t177)) > (wrap64 (1 + t168)) then (tilefarmlaw5_GridPartition.j1 k1 (wrap64 (1 + t166)) (wrap64 (1 + t167)) (wrap64 (1 + t168)) (wrap64 (1 + t169)) (Int.tmod t170 (wrap64 (1 + t166))) (wrap64 (Int.tdiv t171 (wrap64 (1 + t166)))) t172 t173 t174 t175 x21_1 x22_1 x23_1 true t177 t178 t179 t180) else (tilefarmlaw5_GridPartition.j1 k1 (wrap64 (1 + t166)) (wrap64 (1 + t167)) (wrap64 (1 + t168)) (wrap64 (1 + t169)) (Int.tmod t170 (wrap64 (1 + t166))) (wrap64 (Int.tdiv t171 (wrap64 (1 + t166)))) t172 t173 t174 t175 x21_1 x22_1 x23_1 (decide ((wrap64 (t180 - t178)) > (wrap64 (1 + t169)))) t177 t178 t179 t180)) else (tilefarmlaw5_GridPartition.j1 k1 (wrap64 (1 + t166)) (wrap64 (1 + t167)) (wrap64 (1 + t168)) (wrap64 (1 + t169)) (Int.tmod t170 (wrap64 (1 + t166))) (wrap64 (Int.tdiv t171 (wrap64 (1 + t166)))) t172 t173 t174 t175 x21_1 x22_1 x23_1 true t177 t178 t179 t180))) = some r := by rw [if_pos rfl] at H; exact H
              clear H
              have H := H1
              clear H1
              replace H := Option.bind_eq_some_iff.mp H
              obtain ⟨t183, A240, H⟩ := H
              replace H : (if t183 = true then (if (wrap64 (t179 - t177)) > (wrap64 (1 + t168)) then (tilefarmlaw5_GridPartition.j1 k1 (wrap64 (1 + t166)) (wrap64 (1 + t167)) (wrap64 (1 + t168)) (wrap64 (1 + t169)) (Int.tmod t170 (wrap64 (1 + t166))) (wrap64 (Int.tdiv t171 (wrap64 (1 + t166)))) t172 t173 t174 t175 x21_1 x22_1 x23_1 true t177 t178 t179 t180) else (tilefarmlaw5_GridPartition.j1 k1 (wrap64 (1 + t166)) (wrap64 (1 + t167)) (wrap64 (1 + t168)) (wrap64 (1 + t169)) (Int.tmod t170 (wrap64 (1 + t166))) (wrap64 (Int.tdiv t171 (wrap64 (1 + t166)))) t172 t173 t174 t175 x21_1 x22_1 x23_1 (decide ((wrap64 (t180 - t178)) > (wrap64 (1 + t169)))) t177 t178 t179 t180)) else (tilefarmlaw5_GridPartition.j1 k1 (wrap64 (1 + t166)) (wrap64 (1 + t167)) (wrap64 (1 + t168)) (wrap64 (1 + t169)) (Int.tmod t170 (wrap64 (1 + t166))) (wrap64 (Int.tdiv t171 (wrap64 (1 + t166)))) t172 t173 t174 t175 x21_1 x22_1 x23_1 true t177 t178 t179 t180)) = some r := H
              have A24 := Aside0.mk A240
              clear A240
              by_cases c25 : t183 = true
              · subst c25
                have H1 : (if (wrap64 (t179 - t177)) > (wrap64 (1 + t168)) then (tilefarmlaw5_GridPartition.j1 k1 (wrap64 (1 + t166)) (wrap64 (1 + t167)) (wrap64 (1 + t168)) (wrap64 (1 + t169)) (Int.tmod t170 (wrap64 (1 + t166))) (wrap64 (Int.tdiv t171 (wrap64 (1 + t166)))) t172 t173 t174 t175 x21_1 x22_1 x23_1 true t177 t178 t179 t180) else (tilefarmlaw5_GridPartition.j1 k1 (wrap64 (1 + t166)) (wrap64 (1 + t167)) (wrap64 (1 + t168)) (wrap64 (1 + t169)) (Int.tmod t170 (wrap64 (1 + t166))) (wrap64 (Int.tdiv t171 (wrap64 (1 + t166)))) t172 t173 t174 t175 x21_1 x22_1 x23_1 (decide ((wrap64 (t180 - t178)) > (wrap64 (1 + t169)))) t177 t178 t179 t180)) = some r := by rw [if_pos rfl] at H; exact H
                clear H
                have H := H1
                clear H1
                by_cases c26 : (wrap64 (t179 - t177)) > (wrap64 (1 + t168))
                · rw [if_pos c26] at H
                  have c26b0 : decide ((wrap64 (1 + t168)) < (wrap64 (t179 - t177))) = true := decide_eq_true c26
                  clear c26
                  (first | rw [c26b0] | (simp only [i64_w, i32_w]; rw [c26b0]) | skip)
                  have H' := Aside0.mk H
                  clear H
                  have hcz27_0 : w21.cell? ⟨gb182, 0, none⟩ = some (.int .i64 0) := (blk_cell BK182.out 0).trans rfl
                  have hcz27_1 : w21.cell? ⟨gb182, 1, none⟩ = some (.int .i64 0) := (blk_cell BK182.out 1).trans rfl
                  have hcz27_2 : w21.cell? ⟨gb182, 2, none⟩ = some (.int .i64 0) := (blk_cell BK182.out 2).trans rfl
                  have hcz27_3 : w21.cell? ⟨gb182, 3, none⟩ = some (.int .i64 0) := (blk_cell BK182.out 3).trans rfl
                  have hfz27_0 := blk_frozen BK182.out 0
                  have hfz27_1 := blk_frozen BK182.out 1
                  have hfz27_2 := blk_frozen BK182.out 2
                  have hfz27_3 := blk_frozen BK182.out 3
                  go_wp2_with (first | (go_at_call 16; (with_reducible refine (tilefarmref2_Inside.calls t177 t178 t179 t180 0 0 (wrap64 (1 + t166)) (wrap64 (1 + t167)) true _ A24.out).mono ?_); rintro e w28 ⟨rfl, hb⟩; have n0_ := Aside0.mk (blk_below (g := gb182) (o := .cells #[.int .i64 t177, .int .i64 t178, .int .i64 t179, .int .i64 t180] 31 (0, 0)) (by (with_reducible repeat (first | refine blk_drewN ?_ _ | refine blk_drew ?_ | refine blk_alloc ?_ _)); refine blk_put (cs := #[.int .i64 t177, .int .i64 t178, .int .i64 t179, .int .i64 0]) ?_ 3 _ rfl; (with_reducible repeat (first | refine blk_drewN ?_ _ | refine blk_drew ?_ | refine blk_alloc ?_ _)); refine blk_put (cs := #[.int .i64 t177, .int .i64 t178, .int .i64 0, .int .i64 0]) ?_ 2 _ rfl; (with_reducible repeat (first | refine blk_drewN ?_ _ | refine blk_drew ?_ | refine blk_alloc ?_ _)); refine blk_put (cs := #[.int .i64 t177, .int .i64 0, .int .i64 0, .int .i64 0]) ?_ 1 _ rfl; (with_reducible repeat (first | refine blk_drewN ?_ _ | refine blk_drew ?_ | refine blk_alloc ?_ _)); refine blk_put (cs := #[.int .i64 0, .int .i64 0, .int .i64 0, .int .i64 0]) ?_ 0 _ rfl; (with_reducible repeat (first | refine blk_drewN ?_ _ | refine blk_drew ?_ | refine blk_alloc ?_ _)); exact BK182.out) hb); have n1_ := Aside0.mk (below_step (by repeat (first | (with_reducible first | exact HB.out | apply below_alloc | apply pw_below_drewN | apply below_drew1 | refine below_set ?_ GE182.out) | exact HB.out)) hb); clear BK182; clear HB; have BK182 := n0_; have HB := n1_; clear n0_ n1_; (try clear hb); (try clear hb2); (try clear hk); (try clear hi); have hcz29_0 : w28.cell? ⟨gb182, 0, none⟩ = some (.int .i64 t177) := (blk_cell BK182.out 0).trans rfl; have hcz29_1 : w28.cell? ⟨gb182, 1, none⟩ = some (.int .i64 t178) := (blk_cell BK182.out 1).trans rfl; have hcz29_2 : w28.cell? ⟨gb182, 2, none⟩ = some (.int .i64 t179) := (blk_cell BK182.out 2).trans rfl; have hcz29_3 : w28.cell? ⟨gb182, 3, none⟩ = some (.int .i64 t180) := (blk_cell BK182.out 3).trans rfl; have hfz29_0 := blk_frozen BK182.out 0; have hfz29_1 := blk_frozen BK182.out 1; have hfz29_2 := blk_frozen BK182.out 2; have hfz29_3 := blk_frozen BK182.out 3))
                  go_meet
                  case rel => exact ⟨_, (true), (by first | rfl | (simp; done) | (simp [*]; done)), H', ⟨by have := HK1.out; first | omega | exact Nat.le_refl _⟩, ⟨by (with_reducible repeat (first | refine blk_drewN ?_ _ | refine blk_drew ?_ | refine blk_alloc ?_ _)); exact BK182.out⟩, ⟨by repeat (first | (with_reducible first | exact HB.out | apply below_alloc | apply pw_below_drewN | apply below_drew1 | refine below_set ?_ GE182.out) | exact HB.out)⟩⟩
                · rw [if_neg c26] at H
                  have c26b0 : decide ((wrap64 (1 + t168)) < (wrap64 (t179 - t177))) = false := decide_eq_false c26
                  clear c26
                  (first | rw [c26b0] | (simp only [i64_w, i32_w]; rw [c26b0]) | skip)
                  have H' := Aside0.mk H
                  clear H
                  have hcz30_0 : w21.cell? ⟨gb182, 0, none⟩ = some (.int .i64 0) := (blk_cell BK182.out 0).trans rfl
                  have hcz30_1 : w21.cell? ⟨gb182, 1, none⟩ = some (.int .i64 0) := (blk_cell BK182.out 1).trans rfl
                  have hcz30_2 : w21.cell? ⟨gb182, 2, none⟩ = some (.int .i64 0) := (blk_cell BK182.out 2).trans rfl
                  have hcz30_3 : w21.cell? ⟨gb182, 3, none⟩ = some (.int .i64 0) := (blk_cell BK182.out 3).trans rfl
                  have hfz30_0 := blk_frozen BK182.out 0
                  have hfz30_1 := blk_frozen BK182.out 1
                  have hfz30_2 := blk_frozen BK182.out 2
                  have hfz30_3 := blk_frozen BK182.out 3
                  go_wp2_with (first | (go_at_call 16; (with_reducible refine (tilefarmref2_Inside.calls t177 t178 t179 t180 0 0 (wrap64 (1 + t166)) (wrap64 (1 + t167)) true _ A24.out).mono ?_); rintro e w31 ⟨rfl, hb⟩; have n0_ := Aside0.mk (blk_below (g := gb182) (o := .cells #[.int .i64 t177, .int .i64 t178, .int .i64 t179, .int .i64 t180] 31 (0, 0)) (by (with_reducible repeat (first | refine blk_drewN ?_ _ | refine blk_drew ?_ | refine blk_alloc ?_ _)); refine blk_put (cs := #[.int .i64 t177, .int .i64 t178, .int .i64 t179, .int .i64 0]) ?_ 3 _ rfl; (with_reducible repeat (first | refine blk_drewN ?_ _ | refine blk_drew ?_ | refine blk_alloc ?_ _)); refine blk_put (cs := #[.int .i64 t177, .int .i64 t178, .int .i64 0, .int .i64 0]) ?_ 2 _ rfl; (with_reducible repeat (first | refine blk_drewN ?_ _ | refine blk_drew ?_ | refine blk_alloc ?_ _)); refine blk_put (cs := #[.int .i64 t177, .int .i64 0, .int .i64 0, .int .i64 0]) ?_ 1 _ rfl; (with_reducible repeat (first | refine blk_drewN ?_ _ | refine blk_drew ?_ | refine blk_alloc ?_ _)); refine blk_put (cs := #[.int .i64 0, .int .i64 0, .int .i64 0, .int .i64 0]) ?_ 0 _ rfl; (with_reducible repeat (first | refine blk_drewN ?_ _ | refine blk_drew ?_ | refine blk_alloc ?_ _)); exact BK182.out) hb); have n1_ := Aside0.mk (below_step (by repeat (first | (with_reducible first | exact HB.out | apply below_alloc | apply pw_below_drewN | apply below_drew1 | refine below_set ?_ GE182.out) | exact HB.out)) hb); clear BK182; clear HB; have BK182 := n0_; have HB := n1_; clear n0_ n1_; (try clear hb); (try clear hb2); (try clear hk); (try clear hi); have hcz32_0 : w31.cell? ⟨gb182, 0, none⟩ = some (.int .i64 t177) := (blk_cell BK182.out 0).trans rfl; have hcz32_1 : w31.cell? ⟨gb182, 1, none⟩ = some (.int .i64 t178) := (blk_cell BK182.out 1).trans rfl; have hcz32_2 : w31.cell? ⟨gb182, 2, none⟩ = some (.int .i64 t179) := (blk_cell BK182.out 2).trans rfl; have hcz32_3 : w31.cell? ⟨gb182, 3, none⟩ = some (.int .i64 t180) := (blk_cell BK182.out 3).trans rfl; have hfz32_0 := blk_frozen BK182.out 0; have hfz32_1 := blk_frozen BK182.out 1; have hfz32_2 := blk_frozen BK182.out 2; have hfz32_3 := blk_frozen BK182.out 3))
                  go_meet
                  case rel => exact ⟨_, (decide ((wrap64 (t180 - t178)) > (wrap64 (1 + t169)))), (by first | rfl | (simp; done) | (simp [*]; done)), H', ⟨by have := HK1.out; first | omega | exact Nat.le_refl _⟩, ⟨by (with_reducible repeat (first | refine blk_drewN ?_ _ | refine blk_drew ?_ | refine blk_alloc ?_ _)); exact BK182.out⟩, ⟨by repeat (first | (with_reducible first | exact HB.out | apply below_alloc | apply pw_below_drewN | apply below_drew1 | refine below_set ?_ GE182.out) | exact HB.out)⟩⟩
              · replace c25 := Bool.eq_false_iff.mpr c25
                subst c25
                have H1 : (tilefarmlaw5_GridPartition.j1 k1 (wrap64 (1 + t166)) (wrap64 (1 + t167)) (wrap64 (1 + t168)) (wrap64 (1 + t169)) (Int.tmod t170 (wrap64 (1 + t166))) (wrap64 (Int.tdiv t171 (wrap64 (1 + t166)))) t172 t173 t174 t175 x21_1 x22_1 x23_1 true t177 t178 t179 t180) = some r := by rw [if_neg (show ¬ (false = true) by decide)] at H; exact H
                clear H
                have H := H1
                clear H1
                have H' := Aside0.mk H
                clear H
                have hcz33_0 : w21.cell? ⟨gb182, 0, none⟩ = some (.int .i64 0) := (blk_cell BK182.out 0).trans rfl
                have hcz33_1 : w21.cell? ⟨gb182, 1, none⟩ = some (.int .i64 0) := (blk_cell BK182.out 1).trans rfl
                have hcz33_2 : w21.cell? ⟨gb182, 2, none⟩ = some (.int .i64 0) := (blk_cell BK182.out 2).trans rfl
                have hcz33_3 : w21.cell? ⟨gb182, 3, none⟩ = some (.int .i64 0) := (blk_cell BK182.out 3).trans rfl
                have hfz33_0 := blk_frozen BK182.out 0
                have hfz33_1 := blk_frozen BK182.out 1
                have hfz33_2 := blk_frozen BK182.out 2
                have hfz33_3 := blk_frozen BK182.out 3
                go_wp2_with (first | (go_at_call 16; (with_reducible refine (tilefarmref2_Inside.calls t177 t178 t179 t180 0 0 (wrap64 (1 + t166)) (wrap64 (1 + t167)) false _ A24.out).mono ?_); rintro e w34 ⟨rfl, hb⟩; have n0_ := Aside0.mk (blk_below (g := gb182) (o := .cells #[.int .i64 t177, .int .i64 t178, .int .i64 t179, .int .i64 t180] 31 (0, 0)) (by (with_reducible repeat (first | refine blk_drewN ?_ _ | refine blk_drew ?_ | refine blk_alloc ?_ _)); refine blk_put (cs := #[.int .i64 t177, .int .i64 t178, .int .i64 t179, .int .i64 0]) ?_ 3 _ rfl; (with_reducible repeat (first | refine blk_drewN ?_ _ | refine blk_drew ?_ | refine blk_alloc ?_ _)); refine blk_put (cs := #[.int .i64 t177, .int .i64 t178, .int .i64 0, .int .i64 0]) ?_ 2 _ rfl; (with_reducible repeat (first | refine blk_drewN ?_ _ | refine blk_drew ?_ | refine blk_alloc ?_ _)); refine blk_put (cs := #[.int .i64 t177, .int .i64 0, .int .i64 0, .int .i64 0]) ?_ 1 _ rfl; (with_reducible repeat (first | refine blk_drewN ?_ _ | refine blk_drew ?_ | refine blk_alloc ?_ _)); refine blk_put (cs := #[.int .i64 0, .int .i64 0, .int .i64 0, .int .i64 0]) ?_ 0 _ rfl; (with_reducible repeat (first | refine blk_drewN ?_ _ | refine blk_drew ?_ | refine blk_alloc ?_ _)); exact BK182.out) hb); have n1_ := Aside0.mk (below_step (by repeat (first | (with_reducible first | exact HB.out | apply below_alloc | apply pw_below_drewN | apply below_drew1 | refine below_set ?_ GE182.out) | exact HB.out)) hb); clear BK182; clear HB; have BK182 := n0_; have HB := n1_; clear n0_ n1_; (try clear hb); (try clear hb2); (try clear hk); (try clear hi)))
                go_meet
                case rel => exact ⟨_, (true), (by first | rfl | (simp; done) | (simp [*]; done)), H', ⟨by have := HK1.out; first | omega | exact Nat.le_refl _⟩, ⟨by (with_reducible repeat (first | refine blk_drewN ?_ _ | refine blk_drew ?_ | refine blk_alloc ?_ _)); exact BK182.out⟩, ⟨by repeat (first | (with_reducible first | exact HB.out | apply below_alloc | apply pw_below_drewN | apply below_drew1 | refine below_set ?_ GE182.out) | exact HB.out)⟩⟩
            · replace c23 := Bool.eq_false_iff.mpr c23
              subst c23
              have H1 : (tilefarmlaw5_GridPartition.j1 k1 (wrap64 (1 + t166)) (wrap64 (1 + t167)) (wrap64 (1 + t168)) (wrap64 (1 + t169)) (Int.tmod t170 (wrap64 (1 + t166))) (wrap64 (Int.tdiv t171 (wrap64 (1 + t166)))) t172 t173 t174 t175 x21_1 x22_1 x23_1 true t177 t178 t179 t180) = some r := by rw [if_neg (show ¬ (false = true) by decide)] at H; exact H
              clear H
              have H := H1
              clear H1
              have H' := Aside0.mk H
              clear H
              go_wp2
              go_meet
              case rel => exact ⟨_, (true), (by first | rfl | (simp; done) | (simp [*]; done)), H', ⟨by have := HK1.out; first | omega | exact Nat.le_refl _⟩, ⟨by (with_reducible repeat (first | refine blk_drewN ?_ _ | refine blk_drew ?_ | refine blk_alloc ?_ _)); refine blk_put (cs := #[.int .i64 t177, .int .i64 t178, .int .i64 t179, .int .i64 0]) ?_ 3 _ rfl; (with_reducible repeat (first | refine blk_drewN ?_ _ | refine blk_drew ?_ | refine blk_alloc ?_ _)); refine blk_put (cs := #[.int .i64 t177, .int .i64 t178, .int .i64 0, .int .i64 0]) ?_ 2 _ rfl; (with_reducible repeat (first | refine blk_drewN ?_ _ | refine blk_drew ?_ | refine blk_alloc ?_ _)); refine blk_put (cs := #[.int .i64 t177, .int .i64 0, .int .i64 0, .int .i64 0]) ?_ 1 _ rfl; (with_reducible repeat (first | refine blk_drewN ?_ _ | refine blk_drew ?_ | refine blk_alloc ?_ _)); refine blk_put (cs := #[.int .i64 0, .int .i64 0, .int .i64 0, .int .i64 0]) ?_ 0 _ rfl; (with_reducible repeat (first | refine blk_drewN ?_ _ | refine blk_drew ?_ | refine blk_alloc ?_ _)); exact BK182.out⟩, ⟨by repeat (first | (with_reducible first | exact HB.out | apply below_alloc | apply pw_below_drewN | apply below_drew1 | refine below_set ?_ GE182.out) | exact HB.out)⟩⟩
          case rest =>
            clear HC19
            try clear c1
            try clear c2
            try clear p2
            try clear c5
            try clear p6
            try clear c7
            try clear c8
            try clear c9
            try clear c11
            try clear c11b0
            try clear c11b1
            try clear c15
            try clear c17
            try clear c17b0
            try clear c23
            try clear c25
            try clear c26
            try clear c26b0
            try clear hcz22_0
            try clear hcz22_1
            try clear hcz22_2
            try clear hcz22_3
            try clear hcz27_0
            try clear hcz27_1
            try clear hcz27_2
            try clear hcz27_3
            try clear hcz29_0
            try clear hcz29_1
            try clear hcz29_2
            try clear hcz29_3
            try clear hcz30_0
            try clear hcz30_1
            try clear hcz30_2
            try clear hcz30_3
            try clear hcz32_0
            try clear hcz32_1
            try clear hcz32_2
            try clear hcz32_3
            try clear hcz33_0
            try clear hcz33_1
            try clear hcz33_2
            try clear hcz33_3
            try clear hfz22_0
            try clear hfz22_1
            try clear hfz22_2
            try clear hfz22_3
            try clear hfz27_0
            try clear hfz27_1
            try clear hfz27_2
            try clear hfz27_3
            try clear hfz29_0
            try clear hfz29_1
            try clear hfz29_2
            try clear hfz29_3
            try clear hfz30_0
            try clear hfz30_1
            try clear hfz30_2
            try clear hfz30_3
            try clear hfz32_0
            try clear hfz32_1
            try clear hfz32_2
            try clear hfz32_3
            try clear hfz33_0
            try clear hfz33_1
            try clear hfz33_2
            try clear hfz33_3
            try clear p2
            try clear p6
            obtain ⟨kq, x113_18, rfl, HA, HJ18, BK182, HB⟩ := hcut
            cases kq with
            | zero => exact absurd HA.out (by simp [tilefarmlaw5_GridPartition.j1])
            | succ kj18 =>
              have H := HA.out
              clear HA
              simp only [tilefarmlaw5_GridPartition.j1] at H
              by_cases c35 : x113_18 = true
              · subst c35
                have H1 : (some false) = some r := by rw [if_pos rfl] at H; exact H
                clear H
                have H := H1
                clear H1
                exact absurd ((Option.some.inj H).trans HT.out) (by decide)
              · replace c35 := Bool.eq_false_iff.mpr c35
                subst c35
                have H1 : ((tilefarmref2_Area.f t177 t178 t179 t180).bind fun t184 => ((tilefarmref2_Contains.f t177 t178 t179 t180 (Int.tmod t170 (wrap64 (1 + t166))) (wrap64 (Int.tdiv t171 (wrap64 (1 + t166))))).bind fun t185 => (if t185 = true then (if x23_1 = t174 then (tilefarmlaw5_GridPartition.l0 kj18 (wrap64 (1 + t166)) (wrap64 (1 + t167)) (wrap64 (1 + t168)) (wrap64 (1 + t169)) (Int.tmod t170 (wrap64 (1 + t166))) (wrap64 (Int.tdiv t171 (wrap64 (1 + t166)))) t172 t173 t174 t175 (wrap64 (x21_1 + t184)) (wrap64 (x22_1 + 1)) (wrap64 (x23_1 + 1))) else (some false)) else (tilefarmlaw5_GridPartition.l0 kj18 (wrap64 (1 + t166)) (wrap64 (1 + t167)) (wrap64 (1 + t168)) (wrap64 (1 + t169)) (Int.tmod t170 (wrap64 (1 + t166))) (wrap64 (Int.tdiv t171 (wrap64 (1 + t166)))) t172 t173 t174 t175 (wrap64 (x21_1 + t184)) x22_1 (wrap64 (x23_1 + 1)))))) = some r := by rw [if_neg (show ¬ (false = true) by decide)] at H; exact H
                clear H
                have H := H1
                clear H1
                replace H := Option.bind_eq_some_iff.mp H
                obtain ⟨t184, A360, H⟩ := H
                replace H : ((tilefarmref2_Contains.f t177 t178 t179 t180 (Int.tmod t170 (wrap64 (1 + t166))) (wrap64 (Int.tdiv t171 (wrap64 (1 + t166))))).bind fun t185 => (if t185 = true then (if x23_1 = t174 then (tilefarmlaw5_GridPartition.l0 kj18 (wrap64 (1 + t166)) (wrap64 (1 + t167)) (wrap64 (1 + t168)) (wrap64 (1 + t169)) (Int.tmod t170 (wrap64 (1 + t166))) (wrap64 (Int.tdiv t171 (wrap64 (1 + t166)))) t172 t173 t174 t175 (wrap64 (x21_1 + t184)) (wrap64 (x22_1 + 1)) (wrap64 (x23_1 + 1))) else (some false)) else (tilefarmlaw5_GridPartition.l0 kj18 (wrap64 (1 + t166)) (wrap64 (1 + t167)) (wrap64 (1 + t168)) (wrap64 (1 + t169)) (Int.tmod t170 (wrap64 (1 + t166))) (wrap64 (Int.tdiv t171 (wrap64 (1 + t166)))) t172 t173 t174 t175 (wrap64 (x21_1 + t184)) x22_1 (wrap64 (x23_1 + 1))))) = some r := H
                have A36 := Aside0.mk A360
                clear A360
                replace H := Option.bind_eq_some_iff.mp H
                obtain ⟨t185, A370, H⟩ := H
                replace H : (if t185 = true then (if x23_1 = t174 then (tilefarmlaw5_GridPartition.l0 kj18 (wrap64 (1 + t166)) (wrap64 (1 + t167)) (wrap64 (1 + t168)) (wrap64 (1 + t169)) (Int.tmod t170 (wrap64 (1 + t166))) (wrap64 (Int.tdiv t171 (wrap64 (1 + t166)))) t172 t173 t174 t175 (wrap64 (x21_1 + t184)) (wrap64 (x22_1 + 1)) (wrap64 (x23_1 + 1))) else (some false)) else (tilefarmlaw5_GridPartition.l0 kj18 (wrap64 (1 + t166)) (wrap64 (1 + t167)) (wrap64 (1 + t168)) (wrap64 (1 + t169)) (Int.tmod t170 (wrap64 (1 + t166))) (wrap64 (Int.tdiv t171 (wrap64 (1 + t166)))) t172 t173 t174 t175 (wrap64 (x21_1 + t184)) x22_1 (wrap64 (x23_1 + 1)))) = some r := H
                have A37 := Aside0.mk A370
                clear A370
                by_cases c38 : t185 = true
                · subst c38
                  have H1 : (if x23_1 = t174 then (tilefarmlaw5_GridPartition.l0 kj18 (wrap64 (1 + t166)) (wrap64 (1 + t167)) (wrap64 (1 + t168)) (wrap64 (1 + t169)) (Int.tmod t170 (wrap64 (1 + t166))) (wrap64 (Int.tdiv t171 (wrap64 (1 + t166)))) t172 t173 t174 t175 (wrap64 (x21_1 + t184)) (wrap64 (x22_1 + 1)) (wrap64 (x23_1 + 1))) else (some false)) = some r := by rw [if_pos rfl] at H; exact H
                  clear H
                  have H := H1
                  clear H1
                  by_cases c39 : x23_1 = t174
                  · rw [if_pos c39] at H
                    have c39b0 : (x23_1 == t174) = true := beq_iff_eq.mpr c39
                    have c39b1 : (x23_1 != t174) = false := bne_eq_false_iff_eq.mpr c39
                    clear c39
                    have H' := Aside0.mk H
                    clear H
                    have hcz40_0 : wc.cell? ⟨gb182, 0, none⟩ = some (.int .i64 t177) := (blk_cell BK182.out 0).trans rfl
                    have hcz40_1 : wc.cell? ⟨gb182, 1, none⟩ = some (.int .i64 t178) := (blk_cell BK182.out 1).trans rfl
                    have hcz40_2 : wc.cell? ⟨gb182, 2, none⟩ = some (.int .i64 t179) := (blk_cell BK182.out 2).trans rfl
                    have hcz40_3 : wc.cell? ⟨gb182, 3, none⟩ = some (.int .i64 t180) := (blk_cell BK182.out 3).trans rfl
                    have hfz40_0 := blk_frozen BK182.out 0
                    have hfz40_1 := blk_frozen BK182.out 1
                    have hfz40_2 := blk_frozen BK182.out 2
                    have hfz40_3 := blk_frozen BK182.out 3
                    go_wp2_with (first | ((with_reducible refine gate_callee (f := 17) rfl ?_); refine goesL_ (some 116) rfl rfl Try.func17 (by kernel_rfl) rfl #[.agg #[.int .i64 t177, .int .i64 t178, .int .i64 t179, .int .i64 t180]] rfl (by (try simp only [List.map_toArray, List.map_cons, List.map_nil]); first | done | rfl | (simp only [List.length_drop, List.length_take]; rfl)) ?_; (with_reducible refine (tilefarmref2_Area.calls t177 t178 t179 t180 t184 _ A36.out).mono ?_); rintro e w41 ⟨rfl, hb⟩; refine ⟨_, rfl, ?_⟩; have n0_ := Aside0.mk (blk_below (g := gb182) (o := .cells #[.int .i64 t177, .int .i64 t178, .int .i64 t179, .int .i64 t180] 31 (0, 0)) (by (with_reducible repeat (first | refine blk_drewN ?_ _ | refine blk_drew ?_ | refine blk_alloc ?_ _)); exact BK182.out) hb); have n1_ := Aside0.mk (below_step (by repeat (first | (with_reducible first | exact HB.out | apply below_alloc | apply pw_below_drewN | apply below_drew1 | refine below_set ?_ GE182.out) | exact HB.out)) hb); clear BK182; clear HB; have BK182 := n0_; have HB := n1_; clear n0_ n1_; (try clear hb); (try clear hb2); (try clear hk); (try clear hi); have hcz42_0 : w41.cell? ⟨gb182, 0, none⟩ = some (.int .i64 t177) := (blk_cell BK182.out 0).trans rfl; have hcz42_1 : w41.cell? ⟨gb182, 1, none⟩ = some (.int .i64 t178) := (blk_cell BK182.out 1).trans rfl; have hcz42_2 : w41.cell? ⟨gb182, 2, none⟩ = some (.int .i64 t179) := (blk_cell BK182.out 2).trans rfl; have hcz42_3 : w41.cell? ⟨gb182, 3, none⟩ = some (.int .i64 t180) := (blk_cell BK182.out 3).trans rfl; have hfz42_0 := blk_frozen BK182.out 0; have hfz42_1 := blk_frozen BK182.out 1; have hfz42_2 := blk_frozen BK182.out 2; have hfz42_3 := blk_frozen BK182.out 3) | ((with_reducible refine gate_callee (f := 18) rfl ?_); refine goesL_ (some 121) rfl rfl Try.func18 (by kernel_rfl) rfl #[.agg #[.int .i64 t177, .int .i64 t178, .int .i64 t179, .int .i64 t180], .int .i64 (Int.tmod t170 (wrap64 (1 + t166))), .int .i64 (wrap64 (Int.tdiv t171 (wrap64 (1 + t166))))] rfl (by (try simp only [List.map_toArray, List.map_cons, List.map_nil]); first | done | rfl | (simp only [List.length_drop, List.length_take]; rfl)) ?_; (with_reducible refine (tilefarmref2_Contains.calls t177 t178 t179 t180 (Int.tmod t170 (wrap64 (1 + t166))) (wrap64 (Int.tdiv t171 (wrap64 (1 + t166)))) true _ A37.out).mono ?_); rintro e w43 ⟨rfl, hb⟩; refine ⟨_, rfl, ?_⟩; have n0_ := Aside0.mk (blk_below (g := gb182) (o := .cells #[.int .i64 t177, .int .i64 t178, .int .i64 t179, .int .i64 t180] 31 (0, 0)) (by (with_reducible repeat (first | refine blk_drewN ?_ _ | refine blk_drew ?_ | refine blk_alloc ?_ _)); exact BK182.out) hb); have n1_ := Aside0.mk (below_step (by repeat (first | (with_reducible first | exact HB.out | apply below_alloc | apply pw_below_drewN | apply below_drew1 | refine below_set ?_ GE182.out) | exact HB.out)) hb); clear BK182; clear HB; have BK182 := n0_; have HB := n1_; clear n0_ n1_; (try clear hb); (try clear hb2); (try clear hk); (try clear hi)))
                    go_roundg kj18
                    case measure => have := HK1.out; have := HJ18.out; omega
                    case rel => exact ⟨(wrap64 (x21_1 + t184)), (wrap64 (x22_1 + 1)), (wrap64 (x23_1 + 1)), (by first | rfl | (simp; done) | (simp [*]; done)), (by first | rfl | (simp; done) | (simp [*]; done)), (by first | rfl | (simp; done) | (simp [*]; done)), H', ⟨by have := HK1.out; have := HJ18.out; omega⟩, ⟨by repeat (first | (with_reducible first | exact HB.out | apply below_alloc | apply pw_below_drewN | apply below_drew1 | refine below_set ?_ GE182.out) | exact HB.out)⟩⟩
                  · rw [if_neg c39] at H
                    have c39b0 : (x23_1 == t174) = false := beq_eq_false_iff_ne.mpr c39
                    have c39b1 : (x23_1 != t174) = true := bne_iff_ne.mpr c39
                    exact absurd ((Option.some.inj H).trans HT.out) (by decide)
                · replace c38 := Bool.eq_false_iff.mpr c38
                  subst c38
                  have H1 : (tilefarmlaw5_GridPartition.l0 kj18 (wrap64 (1 + t166)) (wrap64 (1 + t167)) (wrap64 (1 + t168)) (wrap64 (1 + t169)) (Int.tmod t170 (wrap64 (1 + t166))) (wrap64 (Int.tdiv t171 (wrap64 (1 + t166)))) t172 t173 t174 t175 (wrap64 (x21_1 + t184)) x22_1 (wrap64 (x23_1 + 1))) = some r := by rw [if_neg (show ¬ (false = true) by decide)] at H; exact H
                  clear H
                  have H := H1
                  clear H1
                  have H' := Aside0.mk H
                  clear H
                  have hcz44_0 : wc.cell? ⟨gb182, 0, none⟩ = some (.int .i64 t177) := (blk_cell BK182.out 0).trans rfl
                  have hcz44_1 : wc.cell? ⟨gb182, 1, none⟩ = some (.int .i64 t178) := (blk_cell BK182.out 1).trans rfl
                  have hcz44_2 : wc.cell? ⟨gb182, 2, none⟩ = some (.int .i64 t179) := (blk_cell BK182.out 2).trans rfl
                  have hcz44_3 : wc.cell? ⟨gb182, 3, none⟩ = some (.int .i64 t180) := (blk_cell BK182.out 3).trans rfl
                  have hfz44_0 := blk_frozen BK182.out 0
                  have hfz44_1 := blk_frozen BK182.out 1
                  have hfz44_2 := blk_frozen BK182.out 2
                  have hfz44_3 := blk_frozen BK182.out 3
                  go_wp2_with (first | ((with_reducible refine gate_callee (f := 17) rfl ?_); refine goesL_ (some 116) rfl rfl Try.func17 (by kernel_rfl) rfl #[.agg #[.int .i64 t177, .int .i64 t178, .int .i64 t179, .int .i64 t180]] rfl (by (try simp only [List.map_toArray, List.map_cons, List.map_nil]); first | done | rfl | (simp only [List.length_drop, List.length_take]; rfl)) ?_; (with_reducible refine (tilefarmref2_Area.calls t177 t178 t179 t180 t184 _ A36.out).mono ?_); rintro e w45 ⟨rfl, hb⟩; refine ⟨_, rfl, ?_⟩; have n0_ := Aside0.mk (blk_below (g := gb182) (o := .cells #[.int .i64 t177, .int .i64 t178, .int .i64 t179, .int .i64 t180] 31 (0, 0)) (by (with_reducible repeat (first | refine blk_drewN ?_ _ | refine blk_drew ?_ | refine blk_alloc ?_ _)); exact BK182.out) hb); have n1_ := Aside0.mk (below_step (by repeat (first | (with_reducible first | exact HB.out | apply below_alloc | apply pw_below_drewN | apply below_drew1 | refine below_set ?_ GE182.out) | exact HB.out)) hb); clear BK182; clear HB; have BK182 := n0_; have HB := n1_; clear n0_ n1_; (try clear hb); (try clear hb2); (try clear hk); (try clear hi); have hcz46_0 : w45.cell? ⟨gb182, 0, none⟩ = some (.int .i64 t177) := (blk_cell BK182.out 0).trans rfl; have hcz46_1 : w45.cell? ⟨gb182, 1, none⟩ = some (.int .i64 t178) := (blk_cell BK182.out 1).trans rfl; have hcz46_2 : w45.cell? ⟨gb182, 2, none⟩ = some (.int .i64 t179) := (blk_cell BK182.out 2).trans rfl; have hcz46_3 : w45.cell? ⟨gb182, 3, none⟩ = some (.int .i64 t180) := (blk_cell BK182.out 3).trans rfl; have hfz46_0 := blk_frozen BK182.out 0; have hfz46_1 := blk_frozen BK182.out 1; have hfz46_2 := blk_frozen BK182.out 2; have hfz46_3 := blk_frozen BK182.out 3) | ((with_reducible refine gate_callee (f := 18) rfl ?_); refine goesL_ (some 121) rfl rfl Try.func18 (by kernel_rfl) rfl #[.agg #[.int .i64 t177, .int .i64 t178, .int .i64 t179, .int .i64 t180], .int .i64 (Int.tmod t170 (wrap64 (1 + t166))), .int .i64 (wrap64 (Int.tdiv t171 (wrap64 (1 + t166))))] rfl (by (try simp only [List.map_toArray, List.map_cons, List.map_nil]); first | done | rfl | (simp only [List.length_drop, List.length_take]; rfl)) ?_; (with_reducible refine (tilefarmref2_Contains.calls t177 t178 t179 t180 (Int.tmod t170 (wrap64 (1 + t166))) (wrap64 (Int.tdiv t171 (wrap64 (1 + t166)))) false _ A37.out).mono ?_); rintro e w47 ⟨rfl, hb⟩; refine ⟨_, rfl, ?_⟩; have n0_ := Aside0.mk (blk_below (g := gb182) (o := .cells #[.int .i64 t177, .int .i64 t178, .int .i64 t179, .int .i64 t180] 31 (0, 0)) (by (with_reducible repeat (first | refine blk_drewN ?_ _ | refine blk_drew ?_ | refine blk_alloc ?_ _)); exact BK182.out) hb); have n1_ := Aside0.mk (below_step (by repeat (first | (with_reducible first | exact HB.out | apply below_alloc | apply pw_below_drewN | apply below_drew1 | refine below_set ?_ GE182.out) | exact HB.out)) hb); clear BK182; clear HB; have BK182 := n0_; have HB := n1_; clear n0_ n1_; (try clear hb); (try clear hb2); (try clear hk); (try clear hi)))
                  go_roundg kj18
                  case measure => have := HK1.out; have := HJ18.out; omega
                  case rel => exact ⟨(wrap64 (x21_1 + t184)), (x22_1), (wrap64 (x23_1 + 1)), (by first | rfl | (simp; done) | (simp [*]; done)), (by first | rfl | (simp; done) | (simp [*]; done)), (by first | rfl | (simp; done) | (simp [*]; done)), H', ⟨by have := HK1.out; have := HJ18.out; omega⟩, ⟨by repeat (first | (with_reducible first | exact HB.out | apply below_alloc | apply pw_below_drewN | apply below_drew1 | refine below_set ?_ GE182.out) | exact HB.out)⟩⟩
        · rw [if_neg c17] at H
          have c17b0 : decide (x23_1 < (wrap64 (t172 * t173))) = false := decide_eq_false c17
          clear c17
          by_cases c48 : t175 = true
          · subst c48
            have H1 : (if x22_1 = 1 then (if x21_1 = (wrap64 ((wrap64 (1 + t166)) * (wrap64 (1 + t167)))) then ((tilefarmlaw5_sane.f k1).bind fun t176 => (some t176)) else (some false)) else (some false)) = some r := by rw [if_pos rfl] at H; exact H
            clear H
            have H := H1
            clear H1
            by_cases c49 : x22_1 = 1
            · rw [if_pos c49] at H
              have c49b0 : (x22_1 == 1) = true := beq_iff_eq.mpr c49
              have c49b1 : (x22_1 != 1) = false := bne_eq_false_iff_eq.mpr c49
              clear c49
              by_cases c50 : x21_1 = (wrap64 ((wrap64 (1 + t166)) * (wrap64 (1 + t167))))
              · rw [if_pos c50] at H
                have c50b0 : (x21_1 == (wrap64 ((wrap64 (1 + t166)) * (wrap64 (1 + t167))))) = true := beq_iff_eq.mpr c50
                have c50b1 : (x21_1 != (wrap64 ((wrap64 (1 + t166)) * (wrap64 (1 + t167))))) = false := bne_eq_false_iff_eq.mpr c50
                clear c50
                replace H := Option.bind_eq_some_iff.mp H
                obtain ⟨t176, A510, H⟩ := H
                replace H : (some t176) = some r := H
                have A51 := Aside0.mk A510
                clear A510
                obtain rfl := Option.some.inj H
                go_wp2_with (first | (go_at_call 10; (with_reducible refine (tilefarmlaw5_sane.calls k1  t176 _ A51.out).mono ?_); rintro e w52 ⟨rfl, hb⟩; have n0_ := Aside0.mk (below_step (by repeat (first | (with_reducible first | exact HB.out | apply below_alloc | apply pw_below_drewN | apply below_drew1) | exact HB.out)) hb); clear HB; have HB := n0_; clear n0_; (try clear hb); (try clear hb2); (try clear hk); (try clear hi)))
                go_ret
                exact ⟨by first | rfl | (simp [errW_none, errW_some] <;> rfl) | (simp [*, errW_none, errW_some] <;> rfl), by repeat (first | (with_reducible first | exact HB.out | apply below_alloc | apply pw_below_drewN | apply below_drew1) | exact HB.out)⟩
              · rw [if_neg c50] at H
                have c50b0 : (x21_1 == (wrap64 ((wrap64 (1 + t166)) * (wrap64 (1 + t167))))) = false := beq_eq_false_iff_ne.mpr c50
                have c50b1 : (x21_1 != (wrap64 ((wrap64 (1 + t166)) * (wrap64 (1 + t167))))) = true := bne_iff_ne.mpr c50
                exact absurd ((Option.some.inj H).trans HT.out) (by decide)
            · rw [if_neg c49] at H
              have c49b0 : (x22_1 == 1) = false := beq_eq_false_iff_ne.mpr c49
              have c49b1 : (x22_1 != 1) = true := bne_iff_ne.mpr c49
              exact absurd ((Option.some.inj H).trans HT.out) (by decide)
          · replace c48 := Bool.eq_false_iff.mpr c48
            subst c48
            have H1 : (some false) = some r := by rw [if_neg (show ¬ (false = true) by decide)] at H; exact H
            clear H
            have H := H1
            clear H1
            exact absurd ((Option.some.inj H).trans HT.out) (by decide)

/-- THE ONE PURE STATEMENT of tilefarmlaw5_GridPartition: yours. -/
def tilefarmlaw5_GridPartition.Pure : Prop := ∀ (a0 : Int) (a1 : Int) (a2 : Int) (a3 : Int) (a4 : Int), (Lit.int .i64 a0).wf = true → (Lit.int .i64 a1).wf = true → (Lit.int .i64 a2).wf = true → (Lit.int .i64 a3).wf = true → (Lit.int .i64 a4).wf = true → ∃ k, tilefarmlaw5_GridPartition.f k a0 a1 a2 a3 a4 = some true
theorem tilefarmlaw5_GridPartition.walk (P : tilefarmlaw5_GridPartition.Pure) (a0 : Int) (a1 : Int) (a2 : Int) (a3 : Int) (a4 : Int) (w : World) (w0 : (Lit.int .i64 a0).wf = true) (w1 : (Lit.int .i64 a1).wf = true) (w2 : (Lit.int .i64 a2).wf = true) (w3 : (Lit.int .i64 a3).wf = true) (w4 : (Lit.int .i64 a4).wf = true) :
    Calls Try.prog 5 #[.int .i64 a0, .int .i64 a1, .int .i64 a2, .int .i64 a3, .int .i64 a4] w fun e w' => e = .returned (.bool true) ∧ Below w.heap.size w w' := by
  obtain ⟨k, h⟩ := P a0 a1 a2 a3 a4 w0 w1 w2 w3 w4
  refine (tilefarmlaw5_GridPartition.calls k a0 a1 a2 a3 a4 true w h).mono ?_
  rintro e w' ⟨rfl, hd⟩
  exact ⟨rfl, hd⟩

end Go.Proofs.Ytikpmojofdndnaa.PGridPartition

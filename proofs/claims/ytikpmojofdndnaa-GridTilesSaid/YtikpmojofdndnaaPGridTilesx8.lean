-- Written by a program of the session (wip/tools/myprint.py) over the kit's printer; checked by Lean.
import Derived.Test.YtikpmojofdndnaaPGridTilesx0
import Derived.Test.YtikpmojofdndnaaPGridTilesx2
import Derived.Test.YtikpmojofdndnaaPGridTilesx4
import Derived.Test.YtikpmojofdndnaaPGridTilesx6
import Derived.Test.YtikpmojofdndnaaPGridTilesx7
namespace Go.Proofs.Ytikpmojofdndnaa.PGridTiles
open Go.RowKit Go.Proofs.YtikpmojofdndnaaW.PrintWords Go.Proofs.YtikpmojofdndnaaW.PrintLast Go.Proofs.YtikpmojofdndnaaW.PrintMore
attribute [local go_sem] max2_int min2_int max_two min_two max_three min_three max_four min_four   -- for this text's walks alone
set_option linter.unusedVariables false
set_option linter.unusedSimpArgs false

/-! ### tilefarmlaw5_GridTiles: function 4 -/
def tilefarmlaw5_GridTiles.l0 : Nat → Int → Int → Int → Int → Int → Int → Int → Int → Int → Int → Int → Int → List Int → Int → Option (Bool)
  | 0, _, _, _, _, _, _, _, _, _, _, _, _, _, _ => none
  | k + 1, x1, x2, x3, x4, x5, x6, x7, x20, x247000, x247001, x247002, x247003, x250000, x250001 => if x20 < 5 then ((tilefarmgen_Tape_Next.f x250000 x250001 12).bind fun bt250 => ((tilefarmgen_Tape_Next.f x250000 bt250.2 12).bind fun bt252 => ((tilefarmgen_Tape_Next.f x250000 bt252.2 5).bind fun bt254 => ((tilefarmgen_Tape_Next.f x250000 bt254.2 5).bind fun bt256 => ((tilefarmgen_Tape_Next.f x250000 bt256.2 30).bind fun bt258 => ((tilefarmgen_Tape_Next.f x250000 bt258.2 14).bind fun bt260 => ((tilefarmgen_Tape_Next.f x250000 bt260.2 14).bind fun bt262 => ((tilefarmgen_Tape_Rect.f x250000 bt262.2).bind fun bt264 => ((tilefarmlaw5_agrees.f k (wrap64 (1 + bt250.1)) (wrap64 (1 + bt252.1)) (wrap64 (1 + bt254.1)) (wrap64 (1 + bt256.1)) (wrap64 (bt258.1 - 1)) (wrap64 (bt260.1 - 1)) (wrap64 (bt262.1 - 1)) bt264.1 bt264.2.1 bt264.2.2.1 bt264.2.2.2.1).bind fun t269 => (if t269 = true then (tilefarmlaw5_GridTiles.l0 k x1 x2 x3 x4 x5 x6 x7 (wrap64 (x20 + 1)) x247000 x247001 x247002 x247003 x250000 bt264.2.2.2.2) else (some false))))))))))) else ((tilefarmgen_Mod.f x1 128).bind fun t270 => ((tilefarmgen_Mod.f x2 40).bind fun t271 => ((tilefarmgen_Mod.f x3 64).bind fun t272 => ((tilefarmlaw5_agrees.f k (wrap64 (1 + t270)) (wrap64 (1 + t271)) (wrap64 (1 + t272)) x4 x5 x6 x7 x247000 x247001 x247002 x247003).bind fun t273 => (if t273 = true then ((tilefarmlaw5_agrees.f k x1 x2 x3 x4 x5 x6 x7 x247000 x247001 x247002 x247003).bind fun t274 => (if t274 = true then ((tilefarmgen_Mod.f x1 30).bind fun t275 => ((tilefarmgen_Mod.f x2 30).bind fun t276 => ((tilefarmgen_Mod.f x3 8).bind fun t277 => ((tilefarmgen_Mod.f x4 8).bind fun t278 => ((tilefarmlaw5_agrees.f k (wrap64 (1 + t275)) (wrap64 (1 + t276)) (wrap64 (1 + t277)) (wrap64 (1 + t278)) x5 x6 x7 x247000 x247001 x247002 x247003).bind fun t279 => (if t279 = true then ((tilefarmlaw5_sane.f k).bind fun t280 => (some t280)) else (some false))))))) else (some false))) else (some false))))))
def tilefarmlaw5_GridTiles.f (k : Nat) (l0 : List Int) (a1 : Int) (a2 : Int) (a3 : Int) (a4 : Int) (a5 : Int) (a6 : Int) (a7 : Int) (a8_0 : Int) (a8_1 : Int) (a8_2 : Int) (a8_3 : Int) : Option (Bool) := (tilefarmgen_New.f l0).bind fun bt247 => (tilefarmlaw5_GridTiles.l0 k a1 a2 a3 a4 a5 a6 a7 0 a8_0 a8_1 a8_2 a8_3 bt247.1 bt247.2)
theorem tilefarmlaw5_GridTiles.mono_l : ∀ k, (∀ y0 y1 y2 y3 y4 y5 y6 y7 y8 y9 y10 y11 y12 y13, LeO (tilefarmlaw5_GridTiles.l0 k y0 y1 y2 y3 y4 y5 y6 y7 y8 y9 y10 y11 y12 y13) (tilefarmlaw5_GridTiles.l0 (k + 1) y0 y1 y2 y3 y4 y5 y6 y7 y8 y9 y10 y11 y12 y13))
  | 0 => fun _ _ _ _ _ _ _ _ _ _ _ _ _ _ r h => by simp [tilefarmlaw5_GridTiles.l0] at h
  | k + 1 => by
    have ih0 := tilefarmlaw5_GridTiles.mono_l k
    · intro y0 y1 y2 y3 y4 y5 y6 y7 y8 y9 y10 y11 y12 y13
      unfold tilefarmlaw5_GridTiles.l0
      repeat' first
      | (with_reducible exact ih0 _ _ _ _ _ _ _ _ _ _ _ _ _ _)
      | (with_reducible exact tilefarmlaw5_agrees.mono _ _ _ _ _ _ _ _ _ _ _ _)
      | (with_reducible exact tilefarmlaw5_sane.mono _)
      | (with_reducible exact LeO.refl _)
      | (with_reducible exact LeO.none _)
      | (with_reducible refine LeO.ite ?_ ?_)
      | (with_reducible refine LeO.bind ?_ (fun _ => ?_))
      | exact ih0 _ _ _ _ _ _ _ _ _ _ _ _ _ _
      | exact tilefarmlaw5_agrees.mono _ _ _ _ _ _ _ _ _ _ _ _
      | exact tilefarmlaw5_sane.mono _
      | exact LeO.none _
      | refine LeO.ite ?_ ?_
      | refine LeO.bind ?_ (fun _ => ?_)
theorem tilefarmlaw5_GridTiles.mono : ∀ a0 a1 a2 a3 a4 a5 a6 a7 a8 a9 a10 a11 k, LeO (tilefarmlaw5_GridTiles.f k a0 a1 a2 a3 a4 a5 a6 a7 a8 a9 a10 a11) (tilefarmlaw5_GridTiles.f (k + 1) a0 a1 a2 a3 a4 a5 a6 a7 a8 a9 a10 a11) := by
  intro a0 a1 a2 a3 a4 a5 a6 a7 a8 a9 a10 a11 k
  have ih0 := tilefarmlaw5_GridTiles.mono_l k
  unfold tilefarmlaw5_GridTiles.f
  repeat' first
      | (with_reducible exact ih0 _ _ _ _ _ _ _ _ _ _ _ _ _ _)
      | (with_reducible exact tilefarmlaw5_agrees.mono _ _ _ _ _ _ _ _ _ _ _ _)
      | (with_reducible exact tilefarmlaw5_sane.mono _)
      | (with_reducible exact LeO.refl _)
      | (with_reducible exact LeO.none _)
      | (with_reducible refine LeO.ite ?_ ?_)
      | (with_reducible refine LeO.bind ?_ (fun _ => ?_))
      | exact ih0 _ _ _ _ _ _ _ _ _ _ _ _ _ _
      | exact tilefarmlaw5_agrees.mono _ _ _ _ _ _ _ _ _ _ _ _
      | exact tilefarmlaw5_sane.mono _
      | exact LeO.none _
      | refine LeO.ite ?_ ?_
      | refine LeO.bind ?_ (fun _ => ?_)
def tilefarmlaw5_GridTiles.T7 : Bool × List (List Nat × List Nat) := (true, [([], []), ([0], [0]), ([1], [1]), ([], []), ([3, 1], [3]), ([4], [4]), ([], []), ([6, 4], [6]), ([7], [7]), ([], []), ([], []), ([], []), ([], []), ([], []), ([2, 5, 8, 9, 10, 11, 12, 13, 7], [2, 5, 8, 9, 10, 11, 12, 13]), ([14, 14], [14]), ([15], [15]), ([15], [15]), ([15], [15]), ([15], [15]), ([15], [15]), ([15], [15]), ([15], [15]), ([15], [15]), ([16, 17, 18, 19, 20, 21, 22, 23, 15, 15], [15, 16, 17, 18, 19, 20, 21, 22, 23]), ([15, 24], [15, 24]), ([25, 24], [25]), ([26], [26]), ([27, 26, 26], [26, 27]), ([28, 26], [26, 28]), ([26], [26]), ([30, 28, 26], [26, 30]), ([31, 26], [26, 31]), ([26], [26]), ([33, 31, 26], [26, 33]), ([34, 26], [26, 34]), ([26], [26]), ([36, 34, 26], [26, 36]), ([37, 26], [26, 37]), ([26], [26]), ([26], [26]), ([26], [26]), ([26], [26]), ([29, 32, 35, 38, 39, 40, 41, 42, 37, 26], [26, 29, 32, 35, 38, 39, 40, 41, 42]), ([26, 43], [26, 43]), ([44, 43], [44]), ([45, 45], [45]), ([45, 46], [45, 46]), ([47, 46, 0, 1, 2, 3, 4, 5, 6, 7, 8, 9, 10, 11, 12, 13, 14, 15, 16, 17, 18, 19, 20, 21, 22, 23, 24, 25, 26, 27, 28, 29, 30, 31, 32, 33, 34, 35, 36, 37, 38, 39, 40, 41, 42, 43, 44, 45, 46, 47], [47])])
def tilefarmlaw5_GridTiles.B7 : List Nat := [0, 1, 3, 0, 11, 27, 0, 91, 219, 0, 0, 0, 0, 0, 16383, 32767, 65535, 65535, 65535, 65535, 65535, 65535, 65535, 65535, 16777215, 33554431, 67108863, 134217727, 268435455, 536870911, 134217727, 1610612735, 3758096383, 134217727, 12348030975, 29527900159, 134217727, 98247376895, 235686330367, 134217727, 134217727, 134217727, 134217727, 8796093022207, 17592186044415, 35184372088831, 70368744177663, 140737488355327, 281474976710655]
theorem tilefarmlaw5_GridTiles.tab7 : rtab .any (opsOf Try.f4 7) = tilefarmlaw5_GridTiles.T7 := by kernel_rfl
theorem tilefarmlaw5_GridTiles.bits7 : waitsOk tilefarmlaw5_GridTiles.T7.2 tilefarmlaw5_GridTiles.B7 = true := by kernel_rfl
set_option maxHeartbeats 8000000 in
set_option maxRecDepth 100000 in
theorem tilefarmlaw5_GridTiles.calls (k : Nat) (A0 : Option Addr) (c0 : Nat) (l0 : List Int) (a1 : Int) (a2 : Int) (a3 : Int) (a4 : Int) (a5 : Int) (a6 : Int) (a7 : Int) (a8_0 : Int) (a8_1 : Int) (a8_2 : Int) (a8_3 : Int) (r : Bool) (w : World) (hr0 : Kd.C (Kd.int .i64) w A0 l0.length l0) (hc0 : l0.length ≤ c0) (h : tilefarmlaw5_GridTiles.f k l0 a1 a2 a3 a4 a5 a6 a7 a8_0 a8_1 a8_2 a8_3 = some r) (hT : r = true := by first | rfl | assumption) :
    Calls Try.prog 4 #[.slice A0 l0.length c0, .int .i64 a1, .int .i64 a2, .int .i64 a3, .int .i64 a4, .int .i64 a5, .int .i64 a6, .int .i64 a7, .agg #[.int .i64 a8_0, .int .i64 a8_1, .int .i64 a8_2, .int .i64 a8_3]] w fun e w' => e = .returned (.bool r) ∧ Below w.heap.size w w' := by
  have HT := Aside0.mk hT
  clear hT
  have hu31 := Try.underlying31
  have HR0 := Aside0.mk hr0
  have HC0 := Aside0.mk hc0
  clear hr0 hc0
  have HB := Aside0.mk (Below.refl w.heap.size w)
  have H : ((tilefarmgen_New.f l0).bind fun bt247 => (tilefarmlaw5_GridTiles.l0 k a1 a2 a3 a4 a5 a6 a7 0 a8_0 a8_1 a8_2 a8_3 bt247.1 bt247.2)) = some r := h
  clear h
  replace H := Option.bind_eq_some_iff.mp H
  obtain ⟨⟨t247, t248⟩, A100, H⟩ := H
  replace H : (tilefarmlaw5_GridTiles.l0 k a1 a2 a3 a4 a5 a6 a7 0 a8_0 a8_1 a8_2 a8_3 t247 t248) = some r := H
  have A10 := Aside0.mk A100
  clear A100
  have H' := Aside0.mk H
  clear H
  go_enter Try.func4, Try.ntmps4
  go_wp2_with (first | ((with_reducible refine gate_dst (N := 17) rfl ?_); refine box_event ?hg (N := 17) ?hd (cs := #[.int .i64 a8_0, .int .i64 a8_1, .int .i64 a8_2, .int .i64 a8_3]) (t := 31) ?hr ?_; (case hd => rfl); (case hg => rfl); (case hr => first | (go_simp; done) | (go_simp; rfl)); intro gb246 hg w11 hbox hb; have n0_ := Aside0.mk (below_step (by repeat (first | (with_reducible first | exact HB.out | apply below_alloc | apply pw_below_drewN | apply below_drew1) | exact HB.out)) hb); have n1_ := Aside0.mk (hbox); have n2_ := Aside0.mk ((by rw [hg]; exact (below_size (by repeat (first | (with_reducible first | exact HB.out | apply below_alloc | apply pw_below_drewN | apply below_drew1) | exact HB.out))) : w.heap.size ≤ gb246)); have n3_ := Aside0.mk ((by rw [hg]; exact (below_size (by repeat (first | (with_reducible first | exact HB.out | apply below_alloc | apply pw_below_drewN | apply below_drew1) | exact HB.out))) : w.heap.size ≤ gb246)); clear HB; have HB := n0_; have BK246 := n1_; have GW246 := n2_; have GE246 := n3_; clear n0_ n1_ n2_ n3_; clear hb hbox hg) | ((with_reducible refine gate_callee (f := 11) rfl ?_); refine goesL_ (some 22) rfl rfl Try.func11 (by kernel_rfl) rfl #[.slice A0 l0.length c0] rfl (by (try simp only [List.map_toArray, List.map_cons, List.map_nil]); first | done | rfl | (simp only [List.length_drop, List.length_take]; rfl)) ?_; (with_reducible refine (tilefarmgen_New.calls _ _ l0 t247 t248 w _ ?side1 ?side2 ?side3 A10.out).mono ?_); (case side1 => repeat (first | (with_reducible first | exact HB.out | apply below_alloc | apply pw_below_drewN | apply below_drew1 | refine below_set ?_ GE246.out) | exact HB.out)); (case side2 => exact HR0.out); (case side3 => exact HC0.out); rintro e w12 ⟨g249, rfl, hi, hb, hb2⟩; refine ⟨_, rfl, ?_⟩; have n0_ := Aside0.mk (blk_below (g := gb246) (o := .cells #[.int .i64 a8_0, .int .i64 a8_1, .int .i64 a8_2, .int .i64 a8_3] 31 (0, 0)) (by (with_reducible repeat (first | refine blk_drewN ?_ _ | refine blk_drew ?_ | refine blk_alloc ?_ _)); exact BK246.out) hb2); have n1_ := Aside0.mk (hb); have n2_ := Aside0.mk (hi); have n3_ := Aside0.mk (IsS50.ne_blk hi (blk_below (g := gb246) (o := .cells #[.int .i64 a8_0, .int .i64 a8_1, .int .i64 a8_2, .int .i64 a8_3] 31 (0, 0)) (by (with_reducible repeat (first | refine blk_drewN ?_ _ | refine blk_drew ?_ | refine blk_alloc ?_ _)); exact BK246.out) hb2) (by decide)); have n4_ := Aside0.mk (Ne.symm (IsS50.ne_blk hi (blk_below (g := gb246) (o := .cells #[.int .i64 a8_0, .int .i64 a8_1, .int .i64 a8_2, .int .i64 a8_3] 31 (0, 0)) (by (with_reducible repeat (first | refine blk_drewN ?_ _ | refine blk_drew ?_ | refine blk_alloc ?_ _)); exact BK246.out) hb2) (by decide))); clear BK246; clear HB; have BK246 := n0_; have HB := n1_; have HI249 := n2_; have NB249_246 := n3_; have NB246_249 := n4_; clear n0_ n1_ n2_ n3_ n4_; (try clear hb); (try clear hb2); (try clear hk); (try clear hi)))
  go_loopg [20] k (fun kq v20 w' => ∃ (x20_1 : Int) (x250001_1 : Int), v20 = .int .i64 x20_1 ∧ Aside0 (tilefarmlaw5_GridTiles.l0 kq a1 a2 a3 a4 a5 a6 a7 x20_1 a8_0 a8_1 a8_2 a8_3 t247 x250001_1 = some r) ∧ Aside0 (kq ≤ k) ∧ Aside0 (w'.heap[gb246]? = some (.cells #[.int .i64 a8_0, .int .i64 a8_1, .int .i64 a8_2, .int .i64 a8_3] 31 (0, 0))) ∧ Aside0 (IsS50 w w' g249 t247 x250001_1) ∧ Aside0 (Below w.heap.size w w'))
  case atStart => exact ⟨(0), (t248), (by first | rfl | (simp; done) | (simp [*]; done)), H', ⟨Nat.le_refl _⟩, ⟨by (with_reducible repeat (first | refine blk_drewN ?_ _ | refine blk_drew ?_ | refine blk_alloc ?_ _)); exact BK246.out⟩, ⟨by repeat (first | (with_reducible first | exact HI249.out | apply IsS50.alloc | apply IsS50.drewN | apply IsS50.drew | apply IsS50.set_1 | refine IsS50.far ?_ NB249_246.out _) | exact HI249.out)⟩, ⟨by repeat (first | (with_reducible first | exact HB.out | apply below_alloc | apply pw_below_drewN | apply below_drew1 | refine below_set ?_ (IsS50.ge HI249.out) | refine below_set ?_ GE246.out) | exact HB.out)⟩⟩
  case round =>
    clear H'
    try clear c1
    try clear p2
    try clear c4
    try clear c11
    obtain ⟨x20_1, x250001_1, rfl, HA, HK1, BK246, HI249, HB⟩ := hrel
    cases gk with
    | zero => exact absurd HA.out (by simp [tilefarmlaw5_GridTiles.l0])
    | succ k1 =>
      have H := HA.out
      clear HA
      simp only [tilefarmlaw5_GridTiles.l0] at H
      by_cases c13 : x20_1 < 5
      · rw [if_pos c13] at H
        have c13b0 : decide (x20_1 < 5) = true := decide_eq_true c13
        clear c13
        replace H := Option.bind_eq_some_iff.mp H
        obtain ⟨⟨t250, t251⟩, A140, H⟩ := H
        replace H : ((tilefarmgen_Tape_Next.f t247 t251 12).bind fun bt252 => ((tilefarmgen_Tape_Next.f t247 bt252.2 5).bind fun bt254 => ((tilefarmgen_Tape_Next.f t247 bt254.2 5).bind fun bt256 => ((tilefarmgen_Tape_Next.f t247 bt256.2 30).bind fun bt258 => ((tilefarmgen_Tape_Next.f t247 bt258.2 14).bind fun bt260 => ((tilefarmgen_Tape_Next.f t247 bt260.2 14).bind fun bt262 => ((tilefarmgen_Tape_Rect.f t247 bt262.2).bind fun bt264 => ((tilefarmlaw5_agrees.f k1 (wrap64 (1 + t250)) (wrap64 (1 + bt252.1)) (wrap64 (1 + bt254.1)) (wrap64 (1 + bt256.1)) (wrap64 (bt258.1 - 1)) (wrap64 (bt260.1 - 1)) (wrap64 (bt262.1 - 1)) bt264.1 bt264.2.1 bt264.2.2.1 bt264.2.2.2.1).bind fun t269 => (if t269 = true then (tilefarmlaw5_GridTiles.l0 k1 a1 a2 a3 a4 a5 a6 a7 (wrap64 (x20_1 + 1)) a8_0 a8_1 a8_2 a8_3 t247 bt264.2.2.2.2) else (some false)))))))))) = some r := H
        have A14 := Aside0.mk A140
        clear A140
        replace H := Option.bind_eq_some_iff.mp H
        obtain ⟨⟨t252, t253⟩, A150, H⟩ := H
        replace H : ((tilefarmgen_Tape_Next.f t247 t253 5).bind fun bt254 => ((tilefarmgen_Tape_Next.f t247 bt254.2 5).bind fun bt256 => ((tilefarmgen_Tape_Next.f t247 bt256.2 30).bind fun bt258 => ((tilefarmgen_Tape_Next.f t247 bt258.2 14).bind fun bt260 => ((tilefarmgen_Tape_Next.f t247 bt260.2 14).bind fun bt262 => ((tilefarmgen_Tape_Rect.f t247 bt262.2).bind fun bt264 => ((tilefarmlaw5_agrees.f k1 (wrap64 (1 + t250)) (wrap64 (1 + t252)) (wrap64 (1 + bt254.1)) (wrap64 (1 + bt256.1)) (wrap64 (bt258.1 - 1)) (wrap64 (bt260.1 - 1)) (wrap64 (bt262.1 - 1)) bt264.1 bt264.2.1 bt264.2.2.1 bt264.2.2.2.1).bind fun t269 => (if t269 = true then (tilefarmlaw5_GridTiles.l0 k1 a1 a2 a3 a4 a5 a6 a7 (wrap64 (x20_1 + 1)) a8_0 a8_1 a8_2 a8_3 t247 bt264.2.2.2.2) else (some false))))))))) = some r := H
        have A15 := Aside0.mk A150
        clear A150
        replace H := Option.bind_eq_some_iff.mp H
        obtain ⟨⟨t254, t255⟩, A160, H⟩ := H
        replace H : ((tilefarmgen_Tape_Next.f t247 t255 5).bind fun bt256 => ((tilefarmgen_Tape_Next.f t247 bt256.2 30).bind fun bt258 => ((tilefarmgen_Tape_Next.f t247 bt258.2 14).bind fun bt260 => ((tilefarmgen_Tape_Next.f t247 bt260.2 14).bind fun bt262 => ((tilefarmgen_Tape_Rect.f t247 bt262.2).bind fun bt264 => ((tilefarmlaw5_agrees.f k1 (wrap64 (1 + t250)) (wrap64 (1 + t252)) (wrap64 (1 + t254)) (wrap64 (1 + bt256.1)) (wrap64 (bt258.1 - 1)) (wrap64 (bt260.1 - 1)) (wrap64 (bt262.1 - 1)) bt264.1 bt264.2.1 bt264.2.2.1 bt264.2.2.2.1).bind fun t269 => (if t269 = true then (tilefarmlaw5_GridTiles.l0 k1 a1 a2 a3 a4 a5 a6 a7 (wrap64 (x20_1 + 1)) a8_0 a8_1 a8_2 a8_3 t247 bt264.2.2.2.2) else (some false)))))))) = some r := H
        have A16 := Aside0.mk A160
        clear A160
        replace H := Option.bind_eq_some_iff.mp H
        obtain ⟨⟨t256, t257⟩, A170, H⟩ := H
        replace H : ((tilefarmgen_Tape_Next.f t247 t257 30).bind fun bt258 => ((tilefarmgen_Tape_Next.f t247 bt258.2 14).bind fun bt260 => ((tilefarmgen_Tape_Next.f t247 bt260.2 14).bind fun bt262 => ((tilefarmgen_Tape_Rect.f t247 bt262.2).bind fun bt264 => ((tilefarmlaw5_agrees.f k1 (wrap64 (1 + t250)) (wrap64 (1 + t252)) (wrap64 (1 + t254)) (wrap64 (1 + t256)) (wrap64 (bt258.1 - 1)) (wrap64 (bt260.1 - 1)) (wrap64 (bt262.1 - 1)) bt264.1 bt264.2.1 bt264.2.2.1 bt264.2.2.2.1).bind fun t269 => (if t269 = true then (tilefarmlaw5_GridTiles.l0 k1 a1 a2 a3 a4 a5 a6 a7 (wrap64 (x20_1 + 1)) a8_0 a8_1 a8_2 a8_3 t247 bt264.2.2.2.2) else (some false))))))) = some r := H
        have A17 := Aside0.mk A170
        clear A170
        replace H := Option.bind_eq_some_iff.mp H
        obtain ⟨⟨t258, t259⟩, A180, H⟩ := H
        replace H : ((tilefarmgen_Tape_Next.f t247 t259 14).bind fun bt260 => ((tilefarmgen_Tape_Next.f t247 bt260.2 14).bind fun bt262 => ((tilefarmgen_Tape_Rect.f t247 bt262.2).bind fun bt264 => ((tilefarmlaw5_agrees.f k1 (wrap64 (1 + t250)) (wrap64 (1 + t252)) (wrap64 (1 + t254)) (wrap64 (1 + t256)) (wrap64 (t258 - 1)) (wrap64 (bt260.1 - 1)) (wrap64 (bt262.1 - 1)) bt264.1 bt264.2.1 bt264.2.2.1 bt264.2.2.2.1).bind fun t269 => (if t269 = true then (tilefarmlaw5_GridTiles.l0 k1 a1 a2 a3 a4 a5 a6 a7 (wrap64 (x20_1 + 1)) a8_0 a8_1 a8_2 a8_3 t247 bt264.2.2.2.2) else (some false)))))) = some r := H
        have A18 := Aside0.mk A180
        clear A180
        replace H := Option.bind_eq_some_iff.mp H
        obtain ⟨⟨t260, t261⟩, A190, H⟩ := H
        replace H : ((tilefarmgen_Tape_Next.f t247 t261 14).bind fun bt262 => ((tilefarmgen_Tape_Rect.f t247 bt262.2).bind fun bt264 => ((tilefarmlaw5_agrees.f k1 (wrap64 (1 + t250)) (wrap64 (1 + t252)) (wrap64 (1 + t254)) (wrap64 (1 + t256)) (wrap64 (t258 - 1)) (wrap64 (t260 - 1)) (wrap64 (bt262.1 - 1)) bt264.1 bt264.2.1 bt264.2.2.1 bt264.2.2.2.1).bind fun t269 => (if t269 = true then (tilefarmlaw5_GridTiles.l0 k1 a1 a2 a3 a4 a5 a6 a7 (wrap64 (x20_1 + 1)) a8_0 a8_1 a8_2 a8_3 t247 bt264.2.2.2.2) else (some false))))) = some r := H
        have A19 := Aside0.mk A190
        clear A190
        replace H := Option.bind_eq_some_iff.mp H
        obtain ⟨⟨t262, t263⟩, A200, H⟩ := H
        replace H : ((tilefarmgen_Tape_Rect.f t247 t263).bind fun bt264 => ((tilefarmlaw5_agrees.f k1 (wrap64 (1 + t250)) (wrap64 (1 + t252)) (wrap64 (1 + t254)) (wrap64 (1 + t256)) (wrap64 (t258 - 1)) (wrap64 (t260 - 1)) (wrap64 (t262 - 1)) bt264.1 bt264.2.1 bt264.2.2.1 bt264.2.2.2.1).bind fun t269 => (if t269 = true then (tilefarmlaw5_GridTiles.l0 k1 a1 a2 a3 a4 a5 a6 a7 (wrap64 (x20_1 + 1)) a8_0 a8_1 a8_2 a8_3 t247 bt264.2.2.2.2) else (some false)))) = some r := H
        have A20 := Aside0.mk A200
        clear A200
        replace H := Option.bind_eq_some_iff.mp H
        obtain ⟨⟨t264, t265, t266, t267, t268⟩, A210, H⟩ := H
        replace H : ((tilefarmlaw5_agrees.f k1 (wrap64 (1 + t250)) (wrap64 (1 + t252)) (wrap64 (1 + t254)) (wrap64 (1 + t256)) (wrap64 (t258 - 1)) (wrap64 (t260 - 1)) (wrap64 (t262 - 1)) t264 t265 t266 t267).bind fun t269 => (if t269 = true then (tilefarmlaw5_GridTiles.l0 k1 a1 a2 a3 a4 a5 a6 a7 (wrap64 (x20_1 + 1)) a8_0 a8_1 a8_2 a8_3 t247 t268) else (some false))) = some r := H
        have A21 := Aside0.mk A210
        clear A210
        replace H := Option.bind_eq_some_iff.mp H
        obtain ⟨t269, A220, H⟩ := H
        replace H : (if t269 = true then (tilefarmlaw5_GridTiles.l0 k1 a1 a2 a3 a4 a5 a6 a7 (wrap64 (x20_1 + 1)) a8_0 a8_1 a8_2 a8_3 t247 t268) else (some false)) = some r := H
        have A22 := Aside0.mk A220
        clear A220
        by_cases c23 : t269 = true
        · subst c23
          have H1 : (tilefarmlaw5_GridTiles.l0 k1 a1 a2 a3 a4 a5 a6 a7 (wrap64 (x20_1 + 1)) a8_0 a8_1 a8_2 a8_3 t247 t268) = some r := by rw [if_pos rfl] at H; exact H
          clear H
          have H := H1
          clear H1
          have H' := Aside0.mk H
          clear H
          go_wp2_with (first | ((with_reducible refine gate_callee (f := 13) rfl ?_); refine goesL_ (some 28) rfl rfl Try.func13 (by kernel_rfl) rfl #[.pointer (some ⟨g249, 0, none⟩), .int .i64 12] rfl (by (try simp only [List.map_toArray, List.map_cons, List.map_nil]); first | done | rfl | (simp only [List.length_drop, List.length_take]; rfl)) ?_; (with_reducible refine (tilefarmgen_Tape_Next.calls g249 t247 x250001_1 12 t250 t251 w _ ?side1 ?side2 A14.out).mono ?_); (case side1 => repeat (first | (with_reducible first | exact HI249.out | apply IsS50.alloc | apply IsS50.drewN | apply IsS50.drew | apply IsS50.set_1 | refine IsS50.far ?_ NB249_246.out _) | exact HI249.out)); (case side2 => repeat (first | (with_reducible first | exact HB.out | apply below_alloc | apply pw_below_drewN | apply below_drew1 | refine below_set ?_ (IsS50.ge HI249.out) | refine below_set ?_ GE246.out) | exact HB.out)); rintro e w24 ⟨rfl, hi, hb, hk⟩; refine ⟨_, rfl, ?_⟩; have n0_ := Aside0.mk (KeepBut.blk hk (g' := gb246) (o := .cells #[.int .i64 a8_0, .int .i64 a8_1, .int .i64 a8_2, .int .i64 a8_3] 31 (0, 0)) (by (with_reducible repeat (first | refine blk_drewN ?_ _ | refine blk_drew ?_ | refine blk_alloc ?_ _)); exact BK246.out) NB246_249.out (by simp)); have n1_ := Aside0.mk (hb); have n2_ := Aside0.mk (hi); clear BK246; clear HB; clear HI249; have BK246 := n0_; have HB := n1_; have HI249 := n2_; clear n0_ n1_ n2_; (try clear hb); (try clear hb2); (try clear hk); (try clear hi)) | ((with_reducible refine gate_callee (f := 13) rfl ?_); refine goesL_ (some 31) rfl rfl Try.func13 (by kernel_rfl) rfl #[.pointer (some ⟨g249, 0, none⟩), .int .i64 12] rfl (by (try simp only [List.map_toArray, List.map_cons, List.map_nil]); first | done | rfl | (simp only [List.length_drop, List.length_take]; rfl)) ?_; (with_reducible refine (tilefarmgen_Tape_Next.calls g249 t247 t251 12 t252 t253 w _ ?side1 ?side2 A15.out).mono ?_); (case side1 => repeat (first | (with_reducible first | exact HI249.out | apply IsS50.alloc | apply IsS50.drewN | apply IsS50.drew | apply IsS50.set_1 | refine IsS50.far ?_ NB249_246.out _) | exact HI249.out)); (case side2 => repeat (first | (with_reducible first | exact HB.out | apply below_alloc | apply pw_below_drewN | apply below_drew1 | refine below_set ?_ (IsS50.ge HI249.out) | refine below_set ?_ GE246.out) | exact HB.out)); rintro e w25 ⟨rfl, hi, hb, hk⟩; refine ⟨_, rfl, ?_⟩; have n0_ := Aside0.mk (KeepBut.blk hk (g' := gb246) (o := .cells #[.int .i64 a8_0, .int .i64 a8_1, .int .i64 a8_2, .int .i64 a8_3] 31 (0, 0)) (by (with_reducible repeat (first | refine blk_drewN ?_ _ | refine blk_drew ?_ | refine blk_alloc ?_ _)); exact BK246.out) NB246_249.out (by simp)); have n1_ := Aside0.mk (hb); have n2_ := Aside0.mk (hi); clear BK246; clear HB; clear HI249; have BK246 := n0_; have HB := n1_; have HI249 := n2_; clear n0_ n1_ n2_; (try clear hb); (try clear hb2); (try clear hk); (try clear hi)) | ((with_reducible refine gate_callee (f := 13) rfl ?_); refine goesL_ (some 34) rfl rfl Try.func13 (by kernel_rfl) rfl #[.pointer (some ⟨g249, 0, none⟩), .int .i64 5] rfl (by (try simp only [List.map_toArray, List.map_cons, List.map_nil]); first | done | rfl | (simp only [List.length_drop, List.length_take]; rfl)) ?_; (with_reducible refine (tilefarmgen_Tape_Next.calls g249 t247 t253 5 t254 t255 w _ ?side1 ?side2 A16.out).mono ?_); (case side1 => repeat (first | (with_reducible first | exact HI249.out | apply IsS50.alloc | apply IsS50.drewN | apply IsS50.drew | apply IsS50.set_1 | refine IsS50.far ?_ NB249_246.out _) | exact HI249.out)); (case side2 => repeat (first | (with_reducible first | exact HB.out | apply below_alloc | apply pw_below_drewN | apply below_drew1 | refine below_set ?_ (IsS50.ge HI249.out) | refine below_set ?_ GE246.out) | exact HB.out)); rintro e w26 ⟨rfl, hi, hb, hk⟩; refine ⟨_, rfl, ?_⟩; have n0_ := Aside0.mk (KeepBut.blk hk (g' := gb246) (o := .cells #[.int .i64 a8_0, .int .i64 a8_1, .int .i64 a8_2, .int .i64 a8_3] 31 (0, 0)) (by (with_reducible repeat (first | refine blk_drewN ?_ _ | refine blk_drew ?_ | refine blk_alloc ?_ _)); exact BK246.out) NB246_249.out (by simp)); have n1_ := Aside0.mk (hb); have n2_ := Aside0.mk (hi); clear BK246; clear HB; clear HI249; have BK246 := n0_; have HB := n1_; have HI249 := n2_; clear n0_ n1_ n2_; (try clear hb); (try clear hb2); (try clear hk); (try clear hi)) | ((with_reducible refine gate_callee (f := 13) rfl ?_); refine goesL_ (some 37) rfl rfl Try.func13 (by kernel_rfl) rfl #[.pointer (some ⟨g249, 0, none⟩), .int .i64 5] rfl (by (try simp only [List.map_toArray, List.map_cons, List.map_nil]); first | done | rfl | (simp only [List.length_drop, List.length_take]; rfl)) ?_; (with_reducible refine (tilefarmgen_Tape_Next.calls g249 t247 t255 5 t256 t257 w _ ?side1 ?side2 A17.out).mono ?_); (case side1 => repeat (first | (with_reducible first | exact HI249.out | apply IsS50.alloc | apply IsS50.drewN | apply IsS50.drew | apply IsS50.set_1 | refine IsS50.far ?_ NB249_246.out _) | exact HI249.out)); (case side2 => repeat (first | (with_reducible first | exact HB.out | apply below_alloc | apply pw_below_drewN | apply below_drew1 | refine below_set ?_ (IsS50.ge HI249.out) | refine below_set ?_ GE246.out) | exact HB.out)); rintro e w27 ⟨rfl, hi, hb, hk⟩; refine ⟨_, rfl, ?_⟩; have n0_ := Aside0.mk (KeepBut.blk hk (g' := gb246) (o := .cells #[.int .i64 a8_0, .int .i64 a8_1, .int .i64 a8_2, .int .i64 a8_3] 31 (0, 0)) (by (with_reducible repeat (first | refine blk_drewN ?_ _ | refine blk_drew ?_ | refine blk_alloc ?_ _)); exact BK246.out) NB246_249.out (by simp)); have n1_ := Aside0.mk (hb); have n2_ := Aside0.mk (hi); clear BK246; clear HB; clear HI249; have BK246 := n0_; have HB := n1_; have HI249 := n2_; clear n0_ n1_ n2_; (try clear hb); (try clear hb2); (try clear hk); (try clear hi)) | ((with_reducible refine gate_callee (f := 13) rfl ?_); refine goesL_ (some 40) rfl rfl Try.func13 (by kernel_rfl) rfl #[.pointer (some ⟨g249, 0, none⟩), .int .i64 30] rfl (by (try simp only [List.map_toArray, List.map_cons, List.map_nil]); first | done | rfl | (simp only [List.length_drop, List.length_take]; rfl)) ?_; (with_reducible refine (tilefarmgen_Tape_Next.calls g249 t247 t257 30 t258 t259 w _ ?side1 ?side2 A18.out).mono ?_); (case side1 => repeat (first | (with_reducible first | exact HI249.out | apply IsS50.alloc | apply IsS50.drewN | apply IsS50.drew | apply IsS50.set_1 | refine IsS50.far ?_ NB249_246.out _) | exact HI249.out)); (case side2 => repeat (first | (with_reducible first | exact HB.out | apply below_alloc | apply pw_below_drewN | apply below_drew1 | refine below_set ?_ (IsS50.ge HI249.out) | refine below_set ?_ GE246.out) | exact HB.out)); rintro e w28 ⟨rfl, hi, hb, hk⟩; refine ⟨_, rfl, ?_⟩; have n0_ := Aside0.mk (KeepBut.blk hk (g' := gb246) (o := .cells #[.int .i64 a8_0, .int .i64 a8_1, .int .i64 a8_2, .int .i64 a8_3] 31 (0, 0)) (by (with_reducible repeat (first | refine blk_drewN ?_ _ | refine blk_drew ?_ | refine blk_alloc ?_ _)); exact BK246.out) NB246_249.out (by simp)); have n1_ := Aside0.mk (hb); have n2_ := Aside0.mk (hi); clear BK246; clear HB; clear HI249; have BK246 := n0_; have HB := n1_; have HI249 := n2_; clear n0_ n1_ n2_; (try clear hb); (try clear hb2); (try clear hk); (try clear hi)) | ((with_reducible refine gate_callee (f := 13) rfl ?_); refine goesL_ (some 43) rfl rfl Try.func13 (by kernel_rfl) rfl #[.pointer (some ⟨g249, 0, none⟩), .int .i64 14] rfl (by (try simp only [List.map_toArray, List.map_cons, List.map_nil]); first | done | rfl | (simp only [List.length_drop, List.length_take]; rfl)) ?_; (with_reducible refine (tilefarmgen_Tape_Next.calls g249 t247 t259 14 t260 t261 w _ ?side1 ?side2 A19.out).mono ?_); (case side1 => repeat (first | (with_reducible first | exact HI249.out | apply IsS50.alloc | apply IsS50.drewN | apply IsS50.drew | apply IsS50.set_1 | refine IsS50.far ?_ NB249_246.out _) | exact HI249.out)); (case side2 => repeat (first | (with_reducible first | exact HB.out | apply below_alloc | apply pw_below_drewN | apply below_drew1 | refine below_set ?_ (IsS50.ge HI249.out) | refine below_set ?_ GE246.out) | exact HB.out)); rintro e w29 ⟨rfl, hi, hb, hk⟩; refine ⟨_, rfl, ?_⟩; have n0_ := Aside0.mk (KeepBut.blk hk (g' := gb246) (o := .cells #[.int .i64 a8_0, .int .i64 a8_1, .int .i64 a8_2, .int .i64 a8_3] 31 (0, 0)) (by (with_reducible repeat (first | refine blk_drewN ?_ _ | refine blk_drew ?_ | refine blk_alloc ?_ _)); exact BK246.out) NB246_249.out (by simp)); have n1_ := Aside0.mk (hb); have n2_ := Aside0.mk (hi); clear BK246; clear HB; clear HI249; have BK246 := n0_; have HB := n1_; have HI249 := n2_; clear n0_ n1_ n2_; (try clear hb); (try clear hb2); (try clear hk); (try clear hi)) | ((with_reducible refine gate_callee (f := 13) rfl ?_); refine goesL_ (some 46) rfl rfl Try.func13 (by kernel_rfl) rfl #[.pointer (some ⟨g249, 0, none⟩), .int .i64 14] rfl (by (try simp only [List.map_toArray, List.map_cons, List.map_nil]); first | done | rfl | (simp only [List.length_drop, List.length_take]; rfl)) ?_; (with_reducible refine (tilefarmgen_Tape_Next.calls g249 t247 t261 14 t262 t263 w _ ?side1 ?side2 A20.out).mono ?_); (case side1 => repeat (first | (with_reducible first | exact HI249.out | apply IsS50.alloc | apply IsS50.drewN | apply IsS50.drew | apply IsS50.set_1 | refine IsS50.far ?_ NB249_246.out _) | exact HI249.out)); (case side2 => repeat (first | (with_reducible first | exact HB.out | apply below_alloc | apply pw_below_drewN | apply below_drew1 | refine below_set ?_ (IsS50.ge HI249.out) | refine below_set ?_ GE246.out) | exact HB.out)); rintro e w30 ⟨rfl, hi, hb, hk⟩; refine ⟨_, rfl, ?_⟩; have n0_ := Aside0.mk (KeepBut.blk hk (g' := gb246) (o := .cells #[.int .i64 a8_0, .int .i64 a8_1, .int .i64 a8_2, .int .i64 a8_3] 31 (0, 0)) (by (with_reducible repeat (first | refine blk_drewN ?_ _ | refine blk_drew ?_ | refine blk_alloc ?_ _)); exact BK246.out) NB246_249.out (by simp)); have n1_ := Aside0.mk (hb); have n2_ := Aside0.mk (hi); clear BK246; clear HB; clear HI249; have BK246 := n0_; have HB := n1_; have HI249 := n2_; clear n0_ n1_ n2_; (try clear hb); (try clear hb2); (try clear hk); (try clear hi)) | ((with_reducible refine gate_callee (f := 14) rfl ?_); refine goesL_ (some 49) rfl rfl Try.func14 (by kernel_rfl) rfl #[.pointer (some ⟨g249, 0, none⟩)] rfl (by (try simp only [List.map_toArray, List.map_cons, List.map_nil]); first | done | rfl | (simp only [List.length_drop, List.length_take]; rfl)) ?_; (with_reducible refine (tilefarmgen_Tape_Rect.calls g249 t247 t263 t264 t265 t266 t267 t268 w _ ?side1 ?side2 A21.out).mono ?_); (case side1 => repeat (first | (with_reducible first | exact HI249.out | apply IsS50.alloc | apply IsS50.drewN | apply IsS50.drew | apply IsS50.set_1 | refine IsS50.far ?_ NB249_246.out _) | exact HI249.out)); (case side2 => repeat (first | (with_reducible first | exact HB.out | apply below_alloc | apply pw_below_drewN | apply below_drew1 | refine below_set ?_ (IsS50.ge HI249.out) | refine below_set ?_ GE246.out) | exact HB.out)); rintro e w31 ⟨rfl, hi, hb, hk⟩; refine ⟨_, rfl, ?_⟩; have n0_ := Aside0.mk (KeepBut.blk hk (g' := gb246) (o := .cells #[.int .i64 a8_0, .int .i64 a8_1, .int .i64 a8_2, .int .i64 a8_3] 31 (0, 0)) (by (with_reducible repeat (first | refine blk_drewN ?_ _ | refine blk_drew ?_ | refine blk_alloc ?_ _)); exact BK246.out) NB246_249.out (by simp)); have n1_ := Aside0.mk (hb); have n2_ := Aside0.mk (hi); clear BK246; clear HB; clear HI249; have BK246 := n0_; have HB := n1_; have HI249 := n2_; clear n0_ n1_ n2_; (try clear hb); (try clear hb2); (try clear hk); (try clear hi)) | ((with_reducible refine gate_callee (f := 12) rfl ?_); refine goesL_ (some 50) rfl rfl Try.func12 (by kernel_rfl) rfl #[.int .i64 (wrap64 (1 + t250)), .int .i64 (wrap64 (1 + t252)), .int .i64 (wrap64 (1 + t254)), .int .i64 (wrap64 (1 + t256)), .int .i64 (wrap64 (t258 - 1)), .int .i64 (wrap64 (t260 - 1)), .int .i64 (wrap64 (t262 - 1)), .agg #[.int .i64 t264, .int .i64 t265, .int .i64 t266, .int .i64 t267]] rfl (by (try simp only [List.map_toArray, List.map_cons, List.map_nil]); first | done | rfl | (simp only [List.length_drop, List.length_take]; rfl)) ?_; (with_reducible refine (tilefarmlaw5_agrees.calls k1 (wrap64 (1 + t250)) (wrap64 (1 + t252)) (wrap64 (1 + t254)) (wrap64 (1 + t256)) (wrap64 (t258 - 1)) (wrap64 (t260 - 1)) (wrap64 (t262 - 1)) t264 t265 t266 t267 true _ A22.out).mono ?_); rintro e w32 ⟨rfl, hb⟩; refine ⟨_, rfl, ?_⟩; have n0_ := Aside0.mk (blk_below (g := gb246) (o := .cells #[.int .i64 a8_0, .int .i64 a8_1, .int .i64 a8_2, .int .i64 a8_3] 31 (0, 0)) (by (with_reducible repeat (first | refine blk_drewN ?_ _ | refine blk_drew ?_ | refine blk_alloc ?_ _)); exact BK246.out) hb); have n1_ := Aside0.mk (IsS50.below (by repeat (first | (with_reducible first | exact HI249.out | apply IsS50.alloc | apply IsS50.drewN | apply IsS50.drew | apply IsS50.set_1 | refine IsS50.far ?_ NB249_246.out _) | exact HI249.out)) hb); have n2_ := Aside0.mk (below_step (by repeat (first | (with_reducible first | exact HB.out | apply below_alloc | apply pw_below_drewN | apply below_drew1 | refine below_set ?_ (IsS50.ge HI249.out) | refine below_set ?_ GE246.out) | exact HB.out)) hb); clear BK246; clear HI249; clear HB; have BK246 := n0_; have HI249 := n1_; have HB := n2_; clear n0_ n1_ n2_; (try clear hb); (try clear hb2); (try clear hk); (try clear hi)))
          go_roundg k1
          case measure => have := HK1.out; omega
          case rel => exact ⟨(wrap64 (x20_1 + 1)), (t268), (by first | rfl | (simp; done) | (simp [*]; done)), H', ⟨by have := HK1.out; omega⟩, ⟨by (with_reducible repeat (first | refine blk_drewN ?_ _ | refine blk_drew ?_ | refine blk_alloc ?_ _)); exact BK246.out⟩, ⟨by repeat (first | (with_reducible first | exact HI249.out | apply IsS50.alloc | apply IsS50.drewN | apply IsS50.drew | apply IsS50.set_1 | refine IsS50.far ?_ NB249_246.out _) | exact HI249.out)⟩, ⟨by repeat (first | (with_reducible first | exact HB.out | apply below_alloc | apply pw_below_drewN | apply below_drew1 | refine below_set ?_ (IsS50.ge HI249.out) | refine below_set ?_ GE246.out) | exact HB.out)⟩⟩
        · replace c23 := Bool.eq_false_iff.mpr c23
          subst c23
          have H1 : (some false) = some r := by rw [if_neg (show ¬ (false = true) by decide)] at H; exact H
          clear H
          have H := H1
          clear H1
          exact absurd ((Option.some.inj H).trans HT.out) (by decide)
      · rw [if_neg c13] at H
        have c13b0 : decide (x20_1 < 5) = false := decide_eq_false c13
        clear c13
        replace H := Option.bind_eq_some_iff.mp H
        obtain ⟨t270, A330, H⟩ := H
        replace H : ((tilefarmgen_Mod.f a2 40).bind fun t271 => ((tilefarmgen_Mod.f a3 64).bind fun t272 => ((tilefarmlaw5_agrees.f k1 (wrap64 (1 + t270)) (wrap64 (1 + t271)) (wrap64 (1 + t272)) a4 a5 a6 a7 a8_0 a8_1 a8_2 a8_3).bind fun t273 => (if t273 = true then ((tilefarmlaw5_agrees.f k1 a1 a2 a3 a4 a5 a6 a7 a8_0 a8_1 a8_2 a8_3).bind fun t274 => (if t274 = true then ((tilefarmgen_Mod.f a1 30).bind fun t275 => ((tilefarmgen_Mod.f a2 30).bind fun t276 => ((tilefarmgen_Mod.f a3 8).bind fun t277 => ((tilefarmgen_Mod.f a4 8).bind fun t278 => ((tilefarmlaw5_agrees.f k1 (wrap64 (1 + t275)) (wrap64 (1 + t276)) (wrap64 (1 + t277)) (wrap64 (1 + t278)) a5 a6 a7 a8_0 a8_1 a8_2 a8_3).bind fun t279 => (if t279 = true then ((tilefarmlaw5_sane.f k1).bind fun t280 => (some t280)) else (some false))))))) else (some false))) else (some false))))) = some r := H
        have A33 := Aside0.mk A330
        clear A330
        replace H := Option.bind_eq_some_iff.mp H
        obtain ⟨t271, A340, H⟩ := H
        replace H : ((tilefarmgen_Mod.f a3 64).bind fun t272 => ((tilefarmlaw5_agrees.f k1 (wrap64 (1 + t270)) (wrap64 (1 + t271)) (wrap64 (1 + t272)) a4 a5 a6 a7 a8_0 a8_1 a8_2 a8_3).bind fun t273 => (if t273 = true then ((tilefarmlaw5_agrees.f k1 a1 a2 a3 a4 a5 a6 a7 a8_0 a8_1 a8_2 a8_3).bind fun t274 => (if t274 = true then ((tilefarmgen_Mod.f a1 30).bind fun t275 => ((tilefarmgen_Mod.f a2 30).bind fun t276 => ((tilefarmgen_Mod.f a3 8).bind fun t277 => ((tilefarmgen_Mod.f a4 8).bind fun t278 => ((tilefarmlaw5_agrees.f k1 (wrap64 (1 + t275)) (wrap64 (1 + t276)) (wrap64 (1 + t277)) (wrap64 (1 + t278)) a5 a6 a7 a8_0 a8_1 a8_2 a8_3).bind fun t279 => (if t279 = true then ((tilefarmlaw5_sane.f k1).bind fun t280 => (some t280)) else (some false))))))) else (some false))) else (some false)))) = some r := H
        have A34 := Aside0.mk A340
        clear A340
        replace H := Option.bind_eq_some_iff.mp H
        obtain ⟨t272, A350, H⟩ := H
        replace H : ((tilefarmlaw5_agrees.f k1 (wrap64 (1 + t270)) (wrap64 (1 + t271)) (wrap64 (1 + t272)) a4 a5 a6 a7 a8_0 a8_1 a8_2 a8_3).bind fun t273 => (if t273 = true then ((tilefarmlaw5_agrees.f k1 a1 a2 a3 a4 a5 a6 a7 a8_0 a8_1 a8_2 a8_3).bind fun t274 => (if t274 = true then ((tilefarmgen_Mod.f a1 30).bind fun t275 => ((tilefarmgen_Mod.f a2 30).bind fun t276 => ((tilefarmgen_Mod.f a3 8).bind fun t277 => ((tilefarmgen_Mod.f a4 8).bind fun t278 => ((tilefarmlaw5_agrees.f k1 (wrap64 (1 + t275)) (wrap64 (1 + t276)) (wrap64 (1 + t277)) (wrap64 (1 + t278)) a5 a6 a7 a8_0 a8_1 a8_2 a8_3).bind fun t279 => (if t279 = true then ((tilefarmlaw5_sane.f k1).bind fun t280 => (some t280)) else (some false))))))) else (some false))) else (some false))) = some r := H
        have A35 := Aside0.mk A350
        clear A350
        replace H := Option.bind_eq_some_iff.mp H
        obtain ⟨t273, A360, H⟩ := H
        replace H : (if t273 = true then ((tilefarmlaw5_agrees.f k1 a1 a2 a3 a4 a5 a6 a7 a8_0 a8_1 a8_2 a8_3).bind fun t274 => (if t274 = true then ((tilefarmgen_Mod.f a1 30).bind fun t275 => ((tilefarmgen_Mod.f a2 30).bind fun t276 => ((tilefarmgen_Mod.f a3 8).bind fun t277 => ((tilefarmgen_Mod.f a4 8).bind fun t278 => ((tilefarmlaw5_agrees.f k1 (wrap64 (1 + t275)) (wrap64 (1 + t276)) (wrap64 (1 + t277)) (wrap64 (1 + t278)) a5 a6 a7 a8_0 a8_1 a8_2 a8_3).bind fun t279 => (if t279 = true then ((tilefarmlaw5_sane.f k1).bind fun t280 => (some t280)) else (some false))))))) else (some false))) else (some false)) = some r := H
        have A36 := Aside0.mk A360
        clear A360
        by_cases c37 : t273 = true
        · subst c37
          have H1 : ((tilefarmlaw5_agrees.f k1 a1 a2 a3 a4 a5 a6 a7 a8_0 a8_1 a8_2 a8_3).bind fun t274 => (if t274 = true then ((tilefarmgen_Mod.f a1 30).bind fun t275 => ((tilefarmgen_Mod.f a2 30).bind fun t276 => ((tilefarmgen_Mod.f a3 8).bind fun t277 => ((tilefarmgen_Mod.f a4 8).bind fun t278 => ((tilefarmlaw5_agrees.f k1 (wrap64 (1 + t275)) (wrap64 (1 + t276)) (wrap64 (1 + t277)) (wrap64 (1 + t278)) a5 a6 a7 a8_0 a8_1 a8_2 a8_3).bind fun t279 => (if t279 = true then ((tilefarmlaw5_sane.f k1).bind fun t280 => (some t280)) else (some false))))))) else (some false))) = some r := by rw [if_pos rfl] at H; exact H
          clear H
          have H := H1
          clear H1
          replace H := Option.bind_eq_some_iff.mp H
          obtain ⟨t274, A380, H⟩ := H
          replace H : (if t274 = true then ((tilefarmgen_Mod.f a1 30).bind fun t275 => ((tilefarmgen_Mod.f a2 30).bind fun t276 => ((tilefarmgen_Mod.f a3 8).bind fun t277 => ((tilefarmgen_Mod.f a4 8).bind fun t278 => ((tilefarmlaw5_agrees.f k1 (wrap64 (1 + t275)) (wrap64 (1 + t276)) (wrap64 (1 + t277)) (wrap64 (1 + t278)) a5 a6 a7 a8_0 a8_1 a8_2 a8_3).bind fun t279 => (if t279 = true then ((tilefarmlaw5_sane.f k1).bind fun t280 => (some t280)) else (some false))))))) else (some false)) = some r := H
          have A38 := Aside0.mk A380
          clear A380
          by_cases c39 : t274 = true
          · subst c39
            have H1 : ((tilefarmgen_Mod.f a1 30).bind fun t275 => ((tilefarmgen_Mod.f a2 30).bind fun t276 => ((tilefarmgen_Mod.f a3 8).bind fun t277 => ((tilefarmgen_Mod.f a4 8).bind fun t278 => ((tilefarmlaw5_agrees.f k1 (wrap64 (1 + t275)) (wrap64 (1 + t276)) (wrap64 (1 + t277)) (wrap64 (1 + t278)) a5 a6 a7 a8_0 a8_1 a8_2 a8_3).bind fun t279 => (if t279 = true then ((tilefarmlaw5_sane.f k1).bind fun t280 => (some t280)) else (some false))))))) = some r := by rw [if_pos rfl] at H; exact H
            clear H
            have H := H1
            clear H1
            replace H := Option.bind_eq_some_iff.mp H
            obtain ⟨t275, A400, H⟩ := H
            replace H : ((tilefarmgen_Mod.f a2 30).bind fun t276 => ((tilefarmgen_Mod.f a3 8).bind fun t277 => ((tilefarmgen_Mod.f a4 8).bind fun t278 => ((tilefarmlaw5_agrees.f k1 (wrap64 (1 + t275)) (wrap64 (1 + t276)) (wrap64 (1 + t277)) (wrap64 (1 + t278)) a5 a6 a7 a8_0 a8_1 a8_2 a8_3).bind fun t279 => (if t279 = true then ((tilefarmlaw5_sane.f k1).bind fun t280 => (some t280)) else (some false)))))) = some r := H
            have A40 := Aside0.mk A400
            clear A400
            replace H := Option.bind_eq_some_iff.mp H
            obtain ⟨t276, A410, H⟩ := H
            replace H : ((tilefarmgen_Mod.f a3 8).bind fun t277 => ((tilefarmgen_Mod.f a4 8).bind fun t278 => ((tilefarmlaw5_agrees.f k1 (wrap64 (1 + t275)) (wrap64 (1 + t276)) (wrap64 (1 + t277)) (wrap64 (1 + t278)) a5 a6 a7 a8_0 a8_1 a8_2 a8_3).bind fun t279 => (if t279 = true then ((tilefarmlaw5_sane.f k1).bind fun t280 => (some t280)) else (some false))))) = some r := H
            have A41 := Aside0.mk A410
            clear A410
            replace H := Option.bind_eq_some_iff.mp H
            obtain ⟨t277, A420, H⟩ := H
            replace H : ((tilefarmgen_Mod.f a4 8).bind fun t278 => ((tilefarmlaw5_agrees.f k1 (wrap64 (1 + t275)) (wrap64 (1 + t276)) (wrap64 (1 + t277)) (wrap64 (1 + t278)) a5 a6 a7 a8_0 a8_1 a8_2 a8_3).bind fun t279 => (if t279 = true then ((tilefarmlaw5_sane.f k1).bind fun t280 => (some t280)) else (some false)))) = some r := H
            have A42 := Aside0.mk A420
            clear A420
            replace H := Option.bind_eq_some_iff.mp H
            obtain ⟨t278, A430, H⟩ := H
            replace H : ((tilefarmlaw5_agrees.f k1 (wrap64 (1 + t275)) (wrap64 (1 + t276)) (wrap64 (1 + t277)) (wrap64 (1 + t278)) a5 a6 a7 a8_0 a8_1 a8_2 a8_3).bind fun t279 => (if t279 = true then ((tilefarmlaw5_sane.f k1).bind fun t280 => (some t280)) else (some false))) = some r := H
            have A43 := Aside0.mk A430
            clear A430
            replace H := Option.bind_eq_some_iff.mp H
            obtain ⟨t279, A440, H⟩ := H
            replace H : (if t279 = true then ((tilefarmlaw5_sane.f k1).bind fun t280 => (some t280)) else (some false)) = some r := H
            have A44 := Aside0.mk A440
            clear A440
            by_cases c45 : t279 = true
            · subst c45
              have H1 : ((tilefarmlaw5_sane.f k1).bind fun t280 => (some t280)) = some r := by rw [if_pos rfl] at H; exact H
              clear H
              have H := H1
              clear H1
              replace H := Option.bind_eq_some_iff.mp H
              obtain ⟨t280, A460, H⟩ := H
              replace H : (some t280) = some r := H
              have A46 := Aside0.mk A460
              clear A460
              obtain rfl := Option.some.inj H
              try go_wp2
              have n0_ := Aside0.mk (blk_drew BK246.out)
              have n1_ := Aside0.mk (IsS50.drew HI249.out)
              have n2_ := Aside0.mk (below_drew1 HB.out)
              clear BK246
              clear HI249
              clear HB
              have BK246 := n0_
              have HI249 := n1_
              have HB := n2_
              clear n0_ n1_ n2_
              refine start_ (n := 49) (S := fun w' => w'.cell? ⟨gb246, 0, none⟩ = some (.int .i64 a8_0) ∧ w'.cell? ⟨gb246, 1, none⟩ = some (.int .i64 a8_1) ∧ w'.cell? ⟨gb246, 2, none⟩ = some (.int .i64 a8_2) ∧ w'.cell? ⟨gb246, 3, none⟩ = some (.int .i64 a8_3)) (ds := []) #[false, false, false, false, false, false, false, false, false, false, false, false, false, false, false, false, false, false, false, false, false, false, false, false, false, false, false, false, false, false, false, false, false, false, false, false, false, false, false, false, false, false, false, false, false, false, false, false, false] (by kernel_rfl) rfl rfl ⟨(blk_cell BK246.out 0).trans rfl, (blk_cell BK246.out 1).trans rfl, (blk_cell BK246.out 2).trans rfl, (blk_cell BK246.out 3).trans rfl⟩ (fun hHeld => ?_); refine with_tabW tilefarmlaw5_GridTiles.tab7 tilefarmlaw5_GridTiles.bits7 (fun HT_ HW_ => ?_)
              generalize wr.drew = w47 at BK246 HI249 HB hHeld ⊢
              refine pure_ (i := 0) (N := some 52) (v := ?_) (a' := ?_) #[true, false, false, false, false, false, false, false, false, false, false, false, false, false, false, false, false, false, false, false, false, false, false, false, false, false, false, false, false, false, false, false, false, false, false, false, false, false, false, false, false, false, false, false, false, false, false, false, false] rfl rfl (any_of HT_.out (by kernel_rfl)) (fun _ _ _ h => h) (Or.inl ⟨by rfl, ?_⟩) ?_ ?_
              rotate_left
              · intro w'
                go_simp
                with_reducible rfl
              rotate_left
              · simp only [Act.put, List.setIfInBounds_toArray, List.set_cons_zero, List.set_cons_succ, i64_w, i32_w]
                rfl
              refine pure_ (i := 3) (N := some 55) (v := ?_) (a' := ?_) #[true, false, false, true, false, false, false, false, false, false, false, false, false, false, false, false, false, false, false, false, false, false, false, false, false, false, false, false, false, false, false, false, false, false, false, false, false, false, false, false, false, false, false, false, false, false, false, false, false] rfl rfl (any_of HT_.out (by kernel_rfl)) (fun _ _ _ h => h) (Or.inl ⟨by rfl, ?_⟩) ?_ ?_
              rotate_left
              · intro w'
                go_simp
                with_reducible rfl
              rotate_left
              · simp only [Act.put, List.setIfInBounds_toArray, List.set_cons_zero, List.set_cons_succ, i64_w, i32_w]
                rfl
              refine pure_ (i := 6) (N := some 58) (v := ?_) (a' := ?_) #[true, false, false, true, false, false, true, false, false, false, false, false, false, false, false, false, false, false, false, false, false, false, false, false, false, false, false, false, false, false, false, false, false, false, false, false, false, false, false, false, false, false, false, false, false, false, false, false, false] rfl rfl (any_of HT_.out (by kernel_rfl)) (fun _ _ _ h => h) (Or.inl ⟨by rfl, ?_⟩) ?_ ?_
              rotate_left
              · intro w'
                go_simp
                with_reducible rfl
              rotate_left
              · simp only [Act.put, List.setIfInBounds_toArray, List.set_cons_zero, List.set_cons_succ, i64_w, i32_w]
                rfl
              refine pure_ (i := 9) (N := some 61) (v := ?_) (a' := ?_) #[true, false, false, true, false, false, true, false, false, true, false, false, false, false, false, false, false, false, false, false, false, false, false, false, false, false, false, false, false, false, false, false, false, false, false, false, false, false, false, false, false, false, false, false, false, false, false, false, false] rfl rfl (any_of HT_.out (by kernel_rfl)) (fun _ _ _ h => h) (Or.inl ⟨by rfl, ?_⟩) ?_ ?_
              rotate_left
              · intro w'
                go_simp
                with_reducible rfl
              rotate_left
              · simp only [Act.put, List.setIfInBounds_toArray, List.set_cons_zero, List.set_cons_succ, i64_w, i32_w]
                rfl
              refine pure_ (i := 10) (N := some 62) (v := ?_) (a' := ?_) #[true, false, false, true, false, false, true, false, false, true, true, false, false, false, false, false, false, false, false, false, false, false, false, false, false, false, false, false, false, false, false, false, false, false, false, false, false, false, false, false, false, false, false, false, false, false, false, false, false] rfl rfl (any_of HT_.out (by kernel_rfl)) (fun _ _ _ h => h) (Or.inl ⟨by rfl, ?_⟩) ?_ ?_
              rotate_left
              · intro w'
                go_simp
                with_reducible rfl
              rotate_left
              · simp only [Act.put, List.setIfInBounds_toArray, List.set_cons_zero, List.set_cons_succ, i64_w, i32_w]
                rfl
              refine pure_ (i := 11) (N := some 63) (v := ?_) (a' := ?_) #[true, false, false, true, false, false, true, false, false, true, true, true, false, false, false, false, false, false, false, false, false, false, false, false, false, false, false, false, false, false, false, false, false, false, false, false, false, false, false, false, false, false, false, false, false, false, false, false, false] rfl rfl (any_of HT_.out (by kernel_rfl)) (fun _ _ _ h => h) (Or.inl ⟨by rfl, ?_⟩) ?_ ?_
              rotate_left
              · intro w'
                go_simp
                with_reducible rfl
              rotate_left
              · simp only [Act.put, List.setIfInBounds_toArray, List.set_cons_zero, List.set_cons_succ, i64_w, i32_w]
                rfl
              refine pure_ (i := 12) (N := some 64) (v := ?_) (a' := ?_) #[true, false, false, true, false, false, true, false, false, true, true, true, true, false, false, false, false, false, false, false, false, false, false, false, false, false, false, false, false, false, false, false, false, false, false, false, false, false, false, false, false, false, false, false, false, false, false, false, false] rfl rfl (any_of HT_.out (by kernel_rfl)) (fun _ _ _ h => h) (Or.inl ⟨by rfl, ?_⟩) ?_ ?_
              rotate_left
              · intro w'
                go_simp
                with_reducible rfl
              rotate_left
              · simp only [Act.put, List.setIfInBounds_toArray, List.set_cons_zero, List.set_cons_succ, i64_w, i32_w]
                rfl
              refine take_ (i := 13) (N := some 65) (v := ?_) (a' := ?_) #[true, false, false, true, false, false, true, false, false, true, true, true, true, true, false, false, false, false, false, false, false, false, false, false, false, false, false, false, false, false, false, false, false, false, false, false, false, false, false, false, false, false, false, false, false, false, false, false, false] rfl rfl (take_ofW HT_.out HW_.out (by kernel_rfl)) (fun _ _ _ h => h) (Or.inl ⟨by rfl, ?_⟩) hHeld ?_ ?_
              rotate_left
              · rintro w' ⟨s0, s1, s2, s3⟩
                go_simp
                with_reducible rfl
              rotate_left
              · simp only [Act.put, List.setIfInBounds_toArray, List.set_cons_zero, List.set_cons_succ, i64_w, i32_w]
                rfl
              refine one_ (i := 1) (N := some 53) #[true, true, false, true, false, false, true, false, false, true, true, true, true, true, false, false, false, false, false, false, false, false, false, false, false, false, false, false, false, false, false, false, false, false, false, false, false, false, false, false, false, false, false, false, false, false, false, false, false] rfl rfl (one_of HT_.out (by kernel_rfl)) (by decide) (fun K hK => ?_)
              refine goes_ Try.func7 (by kernel_rfl) rfl #[.int .i64 a1, .int .i64 128] (by rfl) rfl rfl (by (try simp only [List.map_toArray, List.map_cons, List.map_nil]); first | done | rfl | (simp only [List.length_drop, List.length_take]; rfl)) ?_
              with_reducible refine (tilefarmgen_Mod.calls a1 128 t270 _ A33.out).mono ?_
              rintro e w' ⟨rfl, ⟨nd, rfl⟩⟩
              refine ⟨_, rfl, ?_⟩
              refine hK.out _ _ ⟨(blk_cell BK246.out 0).trans rfl, (blk_cell BK246.out 1).trans rfl, (blk_cell BK246.out 2).trans rfl, (blk_cell BK246.out 3).trans rfl⟩ (fun hHeld => ?_)
              clear hK K
              refine norm_ (a' := ?_) ?_ ?_
              rotate_left
              · show Act.put _ (some 53) _ = _
                simp only [Act.put, List.setIfInBounds_toArray, List.set_cons_zero, List.set_cons_succ, i64_w, i32_w]
                rfl
              refine pure_ (i := 2) (N := some 54) (v := ?_) (a' := ?_) #[true, true, true, true, false, false, true, false, false, true, true, true, true, true, false, false, false, false, false, false, false, false, false, false, false, false, false, false, false, false, false, false, false, false, false, false, false, false, false, false, false, false, false, false, false, false, false, false, false] rfl rfl (any_of HT_.out (by kernel_rfl)) (fun _ _ _ h => h) (Or.inl ⟨by rfl, ?_⟩) ?_ ?_
              rotate_left
              · intro w'
                go_simp
                with_reducible rfl
              rotate_left
              · simp only [Act.put, List.setIfInBounds_toArray, List.set_cons_zero, List.set_cons_succ, i64_w, i32_w]
                rfl
              refine one_ (i := 4) (N := some 56) #[true, true, true, true, true, false, true, false, false, true, true, true, true, true, false, false, false, false, false, false, false, false, false, false, false, false, false, false, false, false, false, false, false, false, false, false, false, false, false, false, false, false, false, false, false, false, false, false, false] rfl rfl (one_of HT_.out (by kernel_rfl)) (by decide) (fun K hK => ?_)
              refine goes_ Try.func7 (by kernel_rfl) rfl #[.int .i64 a2, .int .i64 40] (by rfl) rfl rfl (by (try simp only [List.map_toArray, List.map_cons, List.map_nil]); first | done | rfl | (simp only [List.length_drop, List.length_take]; rfl)) ?_
              with_reducible refine (tilefarmgen_Mod.calls a2 40 t271 _ A34.out).mono ?_
              rintro e w' ⟨rfl, ⟨nd, rfl⟩⟩
              refine ⟨_, rfl, ?_⟩
              refine hK.out _ _ ⟨(blk_cell BK246.out 0).trans rfl, (blk_cell BK246.out 1).trans rfl, (blk_cell BK246.out 2).trans rfl, (blk_cell BK246.out 3).trans rfl⟩ (fun hHeld => ?_)
              clear hK K
              refine norm_ (a' := ?_) ?_ ?_
              rotate_left
              · show Act.put _ (some 56) _ = _
                simp only [Act.put, List.setIfInBounds_toArray, List.set_cons_zero, List.set_cons_succ, i64_w, i32_w]
                rfl
              refine pure_ (i := 5) (N := some 57) (v := ?_) (a' := ?_) #[true, true, true, true, true, true, true, false, false, true, true, true, true, true, false, false, false, false, false, false, false, false, false, false, false, false, false, false, false, false, false, false, false, false, false, false, false, false, false, false, false, false, false, false, false, false, false, false, false] rfl rfl (any_of HT_.out (by kernel_rfl)) (fun _ _ _ h => h) (Or.inl ⟨by rfl, ?_⟩) ?_ ?_
              rotate_left
              · intro w'
                go_simp
                with_reducible rfl
              rotate_left
              · simp only [Act.put, List.setIfInBounds_toArray, List.set_cons_zero, List.set_cons_succ, i64_w, i32_w]
                rfl
              refine one_ (i := 7) (N := some 59) #[true, true, true, true, true, true, true, true, false, true, true, true, true, true, false, false, false, false, false, false, false, false, false, false, false, false, false, false, false, false, false, false, false, false, false, false, false, false, false, false, false, false, false, false, false, false, false, false, false] rfl rfl (one_of HT_.out (by kernel_rfl)) (by decide) (fun K hK => ?_)
              refine goes_ Try.func7 (by kernel_rfl) rfl #[.int .i64 a3, .int .i64 64] (by rfl) rfl rfl (by (try simp only [List.map_toArray, List.map_cons, List.map_nil]); first | done | rfl | (simp only [List.length_drop, List.length_take]; rfl)) ?_
              with_reducible refine (tilefarmgen_Mod.calls a3 64 t272 _ A35.out).mono ?_
              rintro e w' ⟨rfl, ⟨nd, rfl⟩⟩
              refine ⟨_, rfl, ?_⟩
              refine hK.out _ _ ⟨(blk_cell BK246.out 0).trans rfl, (blk_cell BK246.out 1).trans rfl, (blk_cell BK246.out 2).trans rfl, (blk_cell BK246.out 3).trans rfl⟩ (fun hHeld => ?_)
              clear hK K
              refine norm_ (a' := ?_) ?_ ?_
              rotate_left
              · show Act.put _ (some 59) _ = _
                simp only [Act.put, List.setIfInBounds_toArray, List.set_cons_zero, List.set_cons_succ, i64_w, i32_w]
                rfl
              refine pure_ (i := 8) (N := some 60) (v := ?_) (a' := ?_) #[true, true, true, true, true, true, true, true, true, true, true, true, true, true, false, false, false, false, false, false, false, false, false, false, false, false, false, false, false, false, false, false, false, false, false, false, false, false, false, false, false, false, false, false, false, false, false, false, false] rfl rfl (any_of HT_.out (by kernel_rfl)) (fun _ _ _ h => h) (Or.inl ⟨by rfl, ?_⟩) ?_ ?_
              rotate_left
              · intro w'
                go_simp
                with_reducible rfl
              rotate_left
              · simp only [Act.put, List.setIfInBounds_toArray, List.set_cons_zero, List.set_cons_succ, i64_w, i32_w]
                rfl
              refine one_ (i := 14) (N := some 66) #[true, true, true, true, true, true, true, true, true, true, true, true, true, true, true, false, false, false, false, false, false, false, false, false, false, false, false, false, false, false, false, false, false, false, false, false, false, false, false, false, false, false, false, false, false, false, false, false, false] rfl rfl (one_of HT_.out (by kernel_rfl)) (by decide) (fun K hK => ?_)
              refine goes_ Try.func12 (by kernel_rfl) rfl #[.int .i64 (wrap64 (1 + t270)), .int .i64 (wrap64 (1 + t271)), .int .i64 (wrap64 (1 + t272)), .int .i64 a4, .int .i64 a5, .int .i64 a6, .int .i64 a7, .agg #[.int .i64 a8_0, .int .i64 a8_1, .int .i64 a8_2, .int .i64 a8_3]] (by rfl) rfl rfl (by (try simp only [List.map_toArray, List.map_cons, List.map_nil]); first | done | rfl | (simp only [List.length_drop, List.length_take]; rfl)) ?_
              with_reducible refine (tilefarmlaw5_agrees.calls k1 (wrap64 (1 + t270)) (wrap64 (1 + t271)) (wrap64 (1 + t272)) a4 a5 a6 a7 a8_0 a8_1 a8_2 a8_3 true _ A36.out).mono ?_
              rintro e w48 ⟨rfl, hb⟩
              refine ⟨_, rfl, ?_⟩
              have n0_ := Aside0.mk (blk_below (g := gb246) (o := .cells #[.int .i64 a8_0, .int .i64 a8_1, .int .i64 a8_2, .int .i64 a8_3] 31 (0, 0)) (by (with_reducible repeat (first | refine blk_drewN ?_ _ | refine blk_drew ?_ | refine blk_alloc ?_ _)); exact BK246.out) hb)
              have n1_ := Aside0.mk (IsS50.below (by repeat (first | (with_reducible first | exact HI249.out | apply IsS50.alloc | apply IsS50.drewN | apply IsS50.drew | apply IsS50.set_1 | refine IsS50.far ?_ NB249_246.out _) | exact HI249.out)) hb)
              have n2_ := Aside0.mk (below_step (by repeat (first | (with_reducible first | exact HB.out | apply below_alloc | apply pw_below_drewN | apply below_drew1 | refine below_set ?_ (IsS50.ge HI249.out) | refine below_set ?_ GE246.out) | exact HB.out)) hb)
              clear BK246
              clear HI249
              clear HB
              have BK246 := n0_
              have HI249 := n1_
              have HB := n2_
              clear n0_ n1_ n2_
              (try clear hb)
              (try clear hb2)
              (try clear hk)
              (try clear hi)
              refine hK.out _ _ ⟨(blk_cell BK246.out 0).trans rfl, (blk_cell BK246.out 1).trans rfl, (blk_cell BK246.out 2).trans rfl, (blk_cell BK246.out 3).trans rfl⟩ (fun hHeld => ?_)
              clear hK K
              refine norm_ (a' := ?_) ?_ ?_
              rotate_left
              · show Act.put _ (some 66) _ = _
                simp only [Act.put, List.setIfInBounds_toArray, List.set_cons_zero, List.set_cons_succ, i64_w, i32_w]
                rfl
              refine pure_ (i := 15) (N := some 67) (v := ?_) (a' := ?_) #[true, true, true, true, true, true, true, true, true, true, true, true, true, true, true, true, false, false, false, false, false, false, false, false, false, false, false, false, false, false, false, false, false, false, false, false, false, false, false, false, false, false, false, false, false, false, false, false, false] rfl rfl (any_of HT_.out (by kernel_rfl)) (fun _ _ _ h => h) (Or.inl ⟨by rfl, ?_⟩) ?_ ?_
              rotate_left
              · intro w'
                go_simp
                with_reducible rfl
              rotate_left
              · simp only [Act.put, List.setIfInBounds_toArray, List.set_cons_zero, List.set_cons_succ, i64_w, i32_w]
                rfl
              refine pure_ (i := 16) (N := some 68) (v := ?_) (a' := ?_) #[true, true, true, true, true, true, true, true, true, true, true, true, true, true, true, true, true, false, false, false, false, false, false, false, false, false, false, false, false, false, false, false, false, false, false, false, false, false, false, false, false, false, false, false, false, false, false, false, false] rfl rfl (any_of HT_.out (by kernel_rfl)) (fun _ _ _ h => h) (Or.inl ⟨by rfl, ?_⟩) ?_ ?_
              rotate_left
              · intro w'
                go_simp
                with_reducible rfl
              rotate_left
              · simp only [Act.put, List.setIfInBounds_toArray, List.set_cons_zero, List.set_cons_succ, i64_w, i32_w]
                rfl
              refine pure_ (i := 17) (N := some 69) (v := ?_) (a' := ?_) #[true, true, true, true, true, true, true, true, true, true, true, true, true, true, true, true, true, true, false, false, false, false, false, false, false, false, false, false, false, false, false, false, false, false, false, false, false, false, false, false, false, false, false, false, false, false, false, false, false] rfl rfl (any_of HT_.out (by kernel_rfl)) (fun _ _ _ h => h) (Or.inl ⟨by rfl, ?_⟩) ?_ ?_
              rotate_left
              · intro w'
                go_simp
                with_reducible rfl
              rotate_left
              · simp only [Act.put, List.setIfInBounds_toArray, List.set_cons_zero, List.set_cons_succ, i64_w, i32_w]
                rfl
              refine pure_ (i := 18) (N := some 70) (v := ?_) (a' := ?_) #[true, true, true, true, true, true, true, true, true, true, true, true, true, true, true, true, true, true, true, false, false, false, false, false, false, false, false, false, false, false, false, false, false, false, false, false, false, false, false, false, false, false, false, false, false, false, false, false, false] rfl rfl (any_of HT_.out (by kernel_rfl)) (fun _ _ _ h => h) (Or.inl ⟨by rfl, ?_⟩) ?_ ?_
              rotate_left
              · intro w'
                go_simp
                with_reducible rfl
              rotate_left
              · simp only [Act.put, List.setIfInBounds_toArray, List.set_cons_zero, List.set_cons_succ, i64_w, i32_w]
                rfl
              refine pure_ (i := 19) (N := some 71) (v := ?_) (a' := ?_) #[true, true, true, true, true, true, true, true, true, true, true, true, true, true, true, true, true, true, true, true, false, false, false, false, false, false, false, false, false, false, false, false, false, false, false, false, false, false, false, false, false, false, false, false, false, false, false, false, false] rfl rfl (any_of HT_.out (by kernel_rfl)) (fun _ _ _ h => h) (Or.inl ⟨by rfl, ?_⟩) ?_ ?_
              rotate_left
              · intro w'
                go_simp
                with_reducible rfl
              rotate_left
              · simp only [Act.put, List.setIfInBounds_toArray, List.set_cons_zero, List.set_cons_succ, i64_w, i32_w]
                rfl
              refine pure_ (i := 20) (N := some 72) (v := ?_) (a' := ?_) #[true, true, true, true, true, true, true, true, true, true, true, true, true, true, true, true, true, true, true, true, true, false, false, false, false, false, false, false, false, false, false, false, false, false, false, false, false, false, false, false, false, false, false, false, false, false, false, false, false] rfl rfl (any_of HT_.out (by kernel_rfl)) (fun _ _ _ h => h) (Or.inl ⟨by rfl, ?_⟩) ?_ ?_
              rotate_left
              · intro w'
                go_simp
                with_reducible rfl
              rotate_left
              · simp only [Act.put, List.setIfInBounds_toArray, List.set_cons_zero, List.set_cons_succ, i64_w, i32_w]
                rfl
              refine pure_ (i := 21) (N := some 73) (v := ?_) (a' := ?_) #[true, true, true, true, true, true, true, true, true, true, true, true, true, true, true, true, true, true, true, true, true, true, false, false, false, false, false, false, false, false, false, false, false, false, false, false, false, false, false, false, false, false, false, false, false, false, false, false, false] rfl rfl (any_of HT_.out (by kernel_rfl)) (fun _ _ _ h => h) (Or.inl ⟨by rfl, ?_⟩) ?_ ?_
              rotate_left
              · intro w'
                go_simp
                with_reducible rfl
              rotate_left
              · simp only [Act.put, List.setIfInBounds_toArray, List.set_cons_zero, List.set_cons_succ, i64_w, i32_w]
                rfl
              refine pure_ (i := 22) (N := some 74) (v := ?_) (a' := ?_) #[true, true, true, true, true, true, true, true, true, true, true, true, true, true, true, true, true, true, true, true, true, true, true, false, false, false, false, false, false, false, false, false, false, false, false, false, false, false, false, false, false, false, false, false, false, false, false, false, false] rfl rfl (any_of HT_.out (by kernel_rfl)) (fun _ _ _ h => h) (Or.inl ⟨by rfl, ?_⟩) ?_ ?_
              rotate_left
              · intro w'
                go_simp
                with_reducible rfl
              rotate_left
              · simp only [Act.put, List.setIfInBounds_toArray, List.set_cons_zero, List.set_cons_succ, i64_w, i32_w]
                rfl
              refine take_ (i := 23) (N := some 75) (v := ?_) (a' := ?_) #[true, true, true, true, true, true, true, true, true, true, true, true, true, true, true, true, true, true, true, true, true, true, true, true, false, false, false, false, false, false, false, false, false, false, false, false, false, false, false, false, false, false, false, false, false, false, false, false, false] rfl rfl (take_ofW HT_.out HW_.out (by kernel_rfl)) (fun _ _ _ h => h) (Or.inl ⟨by rfl, ?_⟩) hHeld ?_ ?_
              rotate_left
              · rintro w' ⟨s0, s1, s2, s3⟩
                go_simp
                with_reducible rfl
              rotate_left
              · simp only [Act.put, List.setIfInBounds_toArray, List.set_cons_zero, List.set_cons_succ, i64_w, i32_w]
                rfl
              refine one_ (i := 24) (N := some 76) #[true, true, true, true, true, true, true, true, true, true, true, true, true, true, true, true, true, true, true, true, true, true, true, true, true, false, false, false, false, false, false, false, false, false, false, false, false, false, false, false, false, false, false, false, false, false, false, false, false] rfl rfl (one_of HT_.out (by kernel_rfl)) (by decide) (fun K hK => ?_)
              refine goes_ Try.func12 (by kernel_rfl) rfl #[.int .i64 a1, .int .i64 a2, .int .i64 a3, .int .i64 a4, .int .i64 a5, .int .i64 a6, .int .i64 a7, .agg #[.int .i64 a8_0, .int .i64 a8_1, .int .i64 a8_2, .int .i64 a8_3]] (by rfl) rfl rfl (by (try simp only [List.map_toArray, List.map_cons, List.map_nil]); first | done | rfl | (simp only [List.length_drop, List.length_take]; rfl)) ?_
              with_reducible refine (tilefarmlaw5_agrees.calls k1 a1 a2 a3 a4 a5 a6 a7 a8_0 a8_1 a8_2 a8_3 true _ A38.out).mono ?_
              rintro e w49 ⟨rfl, hb⟩
              refine ⟨_, rfl, ?_⟩
              have n0_ := Aside0.mk (blk_below (g := gb246) (o := .cells #[.int .i64 a8_0, .int .i64 a8_1, .int .i64 a8_2, .int .i64 a8_3] 31 (0, 0)) (by (with_reducible repeat (first | refine blk_drewN ?_ _ | refine blk_drew ?_ | refine blk_alloc ?_ _)); exact BK246.out) hb)
              have n1_ := Aside0.mk (IsS50.below (by repeat (first | (with_reducible first | exact HI249.out | apply IsS50.alloc | apply IsS50.drewN | apply IsS50.drew | apply IsS50.set_1 | refine IsS50.far ?_ NB249_246.out _) | exact HI249.out)) hb)
              have n2_ := Aside0.mk (below_step (by repeat (first | (with_reducible first | exact HB.out | apply below_alloc | apply pw_below_drewN | apply below_drew1 | refine below_set ?_ (IsS50.ge HI249.out) | refine below_set ?_ GE246.out) | exact HB.out)) hb)
              clear BK246
              clear HI249
              clear HB
              have BK246 := n0_
              have HI249 := n1_
              have HB := n2_
              clear n0_ n1_ n2_
              (try clear hb)
              (try clear hb2)
              (try clear hk)
              (try clear hi)
              refine hK.out _ _ ⟨(blk_cell BK246.out 0).trans rfl, (blk_cell BK246.out 1).trans rfl, (blk_cell BK246.out 2).trans rfl, (blk_cell BK246.out 3).trans rfl⟩ (fun hHeld => ?_)
              clear hK K
              refine norm_ (a' := ?_) ?_ ?_
              rotate_left
              · show Act.put _ (some 76) _ = _
                simp only [Act.put, List.setIfInBounds_toArray, List.set_cons_zero, List.set_cons_succ, i64_w, i32_w]
                rfl
              refine pure_ (i := 25) (N := some 77) (v := ?_) (a' := ?_) #[true, true, true, true, true, true, true, true, true, true, true, true, true, true, true, true, true, true, true, true, true, true, true, true, true, true, false, false, false, false, false, false, false, false, false, false, false, false, false, false, false, false, false, false, false, false, false, false, false] rfl rfl (any_of HT_.out (by kernel_rfl)) (fun _ _ _ h => h) (Or.inl ⟨by rfl, ?_⟩) ?_ ?_
              rotate_left
              · intro w'
                go_simp
                with_reducible rfl
              rotate_left
              · simp only [Act.put, List.setIfInBounds_toArray, List.set_cons_zero, List.set_cons_succ, i64_w, i32_w]
                rfl
              refine pure_ (i := 26) (N := some 78) (v := ?_) (a' := ?_) #[true, true, true, true, true, true, true, true, true, true, true, true, true, true, true, true, true, true, true, true, true, true, true, true, true, true, true, false, false, false, false, false, false, false, false, false, false, false, false, false, false, false, false, false, false, false, false, false, false] rfl rfl (any_of HT_.out (by kernel_rfl)) (fun _ _ _ h => h) (Or.inl ⟨by rfl, ?_⟩) ?_ ?_
              rotate_left
              · intro w'
                go_simp
                with_reducible rfl
              rotate_left
              · simp only [Act.put, List.setIfInBounds_toArray, List.set_cons_zero, List.set_cons_succ, i64_w, i32_w]
                rfl
              refine pure_ (i := 27) (N := some 79) (v := ?_) (a' := ?_) #[true, true, true, true, true, true, true, true, true, true, true, true, true, true, true, true, true, true, true, true, true, true, true, true, true, true, true, true, false, false, false, false, false, false, false, false, false, false, false, false, false, false, false, false, false, false, false, false, false] rfl rfl (any_of HT_.out (by kernel_rfl)) (fun _ _ _ h => h) (Or.inl ⟨by rfl, ?_⟩) ?_ ?_
              rotate_left
              · intro w'
                go_simp
                with_reducible rfl
              rotate_left
              · simp only [Act.put, List.setIfInBounds_toArray, List.set_cons_zero, List.set_cons_succ, i64_w, i32_w]
                rfl
              refine pure_ (i := 30) (N := some 82) (v := ?_) (a' := ?_) #[true, true, true, true, true, true, true, true, true, true, true, true, true, true, true, true, true, true, true, true, true, true, true, true, true, true, true, true, false, false, true, false, false, false, false, false, false, false, false, false, false, false, false, false, false, false, false, false, false] rfl rfl (any_of HT_.out (by kernel_rfl)) (fun _ _ _ h => h) (Or.inl ⟨by rfl, ?_⟩) ?_ ?_
              rotate_left
              · intro w'
                go_simp
                with_reducible rfl
              rotate_left
              · simp only [Act.put, List.setIfInBounds_toArray, List.set_cons_zero, List.set_cons_succ, i64_w, i32_w]
                rfl
              refine pure_ (i := 33) (N := some 85) (v := ?_) (a' := ?_) #[true, true, true, true, true, true, true, true, true, true, true, true, true, true, true, true, true, true, true, true, true, true, true, true, true, true, true, true, false, false, true, false, false, true, false, false, false, false, false, false, false, false, false, false, false, false, false, false, false] rfl rfl (any_of HT_.out (by kernel_rfl)) (fun _ _ _ h => h) (Or.inl ⟨by rfl, ?_⟩) ?_ ?_
              rotate_left
              · intro w'
                go_simp
                with_reducible rfl
              rotate_left
              · simp only [Act.put, List.setIfInBounds_toArray, List.set_cons_zero, List.set_cons_succ, i64_w, i32_w]
                rfl
              refine pure_ (i := 36) (N := some 88) (v := ?_) (a' := ?_) #[true, true, true, true, true, true, true, true, true, true, true, true, true, true, true, true, true, true, true, true, true, true, true, true, true, true, true, true, false, false, true, false, false, true, false, false, true, false, false, false, false, false, false, false, false, false, false, false, false] rfl rfl (any_of HT_.out (by kernel_rfl)) (fun _ _ _ h => h) (Or.inl ⟨by rfl, ?_⟩) ?_ ?_
              rotate_left
              · intro w'
                go_simp
                with_reducible rfl
              rotate_left
              · simp only [Act.put, List.setIfInBounds_toArray, List.set_cons_zero, List.set_cons_succ, i64_w, i32_w]
                rfl
              refine pure_ (i := 39) (N := some 91) (v := ?_) (a' := ?_) #[true, true, true, true, true, true, true, true, true, true, true, true, true, true, true, true, true, true, true, true, true, true, true, true, true, true, true, true, false, false, true, false, false, true, false, false, true, false, false, true, false, false, false, false, false, false, false, false, false] rfl rfl (any_of HT_.out (by kernel_rfl)) (fun _ _ _ h => h) (Or.inl ⟨by rfl, ?_⟩) ?_ ?_
              rotate_left
              · intro w'
                go_simp
                with_reducible rfl
              rotate_left
              · simp only [Act.put, List.setIfInBounds_toArray, List.set_cons_zero, List.set_cons_succ, i64_w, i32_w]
                rfl
              refine pure_ (i := 40) (N := some 92) (v := ?_) (a' := ?_) #[true, true, true, true, true, true, true, true, true, true, true, true, true, true, true, true, true, true, true, true, true, true, true, true, true, true, true, true, false, false, true, false, false, true, false, false, true, false, false, true, true, false, false, false, false, false, false, false, false] rfl rfl (any_of HT_.out (by kernel_rfl)) (fun _ _ _ h => h) (Or.inl ⟨by rfl, ?_⟩) ?_ ?_
              rotate_left
              · intro w'
                go_simp
                with_reducible rfl
              rotate_left
              · simp only [Act.put, List.setIfInBounds_toArray, List.set_cons_zero, List.set_cons_succ, i64_w, i32_w]
                rfl
              refine pure_ (i := 41) (N := some 93) (v := ?_) (a' := ?_) #[true, true, true, true, true, true, true, true, true, true, true, true, true, true, true, true, true, true, true, true, true, true, true, true, true, true, true, true, false, false, true, false, false, true, false, false, true, false, false, true, true, true, false, false, false, false, false, false, false] rfl rfl (any_of HT_.out (by kernel_rfl)) (fun _ _ _ h => h) (Or.inl ⟨by rfl, ?_⟩) ?_ ?_
              rotate_left
              · intro w'
                go_simp
                with_reducible rfl
              rotate_left
              · simp only [Act.put, List.setIfInBounds_toArray, List.set_cons_zero, List.set_cons_succ, i64_w, i32_w]
                rfl
              refine take_ (i := 42) (N := some 94) (v := ?_) (a' := ?_) #[true, true, true, true, true, true, true, true, true, true, true, true, true, true, true, true, true, true, true, true, true, true, true, true, true, true, true, true, false, false, true, false, false, true, false, false, true, false, false, true, true, true, true, false, false, false, false, false, false] rfl rfl (take_ofW HT_.out HW_.out (by kernel_rfl)) (fun _ _ _ h => h) (Or.inl ⟨by rfl, ?_⟩) hHeld ?_ ?_
              rotate_left
              · rintro w' ⟨s0, s1, s2, s3⟩
                go_simp
                with_reducible rfl
              rotate_left
              · simp only [Act.put, List.setIfInBounds_toArray, List.set_cons_zero, List.set_cons_succ, i64_w, i32_w]
                rfl
              refine one_ (i := 28) (N := some 80) #[true, true, true, true, true, true, true, true, true, true, true, true, true, true, true, true, true, true, true, true, true, true, true, true, true, true, true, true, true, false, true, false, false, true, false, false, true, false, false, true, true, true, true, false, false, false, false, false, false] rfl rfl (one_of HT_.out (by kernel_rfl)) (by decide) (fun K hK => ?_)
              refine goes_ Try.func7 (by kernel_rfl) rfl #[.int .i64 a1, .int .i64 30] (by rfl) rfl rfl (by (try simp only [List.map_toArray, List.map_cons, List.map_nil]); first | done | rfl | (simp only [List.length_drop, List.length_take]; rfl)) ?_
              with_reducible refine (tilefarmgen_Mod.calls a1 30 t275 _ A40.out).mono ?_
              rintro e w' ⟨rfl, ⟨nd, rfl⟩⟩
              refine ⟨_, rfl, ?_⟩
              refine hK.out _ _ ⟨(blk_cell BK246.out 0).trans rfl, (blk_cell BK246.out 1).trans rfl, (blk_cell BK246.out 2).trans rfl, (blk_cell BK246.out 3).trans rfl⟩ (fun hHeld => ?_)
              clear hK K
              refine norm_ (a' := ?_) ?_ ?_
              rotate_left
              · show Act.put _ (some 80) _ = _
                simp only [Act.put, List.setIfInBounds_toArray, List.set_cons_zero, List.set_cons_succ, i64_w, i32_w]
                rfl
              refine pure_ (i := 29) (N := some 81) (v := ?_) (a' := ?_) #[true, true, true, true, true, true, true, true, true, true, true, true, true, true, true, true, true, true, true, true, true, true, true, true, true, true, true, true, true, true, true, false, false, true, false, false, true, false, false, true, true, true, true, false, false, false, false, false, false] rfl rfl (any_of HT_.out (by kernel_rfl)) (fun _ _ _ h => h) (Or.inl ⟨by rfl, ?_⟩) ?_ ?_
              rotate_left
              · intro w'
                go_simp
                with_reducible rfl
              rotate_left
              · simp only [Act.put, List.setIfInBounds_toArray, List.set_cons_zero, List.set_cons_succ, i64_w, i32_w]
                rfl
              refine one_ (i := 31) (N := some 83) #[true, true, true, true, true, true, true, true, true, true, true, true, true, true, true, true, true, true, true, true, true, true, true, true, true, true, true, true, true, true, true, true, false, true, false, false, true, false, false, true, true, true, true, false, false, false, false, false, false] rfl rfl (one_of HT_.out (by kernel_rfl)) (by decide) (fun K hK => ?_)
              refine goes_ Try.func7 (by kernel_rfl) rfl #[.int .i64 a2, .int .i64 30] (by rfl) rfl rfl (by (try simp only [List.map_toArray, List.map_cons, List.map_nil]); first | done | rfl | (simp only [List.length_drop, List.length_take]; rfl)) ?_
              with_reducible refine (tilefarmgen_Mod.calls a2 30 t276 _ A41.out).mono ?_
              rintro e w' ⟨rfl, ⟨nd, rfl⟩⟩
              refine ⟨_, rfl, ?_⟩
              refine hK.out _ _ ⟨(blk_cell BK246.out 0).trans rfl, (blk_cell BK246.out 1).trans rfl, (blk_cell BK246.out 2).trans rfl, (blk_cell BK246.out 3).trans rfl⟩ (fun hHeld => ?_)
              clear hK K
              refine norm_ (a' := ?_) ?_ ?_
              rotate_left
              · show Act.put _ (some 83) _ = _
                simp only [Act.put, List.setIfInBounds_toArray, List.set_cons_zero, List.set_cons_succ, i64_w, i32_w]
                rfl
              refine pure_ (i := 32) (N := some 84) (v := ?_) (a' := ?_) #[true, true, true, true, true, true, true, true, true, true, true, true, true, true, true, true, true, true, true, true, true, true, true, true, true, true, true, true, true, true, true, true, true, true, false, false, true, false, false, true, true, true, true, false, false, false, false, false, false] rfl rfl (any_of HT_.out (by kernel_rfl)) (fun _ _ _ h => h) (Or.inl ⟨by rfl, ?_⟩) ?_ ?_
              rotate_left
              · intro w'
                go_simp
                with_reducible rfl
              rotate_left
              · simp only [Act.put, List.setIfInBounds_toArray, List.set_cons_zero, List.set_cons_succ, i64_w, i32_w]
                rfl
              refine one_ (i := 34) (N := some 86) #[true, true, true, true, true, true, true, true, true, true, true, true, true, true, true, true, true, true, true, true, true, true, true, true, true, true, true, true, true, true, true, true, true, true, true, false, true, false, false, true, true, true, true, false, false, false, false, false, false] rfl rfl (one_of HT_.out (by kernel_rfl)) (by decide) (fun K hK => ?_)
              refine goes_ Try.func7 (by kernel_rfl) rfl #[.int .i64 a3, .int .i64 8] (by rfl) rfl rfl (by (try simp only [List.map_toArray, List.map_cons, List.map_nil]); first | done | rfl | (simp only [List.length_drop, List.length_take]; rfl)) ?_
              with_reducible refine (tilefarmgen_Mod.calls a3 8 t277 _ A42.out).mono ?_
              rintro e w' ⟨rfl, ⟨nd, rfl⟩⟩
              refine ⟨_, rfl, ?_⟩
              refine hK.out _ _ ⟨(blk_cell BK246.out 0).trans rfl, (blk_cell BK246.out 1).trans rfl, (blk_cell BK246.out 2).trans rfl, (blk_cell BK246.out 3).trans rfl⟩ (fun hHeld => ?_)
              clear hK K
              refine norm_ (a' := ?_) ?_ ?_
              rotate_left
              · show Act.put _ (some 86) _ = _
                simp only [Act.put, List.setIfInBounds_toArray, List.set_cons_zero, List.set_cons_succ, i64_w, i32_w]
                rfl
              refine pure_ (i := 35) (N := some 87) (v := ?_) (a' := ?_) #[true, true, true, true, true, true, true, true, true, true, true, true, true, true, true, true, true, true, true, true, true, true, true, true, true, true, true, true, true, true, true, true, true, true, true, true, true, false, false, true, true, true, true, false, false, false, false, false, false] rfl rfl (any_of HT_.out (by kernel_rfl)) (fun _ _ _ h => h) (Or.inl ⟨by rfl, ?_⟩) ?_ ?_
              rotate_left
              · intro w'
                go_simp
                with_reducible rfl
              rotate_left
              · simp only [Act.put, List.setIfInBounds_toArray, List.set_cons_zero, List.set_cons_succ, i64_w, i32_w]
                rfl
              refine one_ (i := 37) (N := some 89) #[true, true, true, true, true, true, true, true, true, true, true, true, true, true, true, true, true, true, true, true, true, true, true, true, true, true, true, true, true, true, true, true, true, true, true, true, true, true, false, true, true, true, true, false, false, false, false, false, false] rfl rfl (one_of HT_.out (by kernel_rfl)) (by decide) (fun K hK => ?_)
              refine goes_ Try.func7 (by kernel_rfl) rfl #[.int .i64 a4, .int .i64 8] (by rfl) rfl rfl (by (try simp only [List.map_toArray, List.map_cons, List.map_nil]); first | done | rfl | (simp only [List.length_drop, List.length_take]; rfl)) ?_
              with_reducible refine (tilefarmgen_Mod.calls a4 8 t278 _ A43.out).mono ?_
              rintro e w' ⟨rfl, ⟨nd, rfl⟩⟩
              refine ⟨_, rfl, ?_⟩
              refine hK.out _ _ ⟨(blk_cell BK246.out 0).trans rfl, (blk_cell BK246.out 1).trans rfl, (blk_cell BK246.out 2).trans rfl, (blk_cell BK246.out 3).trans rfl⟩ (fun hHeld => ?_)
              clear hK K
              refine norm_ (a' := ?_) ?_ ?_
              rotate_left
              · show Act.put _ (some 89) _ = _
                simp only [Act.put, List.setIfInBounds_toArray, List.set_cons_zero, List.set_cons_succ, i64_w, i32_w]
                rfl
              refine pure_ (i := 38) (N := some 90) (v := ?_) (a' := ?_) #[true, true, true, true, true, true, true, true, true, true, true, true, true, true, true, true, true, true, true, true, true, true, true, true, true, true, true, true, true, true, true, true, true, true, true, true, true, true, true, true, true, true, true, false, false, false, false, false, false] rfl rfl (any_of HT_.out (by kernel_rfl)) (fun _ _ _ h => h) (Or.inl ⟨by rfl, ?_⟩) ?_ ?_
              rotate_left
              · intro w'
                go_simp
                with_reducible rfl
              rotate_left
              · simp only [Act.put, List.setIfInBounds_toArray, List.set_cons_zero, List.set_cons_succ, i64_w, i32_w]
                rfl
              refine one_ (i := 43) (N := some 95) #[true, true, true, true, true, true, true, true, true, true, true, true, true, true, true, true, true, true, true, true, true, true, true, true, true, true, true, true, true, true, true, true, true, true, true, true, true, true, true, true, true, true, true, true, false, false, false, false, false] rfl rfl (one_of HT_.out (by kernel_rfl)) (by decide) (fun K hK => ?_)
              refine goes_ Try.func12 (by kernel_rfl) rfl #[.int .i64 (wrap64 (1 + t275)), .int .i64 (wrap64 (1 + t276)), .int .i64 (wrap64 (1 + t277)), .int .i64 (wrap64 (1 + t278)), .int .i64 a5, .int .i64 a6, .int .i64 a7, .agg #[.int .i64 a8_0, .int .i64 a8_1, .int .i64 a8_2, .int .i64 a8_3]] (by rfl) rfl rfl (by (try simp only [List.map_toArray, List.map_cons, List.map_nil]); first | done | rfl | (simp only [List.length_drop, List.length_take]; rfl)) ?_
              with_reducible refine (tilefarmlaw5_agrees.calls k1 (wrap64 (1 + t275)) (wrap64 (1 + t276)) (wrap64 (1 + t277)) (wrap64 (1 + t278)) a5 a6 a7 a8_0 a8_1 a8_2 a8_3 true _ A44.out).mono ?_
              rintro e w50 ⟨rfl, hb⟩
              refine ⟨_, rfl, ?_⟩
              have n0_ := Aside0.mk (blk_below (g := gb246) (o := .cells #[.int .i64 a8_0, .int .i64 a8_1, .int .i64 a8_2, .int .i64 a8_3] 31 (0, 0)) (by (with_reducible repeat (first | refine blk_drewN ?_ _ | refine blk_drew ?_ | refine blk_alloc ?_ _)); exact BK246.out) hb)
              have n1_ := Aside0.mk (IsS50.below (by repeat (first | (with_reducible first | exact HI249.out | apply IsS50.alloc | apply IsS50.drewN | apply IsS50.drew | apply IsS50.set_1 | refine IsS50.far ?_ NB249_246.out _) | exact HI249.out)) hb)
              have n2_ := Aside0.mk (below_step (by repeat (first | (with_reducible first | exact HB.out | apply below_alloc | apply pw_below_drewN | apply below_drew1 | refine below_set ?_ (IsS50.ge HI249.out) | refine below_set ?_ GE246.out) | exact HB.out)) hb)
              clear BK246
              clear HI249
              clear HB
              have BK246 := n0_
              have HI249 := n1_
              have HB := n2_
              clear n0_ n1_ n2_
              (try clear hb)
              (try clear hb2)
              (try clear hk)
              (try clear hi)
              refine hK.out _ _ ⟨(blk_cell BK246.out 0).trans rfl, (blk_cell BK246.out 1).trans rfl, (blk_cell BK246.out 2).trans rfl, (blk_cell BK246.out 3).trans rfl⟩ (fun hHeld => ?_)
              clear hK K
              refine norm_ (a' := ?_) ?_ ?_
              rotate_left
              · show Act.put _ (some 95) _ = _
                simp only [Act.put, List.setIfInBounds_toArray, List.set_cons_zero, List.set_cons_succ, i64_w, i32_w]
                rfl
              refine pure_ (i := 44) (N := some 96) (v := ?_) (a' := ?_) #[true, true, true, true, true, true, true, true, true, true, true, true, true, true, true, true, true, true, true, true, true, true, true, true, true, true, true, true, true, true, true, true, true, true, true, true, true, true, true, true, true, true, true, true, true, false, false, false, false] rfl rfl (any_of HT_.out (by kernel_rfl)) (fun _ _ _ h => h) (Or.inl ⟨by rfl, ?_⟩) ?_ ?_
              rotate_left
              · intro w'
                go_simp
                with_reducible rfl
              rotate_left
              · simp only [Act.put, List.setIfInBounds_toArray, List.set_cons_zero, List.set_cons_succ, i64_w, i32_w]
                rfl
              refine pure_ (i := 45) (N := some 97) (v := ?_) (a' := ?_) #[true, true, true, true, true, true, true, true, true, true, true, true, true, true, true, true, true, true, true, true, true, true, true, true, true, true, true, true, true, true, true, true, true, true, true, true, true, true, true, true, true, true, true, true, true, true, false, false, false] rfl rfl (any_of HT_.out (by kernel_rfl)) (fun _ _ _ h => h) (Or.inl ⟨by rfl, ?_⟩) ?_ ?_
              rotate_left
              · intro w'
                go_simp
                with_reducible rfl
              rotate_left
              · simp only [Act.put, List.setIfInBounds_toArray, List.set_cons_zero, List.set_cons_succ, i64_w, i32_w]
                rfl
              refine one_ (i := 46) (N := some 98) #[true, true, true, true, true, true, true, true, true, true, true, true, true, true, true, true, true, true, true, true, true, true, true, true, true, true, true, true, true, true, true, true, true, true, true, true, true, true, true, true, true, true, true, true, true, true, true, false, false] rfl rfl (one_of HT_.out (by kernel_rfl)) (by decide) (fun K hK => ?_)
              refine goes_ Try.func10 (by kernel_rfl) rfl #[] (by rfl) rfl rfl (by (try simp only [List.map_toArray, List.map_cons, List.map_nil]); first | done | rfl | (simp only [List.length_drop, List.length_take]; rfl)) ?_
              with_reducible refine (tilefarmlaw5_sane.calls k1  t280 _ A46.out).mono ?_
              rintro e w51 ⟨rfl, hb⟩
              refine ⟨_, rfl, ?_⟩
              have n0_ := Aside0.mk (blk_below (g := gb246) (o := .cells #[.int .i64 a8_0, .int .i64 a8_1, .int .i64 a8_2, .int .i64 a8_3] 31 (0, 0)) (by (with_reducible repeat (first | refine blk_drewN ?_ _ | refine blk_drew ?_ | refine blk_alloc ?_ _)); exact BK246.out) hb)
              have n1_ := Aside0.mk (IsS50.below (by repeat (first | (with_reducible first | exact HI249.out | apply IsS50.alloc | apply IsS50.drewN | apply IsS50.drew | apply IsS50.set_1 | refine IsS50.far ?_ NB249_246.out _) | exact HI249.out)) hb)
              have n2_ := Aside0.mk (below_step (by repeat (first | (with_reducible first | exact HB.out | apply below_alloc | apply pw_below_drewN | apply below_drew1 | refine below_set ?_ (IsS50.ge HI249.out) | refine below_set ?_ GE246.out) | exact HB.out)) hb)
              clear BK246
              clear HI249
              clear HB
              have BK246 := n0_
              have HI249 := n1_
              have HB := n2_
              clear n0_ n1_ n2_
              (try clear hb)
              (try clear hb2)
              (try clear hk)
              (try clear hi)
              refine hK.out _ _ ⟨(blk_cell BK246.out 0).trans rfl, (blk_cell BK246.out 1).trans rfl, (blk_cell BK246.out 2).trans rfl, (blk_cell BK246.out 3).trans rfl⟩ (fun hHeld => ?_)
              clear hK K
              refine norm_ (a' := ?_) ?_ ?_
              rotate_left
              · show Act.put _ (some 98) _ = _
                simp only [Act.put, List.setIfInBounds_toArray, List.set_cons_zero, List.set_cons_succ, i64_w, i32_w]
                rfl
              refine pure_ (i := 47) (N := some 99) (v := ?_) (a' := ?_) #[true, true, true, true, true, true, true, true, true, true, true, true, true, true, true, true, true, true, true, true, true, true, true, true, true, true, true, true, true, true, true, true, true, true, true, true, true, true, true, true, true, true, true, true, true, true, true, true, false] rfl rfl (any_of HT_.out (by kernel_rfl)) (fun _ _ _ h => h) (Or.inl ⟨by rfl, ?_⟩) ?_ ?_
              rotate_left
              · intro w'
                go_simp
                with_reducible rfl
              rotate_left
              · simp only [Act.put, List.setIfInBounds_toArray, List.set_cons_zero, List.set_cons_succ, i64_w, i32_w]
                rfl
              refine pure_ (i := 48) (N := some 18) (v := ?_) (a' := ?_) #[true, true, true, true, true, true, true, true, true, true, true, true, true, true, true, true, true, true, true, true, true, true, true, true, true, true, true, true, true, true, true, true, true, true, true, true, true, true, true, true, true, true, true, true, true, true, true, true, true] rfl rfl (any_of HT_.out (by kernel_rfl)) (fun _ _ _ h => h) (Or.inl ⟨by rfl, ?_⟩) ?_ ?_
              rotate_left
              · intro w'
                go_simp
                with_reducible rfl
              rotate_left
              · simp only [Act.put, List.setIfInBounds_toArray, List.set_cons_zero, List.set_cons_succ, i64_w, i32_w]
                rfl
              refine done_ (done_of HT_.out (by kernel_rfl)) ?_
              try go_wp2
              go_ret
              exact ⟨by first | rfl | (simp [errW_none, errW_some] <;> rfl) | (simp [*, errW_none, errW_some] <;> rfl), by repeat (first | (with_reducible first | exact HB.out | apply below_alloc | apply pw_below_drewN | apply below_drew1 | refine below_set ?_ (IsS50.ge HI249.out) | refine below_set ?_ GE246.out) | exact HB.out)⟩
            · replace c45 := Bool.eq_false_iff.mpr c45
              subst c45
              have H1 : (some false) = some r := by rw [if_neg (show ¬ (false = true) by decide)] at H; exact H
              clear H
              have H := H1
              clear H1
              exact absurd ((Option.some.inj H).trans HT.out) (by decide)
          · replace c39 := Bool.eq_false_iff.mpr c39
            subst c39
            have H1 : (some false) = some r := by rw [if_neg (show ¬ (false = true) by decide)] at H; exact H
            clear H
            have H := H1
            clear H1
            exact absurd ((Option.some.inj H).trans HT.out) (by decide)
        · replace c37 := Bool.eq_false_iff.mpr c37
          subst c37
          have H1 : (some false) = some r := by rw [if_neg (show ¬ (false = true) by decide)] at H; exact H
          clear H
          have H := H1
          clear H1
          exact absurd ((Option.some.inj H).trans HT.out) (by decide)

/-- THE ONE PURE STATEMENT of tilefarmlaw5_GridTiles: yours. -/
def tilefarmlaw5_GridTiles.Pure : Prop := ∀ (l0 : List Int) (a1 : Int) (a2 : Int) (a3 : Int) (a4 : Int) (a5 : Int) (a6 : Int) (a7 : Int) (a8_0 : Int) (a8_1 : Int) (a8_2 : Int) (a8_3 : Int), l0.length ≤ maxLen → l0.length * 8 ≤ 140737488351232 → (∀ x ∈ l0, (Lit.int .i64 x).wf = true) → (Lit.int .i64 a1).wf = true → (Lit.int .i64 a2).wf = true → (Lit.int .i64 a3).wf = true → (Lit.int .i64 a4).wf = true → (Lit.int .i64 a5).wf = true → (Lit.int .i64 a6).wf = true → (Lit.int .i64 a7).wf = true → (Lit.int .i64 a8_0).wf = true → (Lit.int .i64 a8_1).wf = true → (Lit.int .i64 a8_2).wf = true → (Lit.int .i64 a8_3).wf = true → ∃ k, tilefarmlaw5_GridTiles.f k l0 a1 a2 a3 a4 a5 a6 a7 a8_0 a8_1 a8_2 a8_3 = some true
theorem tilefarmlaw5_GridTiles.walk (P : tilefarmlaw5_GridTiles.Pure) (a0 : Option Addr) (len0 cap0 : Nat) (z0 : List Int) (a1 : Int) (a2 : Int) (a3 : Int) (a4 : Int) (a5 : Int) (a6 : Int) (a7 : Int) (a8_0 : Int) (a8_1 : Int) (a8_2 : Int) (a8_3 : Int) (w : World) (w0 : (a0 = none ∧ len0 = 0 ∧ cap0 = 0 ∧ z0 = []) ∨ ∃ x, a0 = some x ∧ len0 ≤ cap0 ∧ cap0 ≤ maxLen ∧ z0.length = cap0 ∧ (∀ i, i < z0.length → w.cell? (x.add i) = some (.int .i64 (z0.getD i 0))) ∧ ∀ n ∈ z0, (Lit.int .i64 n).wf = true) (y0 : len0 * 8 ≤ 140737488351232) (w1 : (Lit.int .i64 a1).wf = true) (w2 : (Lit.int .i64 a2).wf = true) (w3 : (Lit.int .i64 a3).wf = true) (w4 : (Lit.int .i64 a4).wf = true) (w5 : (Lit.int .i64 a5).wf = true) (w6 : (Lit.int .i64 a6).wf = true) (w7 : (Lit.int .i64 a7).wf = true) (w8_0 : (Lit.int .i64 a8_0).wf = true) (w8_1 : (Lit.int .i64 a8_1).wf = true) (w8_2 : (Lit.int .i64 a8_2).wf = true) (w8_3 : (Lit.int .i64 a8_3).wf = true) :
    Calls Try.prog 4 #[.slice a0 len0 cap0, .int .i64 a1, .int .i64 a2, .int .i64 a3, .int .i64 a4, .int .i64 a5, .int .i64 a6, .int .i64 a7, .agg #[.int .i64 a8_0, .int .i64 a8_1, .int .i64 a8_2, .int .i64 a8_3]] w fun e w' => e = .returned (.bool true) ∧ Below w.heap.size w w' := by
  obtain ⟨l0, rfl, hr0, hm0, hw0, hc0⟩ := ReadsInt.ofRowC w0
  obtain ⟨k, h⟩ := P l0 a1 a2 a3 a4 a5 a6 a7 a8_0 a8_1 a8_2 a8_3 hm0 y0 hw0 w1 w2 w3 w4 w5 w6 w7 w8_0 w8_1 w8_2 w8_3
  refine (tilefarmlaw5_GridTiles.calls k _ _ l0 a1 a2 a3 a4 a5 a6 a7 a8_0 a8_1 a8_2 a8_3 true w (Kd.C_of_reads (d := (0 : Int)) (h1 := fun _ => rfl) hr0) hc0 h).mono ?_
  rintro e w' ⟨rfl, hd⟩
  exact ⟨rfl, hd⟩

end Go.Proofs.Ytikpmojofdndnaa.PGridTiles

-- Written by a program of the session (wip/tools/pack.py): the printed texts, pruned; checked by Lean.
import Derived.Test.YtdkmgcckcimhfaaKRectComputesa
import Derived.Test.YtdkmgcckcimhfaaKRectComputesx0
import Derived.Test.YtdkmgcckcimhfaaKRectComputesx2
namespace Go.Proofs.Ytdkmgcckcimhfaa.PRectComputes
open Go.RowKit Go.Proofs.YtdkmgcckcimhfaaW.PrintWords Go.Proofs.YtdkmgcckcimhfaaW.PrintLast Go.Proofs.YtdkmgcckcimhfaaW.PrintMore
attribute [local go_sem] max2_int min2_int max_two min_two max_three min_three max_four min_four   -- for this text's walks alone
set_option linter.unusedVariables false
set_option linter.unusedSimpArgs false
def tilefarmgen_Tape_Rect.f (s0_0 : List Int) (s0_1 : Int) : Option (Int × Int × Int × Int × Int) := (tilefarmgen_Tape_Next.f s0_0 s0_1 8).bind fun bt108 => ((tilefarmgen_Tape_Next.f s0_0 bt108.2 8).bind fun bt110 => ((tilefarmgen_Tape_Next.f s0_0 bt110.2 6).bind fun bt113 => ((tilefarmgen_Tape_Next.f s0_0 bt113.2 6).bind fun bt115 => ((tilefarmgen_Tape_Next.f s0_0 bt115.2 14).bind fun bt117 => (if bt117.1 = 11 then (some (0, 0, 0, 0, bt117.2)) else (if bt117.1 = 12 then (some (wrap64 (bt108.1 - 2), wrap64 (bt110.1 - 2), wrap64 (bt108.1 - 2), wrap64 ((wrap64 ((wrap64 (bt110.1 - 2)) + 1)) + bt115.1), bt117.2)) else (if bt117.1 = 13 then ((tilefarmgen_Tape_Pick.f s0_0 bt117.2 (([(-1048576), (-1048577)] : List Int))).bind fun bt122 => ((tilefarmgen_Tape_Pick.f s0_0 bt122.2 (([1048576, 1048577] : List Int))).bind fun bt127 => (some (bt122.1, wrap64 (bt110.1 - 2), bt127.1, wrap64 ((wrap64 ((wrap64 (bt110.1 - 2)) + 1)) + bt115.1), bt127.2)))) else (some (wrap64 (bt108.1 - 2), wrap64 (bt110.1 - 2), wrap64 ((wrap64 ((wrap64 (bt108.1 - 2)) + 1)) + bt113.1), wrap64 ((wrap64 ((wrap64 (bt110.1 - 2)) + 1)) + bt115.1), bt117.2)))))))))
def tilefarmgen_Tape_Rect.T2 : Bool × List (List Nat × List Nat) := (true, [([], []), ([0], [0]), ([1], [1]), ([], []), ([3], [3]), ([2, 4], [2, 4]), ([], []), ([6], [6]), ([7], [7]), ([], []), ([9, 4], [9]), ([8, 10], [8, 10]), ([0, 1, 2, 3, 4, 5, 6, 7], []), ([12, 5, 10, 0, 1, 2, 3, 4, 5, 6, 7], [5, 12]), ([0, 1, 2, 3, 4, 5, 6, 7, 8, 9, 10, 11, 12, 13], []), ([14, 11, 13, 0, 1, 2, 3, 4, 5, 6, 7, 8, 9, 10, 11, 12, 13], [11, 14])])
def tilefarmgen_Tape_Rect.B2 : List Nat := [0, 1, 3, 0, 8, 31, 0, 64, 192, 0, 536, 2008, 255, 5887, 16383, 32767]
theorem tilefarmgen_Tape_Rect.tab2 : rtab .any (opsOf Try.f8 2) = tilefarmgen_Tape_Rect.T2 := by kernel_rfl
theorem tilefarmgen_Tape_Rect.bits2 : waitsOk tilefarmgen_Tape_Rect.T2.2 tilefarmgen_Tape_Rect.B2 = true := by kernel_rfl
set_option maxHeartbeats 8000000 in
set_option maxRecDepth 100000 in
theorem tilefarmgen_Tape_Rect.calls (g : Nat) (s0_0 : List Int) (s0_1 : Int) (r1 : Int) (r2 : Int) (r3 : Int) (r4 : Int) (r5 : Int) (w0 w : World) (hI : IsS46 w0 w g s0_0 s0_1) (hB : Below w0.heap.size w0 w) (h : tilefarmgen_Tape_Rect.f s0_0 s0_1 = some (r1, r2, r3, r4, r5)) :
    Calls Try.prog 8 #[.pointer (some ⟨g, 0, none⟩)] w fun e w' => e = .returned (.agg #[.int .i64 r1, .int .i64 r2, .int .i64 r3, .int .i64 r4]) ∧ IsS46 w0 w' g s0_0 r5 ∧ Below w0.heap.size w0 w' ∧ KeepBut w w' g none := by
  have hu26 := Try.underlying26
  have HI0 := Aside0.mk hI
  have HK := Aside0.mk (KeepBut.refl w g none)
  have HL := Aside0.mk hB.size
  clear hI
  have HW0 := Aside0.mk hB.size
  have HB := Aside0.mk hB
  clear hB
  have H : ((tilefarmgen_Tape_Next.f s0_0 s0_1 8).bind fun bt108 => ((tilefarmgen_Tape_Next.f s0_0 bt108.2 8).bind fun bt110 => ((tilefarmgen_Tape_Next.f s0_0 bt110.2 6).bind fun bt113 => ((tilefarmgen_Tape_Next.f s0_0 bt113.2 6).bind fun bt115 => ((tilefarmgen_Tape_Next.f s0_0 bt115.2 14).bind fun bt117 => (if bt117.1 = 11 then (some (0, 0, 0, 0, bt117.2)) else (if bt117.1 = 12 then (some (wrap64 (bt108.1 - 2), wrap64 (bt110.1 - 2), wrap64 (bt108.1 - 2), wrap64 ((wrap64 ((wrap64 (bt110.1 - 2)) + 1)) + bt115.1), bt117.2)) else (if bt117.1 = 13 then ((tilefarmgen_Tape_Pick.f s0_0 bt117.2 (([(-1048576), (-1048577)] : List Int))).bind fun bt122 => ((tilefarmgen_Tape_Pick.f s0_0 bt122.2 (([1048576, 1048577] : List Int))).bind fun bt127 => (some (bt122.1, wrap64 (bt110.1 - 2), bt127.1, wrap64 ((wrap64 ((wrap64 (bt110.1 - 2)) + 1)) + bt115.1), bt127.2)))) else (some (wrap64 (bt108.1 - 2), wrap64 (bt110.1 - 2), wrap64 ((wrap64 ((wrap64 (bt108.1 - 2)) + 1)) + bt113.1), wrap64 ((wrap64 ((wrap64 (bt110.1 - 2)) + 1)) + bt115.1), bt117.2)))))))))) = some (r1, r2, r3, r4, r5) := h
  clear h
  replace H := Option.bind_eq_some_iff.mp H
  obtain ⟨⟨t108, t109⟩, A20, H⟩ := H
  replace H : ((tilefarmgen_Tape_Next.f s0_0 t109 8).bind fun bt110 => ((tilefarmgen_Tape_Next.f s0_0 bt110.2 6).bind fun bt113 => ((tilefarmgen_Tape_Next.f s0_0 bt113.2 6).bind fun bt115 => ((tilefarmgen_Tape_Next.f s0_0 bt115.2 14).bind fun bt117 => (if bt117.1 = 11 then (some (0, 0, 0, 0, bt117.2)) else (if bt117.1 = 12 then (some (wrap64 (t108 - 2), wrap64 (bt110.1 - 2), wrap64 (t108 - 2), wrap64 ((wrap64 ((wrap64 (bt110.1 - 2)) + 1)) + bt115.1), bt117.2)) else (if bt117.1 = 13 then ((tilefarmgen_Tape_Pick.f s0_0 bt117.2 (([(-1048576), (-1048577)] : List Int))).bind fun bt122 => ((tilefarmgen_Tape_Pick.f s0_0 bt122.2 (([1048576, 1048577] : List Int))).bind fun bt127 => (some (bt122.1, wrap64 (bt110.1 - 2), bt127.1, wrap64 ((wrap64 ((wrap64 (bt110.1 - 2)) + 1)) + bt115.1), bt127.2)))) else (some (wrap64 (t108 - 2), wrap64 (bt110.1 - 2), wrap64 ((wrap64 ((wrap64 (t108 - 2)) + 1)) + bt113.1), wrap64 ((wrap64 ((wrap64 (bt110.1 - 2)) + 1)) + bt115.1), bt117.2))))))))) = some (r1, r2, r3, r4, r5) := H
  have A2 := Aside0.mk A20
  clear A20
  replace H := Option.bind_eq_some_iff.mp H
  obtain ⟨⟨t110, t111⟩, A30, H⟩ := H
  replace H : ((tilefarmgen_Tape_Next.f s0_0 t111 6).bind fun bt113 => ((tilefarmgen_Tape_Next.f s0_0 bt113.2 6).bind fun bt115 => ((tilefarmgen_Tape_Next.f s0_0 bt115.2 14).bind fun bt117 => (if bt117.1 = 11 then (some (0, 0, 0, 0, bt117.2)) else (if bt117.1 = 12 then (some (wrap64 (t108 - 2), wrap64 (t110 - 2), wrap64 (t108 - 2), wrap64 ((wrap64 ((wrap64 (t110 - 2)) + 1)) + bt115.1), bt117.2)) else (if bt117.1 = 13 then ((tilefarmgen_Tape_Pick.f s0_0 bt117.2 (([(-1048576), (-1048577)] : List Int))).bind fun bt122 => ((tilefarmgen_Tape_Pick.f s0_0 bt122.2 (([1048576, 1048577] : List Int))).bind fun bt127 => (some (bt122.1, wrap64 (t110 - 2), bt127.1, wrap64 ((wrap64 ((wrap64 (t110 - 2)) + 1)) + bt115.1), bt127.2)))) else (some (wrap64 (t108 - 2), wrap64 (t110 - 2), wrap64 ((wrap64 ((wrap64 (t108 - 2)) + 1)) + bt113.1), wrap64 ((wrap64 ((wrap64 (t110 - 2)) + 1)) + bt115.1), bt117.2)))))))) = some (r1, r2, r3, r4, r5) := H
  have A3 := Aside0.mk A30
  clear A30
  replace H := Option.bind_eq_some_iff.mp H
  obtain ⟨⟨t113, t114⟩, A40, H⟩ := H
  replace H : ((tilefarmgen_Tape_Next.f s0_0 t114 6).bind fun bt115 => ((tilefarmgen_Tape_Next.f s0_0 bt115.2 14).bind fun bt117 => (if bt117.1 = 11 then (some (0, 0, 0, 0, bt117.2)) else (if bt117.1 = 12 then (some (wrap64 (t108 - 2), wrap64 (t110 - 2), wrap64 (t108 - 2), wrap64 ((wrap64 ((wrap64 (t110 - 2)) + 1)) + bt115.1), bt117.2)) else (if bt117.1 = 13 then ((tilefarmgen_Tape_Pick.f s0_0 bt117.2 (([(-1048576), (-1048577)] : List Int))).bind fun bt122 => ((tilefarmgen_Tape_Pick.f s0_0 bt122.2 (([1048576, 1048577] : List Int))).bind fun bt127 => (some (bt122.1, wrap64 (t110 - 2), bt127.1, wrap64 ((wrap64 ((wrap64 (t110 - 2)) + 1)) + bt115.1), bt127.2)))) else (some (wrap64 (t108 - 2), wrap64 (t110 - 2), wrap64 ((wrap64 ((wrap64 (t108 - 2)) + 1)) + t113), wrap64 ((wrap64 ((wrap64 (t110 - 2)) + 1)) + bt115.1), bt117.2))))))) = some (r1, r2, r3, r4, r5) := H
  have A4 := Aside0.mk A40
  clear A40
  replace H := Option.bind_eq_some_iff.mp H
  obtain ⟨⟨t115, t116⟩, A50, H⟩ := H
  replace H : ((tilefarmgen_Tape_Next.f s0_0 t116 14).bind fun bt117 => (if bt117.1 = 11 then (some (0, 0, 0, 0, bt117.2)) else (if bt117.1 = 12 then (some (wrap64 (t108 - 2), wrap64 (t110 - 2), wrap64 (t108 - 2), wrap64 ((wrap64 ((wrap64 (t110 - 2)) + 1)) + t115), bt117.2)) else (if bt117.1 = 13 then ((tilefarmgen_Tape_Pick.f s0_0 bt117.2 (([(-1048576), (-1048577)] : List Int))).bind fun bt122 => ((tilefarmgen_Tape_Pick.f s0_0 bt122.2 (([1048576, 1048577] : List Int))).bind fun bt127 => (some (bt122.1, wrap64 (t110 - 2), bt127.1, wrap64 ((wrap64 ((wrap64 (t110 - 2)) + 1)) + t115), bt127.2)))) else (some (wrap64 (t108 - 2), wrap64 (t110 - 2), wrap64 ((wrap64 ((wrap64 (t108 - 2)) + 1)) + t113), wrap64 ((wrap64 ((wrap64 (t110 - 2)) + 1)) + t115), bt117.2)))))) = some (r1, r2, r3, r4, r5) := H
  have A5 := Aside0.mk A50
  clear A50
  replace H := Option.bind_eq_some_iff.mp H
  obtain ⟨⟨t117, t118⟩, A60, H⟩ := H
  replace H : (if t117 = 11 then (some (0, 0, 0, 0, t118)) else (if t117 = 12 then (some (wrap64 (t108 - 2), wrap64 (t110 - 2), wrap64 (t108 - 2), wrap64 ((wrap64 ((wrap64 (t110 - 2)) + 1)) + t115), t118)) else (if t117 = 13 then ((tilefarmgen_Tape_Pick.f s0_0 t118 (([(-1048576), (-1048577)] : List Int))).bind fun bt122 => ((tilefarmgen_Tape_Pick.f s0_0 bt122.2 (([1048576, 1048577] : List Int))).bind fun bt127 => (some (bt122.1, wrap64 (t110 - 2), bt127.1, wrap64 ((wrap64 ((wrap64 (t110 - 2)) + 1)) + t115), bt127.2)))) else (some (wrap64 (t108 - 2), wrap64 (t110 - 2), wrap64 ((wrap64 ((wrap64 (t108 - 2)) + 1)) + t113), wrap64 ((wrap64 ((wrap64 (t110 - 2)) + 1)) + t115), t118))))) = some (r1, r2, r3, r4, r5) := H
  have A6 := Aside0.mk A60
  clear A60
  by_cases c7 : t117 = 11
  · rw [if_pos c7] at H
    have c7b0 : (t117 == 11) = true := beq_iff_eq.mpr c7
    have c7b1 : (t117 != 11) = false := bne_eq_false_iff_eq.mpr c7
    clear c7
    simp only [Option.some.injEq, Prod.mk.injEq] at H
    obtain ⟨rfl, rfl, rfl, rfl, rfl⟩ := H
    go_enter Try.func8, Try.ntmps8
    try go_wp2_with (first | ((with_reducible refine gate_dst (N := 2) rfl ?_); refine box_event ?hg (N := 2) ?hd (cs := #[.int .i64 0, .int .i64 0, .int .i64 0, .int .i64 0]) (t := 26) ?hr ?_; (case hd => rfl); (case hg => rfl); (case hr => first | (go_simp; done) | (go_simp; rfl)); intro gb107 hg w8 hbox hb; have n0_ := Aside0.mk (IsS46.below q125_ hb); have n1_ := Aside0.mk (KeepBut.trans q126_ (KeepBut.of_below hb g none) (.inl rfl)); have n2_ := Aside0.mk (below_step q102_ hb); have n3_ := Aside0.mk (hbox); have n4_ := Aside0.mk ((q81_ : w.heap.size ≤ gb107)); have n5_ := Aside0.mk ((Nat.le_trans HW0.out (q81_ : w.heap.size ≤ gb107) : w0.heap.size ≤ gb107)); have n6_ := Aside0.mk ((q77_ : g ≠ gb107)); have n7_ := Aside0.mk ((q78_ : gb107 ≠ g)); clear HI0; clear HK; clear HB; have HI0 := n0_; have HK := n1_; have HB := n2_; have BK107 := n3_; have GW107 := n4_; have GE107 := n5_; have NB0_107 := n6_; have NB107_0 := n7_; clear n0_ n1_ n2_ n3_ n4_ n5_ n6_ n7_; clear hb hbox hg) | ((with_reducible refine gate_callee (f := 19) rfl ?_); refine goesL_ (some 5) rfl rfl Try.func19 (by kernel_rfl) rfl #[.pointer (some ⟨g, 0, none⟩), .int .i64 8] rfl q128_ ?_; (with_reducible refine (tilefarmgen_Tape_Next.calls g s0_0 s0_1 8 t108 t109 w0 _ ?side1 ?side2 A2.out).mono ?_); (case side1 => repeat (first | (with_reducible first | exact HI0.out | apply IsS46.alloc | apply IsS46.drewN | apply IsS46.drew | apply IsS46.set_1 | refine IsS46.far ?_ NB0_107.out _) | exact HI0.out)); (case side2 => repeat (first | (with_reducible first | exact HB.out | apply below_alloc | apply pw_below_drewN | apply below_drew1 | refine below_set ?_ (IsS46.ge HI0.out) | refine below_set ?_ GE107.out) | exact HB.out)); rintro e w9 ⟨rfl, hi, hb, hk⟩; refine ⟨_, rfl, ?_⟩; have n0_ := Aside0.mk (KeepBut.blk hk (g' := gb107) (o := .cells #[.int .i64 0, .int .i64 0, .int .i64 0, .int .i64 0] 26 (0, 0)) q130_ NB107_0.out (by simp)); have n1_ := Aside0.mk (KeepBut.trans q101_ hk (.inl rfl)); have n2_ := Aside0.mk (hb); have n3_ := Aside0.mk (hi); clear BK107; clear HK; clear HB; clear HI0; have BK107 := n0_; have HK := n1_; have HB := n2_; have HI0 := n3_; clear n0_ n1_ n2_ n3_; (try clear hb); (try clear hb2); (try clear hk); (try clear hi)) | ((with_reducible refine gate_callee (f := 19) rfl ?_); refine goesL_ (some 8) rfl rfl Try.func19 (by kernel_rfl) rfl #[.pointer (some ⟨g, 0, none⟩), .int .i64 8] rfl q128_ ?_; (with_reducible refine (tilefarmgen_Tape_Next.calls g s0_0 t109 8 t110 t111 w0 _ ?side1 ?side2 A3.out).mono ?_); (case side1 => repeat (first | (with_reducible first | exact HI0.out | apply IsS46.alloc | apply IsS46.drewN | apply IsS46.drew | apply IsS46.set_1 | refine IsS46.far ?_ NB0_107.out _) | exact HI0.out)); (case side2 => repeat (first | (with_reducible first | exact HB.out | apply below_alloc | apply pw_below_drewN | apply below_drew1 | refine below_set ?_ (IsS46.ge HI0.out) | refine below_set ?_ GE107.out) | exact HB.out)); rintro e w10 ⟨rfl, hi, hb, hk⟩; refine ⟨_, rfl, ?_⟩; have n0_ := Aside0.mk (KeepBut.blk hk (g' := gb107) (o := .cells #[.int .i64 0, .int .i64 0, .int .i64 0, .int .i64 0] 26 (0, 0)) q130_ NB107_0.out (by simp)); have n1_ := Aside0.mk (KeepBut.trans q101_ hk (.inl rfl)); have n2_ := Aside0.mk (hb); have n3_ := Aside0.mk (hi); clear BK107; clear HK; clear HB; clear HI0; have BK107 := n0_; have HK := n1_; have HB := n2_; have HI0 := n3_; clear n0_ n1_ n2_ n3_; (try clear hb); (try clear hb2); (try clear hk); (try clear hi)) | ((with_reducible refine gate_dst (N := 3) rfl ?_); refine box_event ?hg (N := 3) ?hd (cs := #[.int .i64 0, .int .i64 0, .int .i64 0, .int .i64 0]) (t := 26) ?hr ?_; (case hd => rfl); (case hg => rfl); (case hr => first | (go_simp; done) | (go_simp; rfl)); intro gb112 hg w11 hbox hb; have n0_ := Aside0.mk (IsS46.below q100_ hb); have n1_ := Aside0.mk (blk_below (g := gb107) (o := .cells #[.int .i64 0, .int .i64 0, .int .i64 0, .int .i64 0] 26 (0, 0)) q130_ hb); have n2_ := Aside0.mk (KeepBut.trans q101_ (KeepBut.of_below hb g none) (.inl rfl)); have n3_ := Aside0.mk (below_step q82_ hb); have n4_ := Aside0.mk (hbox); have n5_ := Aside0.mk ((q62_ : w.heap.size ≤ gb112)); have n6_ := Aside0.mk ((Nat.le_trans HW0.out (q62_ : w.heap.size ≤ gb112) : w0.heap.size ≤ gb112)); have n7_ := Aside0.mk ((q56_ : gb107 ≠ gb112)); have n8_ := Aside0.mk ((q57_ : gb112 ≠ gb107)); have n9_ := Aside0.mk ((q24_ : g ≠ gb112)); have n10_ := Aside0.mk ((q25_ : gb112 ≠ g)); clear HI0; clear BK107; clear HK; clear HB; have HI0 := n0_; have BK107 := n1_; have HK := n2_; have HB := n3_; have BK112 := n4_; have GW112 := n5_; have GE112 := n6_; have NB107_112 := n7_; have NB112_107 := n8_; have NB0_112 := n9_; have NB112_0 := n10_; clear n0_ n1_ n2_ n3_ n4_ n5_ n6_ n7_ n8_ n9_ n10_; clear hb hbox hg; have hnb12 := NB112_107.out; have hnc12 := NB107_112.out; have hnb13 := NB112_0.out; have hnc13 := NB0_112.out; have hcz14_0 : w11.cell? ⟨gb112, 0, none⟩ = some (.int .i64 0) := (blk_cell BK112.out 0).trans rfl; have hcz14_1 : w11.cell? ⟨gb112, 1, none⟩ = some (.int .i64 0) := (blk_cell BK112.out 1).trans rfl; have hcz14_2 : w11.cell? ⟨gb112, 2, none⟩ = some (.int .i64 0) := (blk_cell BK112.out 2).trans rfl; have hcz14_3 : w11.cell? ⟨gb112, 3, none⟩ = some (.int .i64 0) := (blk_cell BK112.out 3).trans rfl; have hfz14_0 := blk_frozen BK112.out 0; have hfz14_1 := blk_frozen BK112.out 1; have hfz14_2 := blk_frozen BK112.out 2; have hfz14_3 := blk_frozen BK112.out 3))
    have n0_ : Aside0 (((((w11.setCell ⟨gb112, 0, none⟩ (.int .i64 (wrap64 (t108 - 2)))).setCell ⟨gb112, 1, none⟩ (.int .i64 (wrap64 (t110 - 2)))).setCell ⟨gb112, 2, none⟩ (.int .i64 0)).setCell ⟨gb112, 3, none⟩ (.int .i64 0)).heap[gb107]? = some (.cells #[.int .i64 0, .int .i64 0, .int .i64 0, .int .i64 0] 26 (0, 0))) := ⟨q8_⟩
    have n1_ : Aside0 (((((w11.setCell ⟨gb112, 0, none⟩ (.int .i64 (wrap64 (t108 - 2)))).setCell ⟨gb112, 1, none⟩ (.int .i64 (wrap64 (t110 - 2)))).setCell ⟨gb112, 2, none⟩ (.int .i64 0)).setCell ⟨gb112, 3, none⟩ (.int .i64 0)).heap[gb112]? = some (.cells #[.int .i64 (wrap64 (t108 - 2)), .int .i64 (wrap64 (t110 - 2)), .int .i64 0, .int .i64 0] 26 (0, 0))) := ⟨q1_⟩
    have n2_ : Aside0 (IsS46 w0 ((((w11.setCell ⟨gb112, 0, none⟩ (.int .i64 (wrap64 (t108 - 2)))).setCell ⟨gb112, 1, none⟩ (.int .i64 (wrap64 (t110 - 2)))).setCell ⟨gb112, 2, none⟩ (.int .i64 0)).setCell ⟨gb112, 3, none⟩ (.int .i64 0)) g s0_0 t111) := ⟨q79_⟩
    have n3_ : Aside0 (KeepBut w ((((w11.setCell ⟨gb112, 0, none⟩ (.int .i64 (wrap64 (t108 - 2)))).setCell ⟨gb112, 1, none⟩ (.int .i64 (wrap64 (t110 - 2)))).setCell ⟨gb112, 2, none⟩ (.int .i64 0)).setCell ⟨gb112, 3, none⟩ (.int .i64 0)) g none) := ⟨q80_⟩
    have n4_ : Aside0 (Below w0.heap.size w0 ((((w11.setCell ⟨gb112, 0, none⟩ (.int .i64 (wrap64 (t108 - 2)))).setCell ⟨gb112, 1, none⟩ (.int .i64 (wrap64 (t110 - 2)))).setCell ⟨gb112, 2, none⟩ (.int .i64 0)).setCell ⟨gb112, 3, none⟩ (.int .i64 0))) := ⟨q64_⟩
    (try clear BK107)
    (try clear BK112)
    (try clear HI0)
    (try clear HK)
    (try clear HB)
    generalize ((((w11.setCell ⟨gb112, 0, none⟩ (.int .i64 (wrap64 (t108 - 2)))).setCell ⟨gb112, 1, none⟩ (.int .i64 (wrap64 (t110 - 2)))).setCell ⟨gb112, 2, none⟩ (.int .i64 0)).setCell ⟨gb112, 3, none⟩ (.int .i64 0)) = w15 at n0_ n1_ n2_ n3_ n4_ ⊢
    have BK107 := n0_
    have BK112 := n1_
    have HI0 := n2_
    have HK := n3_
    have HB := n4_
    clear n0_ n1_ n2_ n3_ n4_
    have n0_ := Aside0.mk (blk_drew BK107.out)
    have n1_ := Aside0.mk (blk_drew BK112.out)
    have n2_ := Aside0.mk (IsS46.drew HI0.out)
    have n3_ := Aside0.mk (keep_drew HK.out)
    have n4_ := Aside0.mk (below_drew1 HB.out)
    clear BK107
    clear BK112
    clear HI0
    clear HK
    clear HB
    have BK107 := n0_
    have BK112 := n1_
    have HI0 := n2_
    have HK := n3_
    have HB := n4_
    clear n0_ n1_ n2_ n3_ n4_
    refine start_ (n := 16) (S := fun w' => w'.cell? ⟨gb112, 0, none⟩ = some (.int .i64 (wrap64 (t108 - 2))) ∧ w'.cell? ⟨gb112, 1, none⟩ = some (.int .i64 (wrap64 (t110 - 2))) ∧ w'.cell? ⟨gb112, 2, none⟩ = some (.int .i64 0) ∧ w'.cell? ⟨gb112, 3, none⟩ = some (.int .i64 0)) (ds := [13, 15]) #[false, false, false, false, false, false, false, false, false, false, false, false, false, false, false, false] (by kernel_rfl) rfl rfl ⟨(blk_cell BK112.out 0).trans rfl, (blk_cell BK112.out 1).trans rfl, (blk_cell BK112.out 2).trans rfl, (blk_cell BK112.out 3).trans rfl⟩ (fun hHeld => ?_); refine with_tabW tilefarmgen_Tape_Rect.tab2 tilefarmgen_Tape_Rect.bits2 (fun HT_ HW_ => ?_)
    generalize w15.drew = w16 at BK107 BK112 HI0 HK HB hHeld ⊢
    refine pure_ (i := 0) (N := some 11) (v := ?_) (a' := ?_) #[true, false, false, false, false, false, false, false, false, false, false, false, false, false, false, false] rfl rfl (any_of HT_.out (by kernel_rfl)) (fun _ _ _ h => h) (Or.inl ⟨by rfl, ?_⟩) ?_ ?_
    rotate_left
    · intro w'
      go_simp
      with_reducible rfl
    rotate_left
    · simp only [Act.put, List.setIfInBounds_toArray, List.set_cons_zero, List.set_cons_succ, i64_w, i32_w]
      rfl
    refine pure_ (i := 3) (N := some 14) (v := ?_) (a' := ?_) #[true, false, false, true, false, false, false, false, false, false, false, false, false, false, false, false] rfl rfl (any_of HT_.out (by kernel_rfl)) (fun _ _ _ h => h) (Or.inl ⟨by rfl, ?_⟩) ?_ ?_
    rotate_left
    · intro w'
      go_simp
      with_reducible rfl
    rotate_left
    · simp only [Act.put, List.setIfInBounds_toArray, List.set_cons_zero, List.set_cons_succ, i64_w, i32_w]
      rfl
    refine pure_ (i := 6) (N := some 17) (v := ?_) (a' := ?_) #[true, false, false, true, false, false, true, false, false, false, false, false, false, false, false, false] rfl rfl (any_of HT_.out (by kernel_rfl)) (fun _ _ _ h => h) (Or.inl ⟨by rfl, ?_⟩) ?_ ?_
    rotate_left
    · intro w'
      go_simp
      with_reducible rfl
    rotate_left
    · simp only [Act.put, List.setIfInBounds_toArray, List.set_cons_zero, List.set_cons_succ, i64_w, i32_w]
      rfl
    refine pure_ (i := 9) (N := some 20) (v := ?_) (a' := ?_) #[true, false, false, true, false, false, true, false, false, true, false, false, false, false, false, false] rfl rfl (any_of HT_.out (by kernel_rfl)) (fun _ _ _ h => h) (Or.inl ⟨by rfl, ?_⟩) ?_ ?_
    rotate_left
    · intro w'
      go_simp
      with_reducible rfl
    rotate_left
    · simp only [Act.put, List.setIfInBounds_toArray, List.set_cons_zero, List.set_cons_succ, i64_w, i32_w]
      rfl
    refine take_ (i := 1) (N := some 12) (v := ?_) (a' := ?_) #[true, true, false, true, false, false, true, false, false, true, false, false, false, false, false, false] rfl rfl (take_ofW HT_.out HW_.out (by kernel_rfl)) (fun _ _ _ h => h) (Or.inl ⟨by rfl, ?_⟩) hHeld ?_ ?_
    rotate_left
    · rintro w' ⟨s0, s1, s2, s3⟩
      go_simp
      with_reducible rfl
    rotate_left
    · simp only [Act.put, List.setIfInBounds_toArray, List.set_cons_zero, List.set_cons_succ, i64_w, i32_w]
      rfl
    refine pure_ (i := 2) (N := some 13) (v := ?_) (a' := ?_) #[true, true, true, true, false, false, true, false, false, true, false, false, false, false, false, false] rfl rfl (any_of HT_.out (by kernel_rfl)) (fun _ _ _ h => h) (Or.inl ⟨by rfl, ?_⟩) ?_ ?_
    rotate_left
    · intro w'
      go_simp
      with_reducible rfl
    rotate_left
    · simp only [Act.put, List.setIfInBounds_toArray, List.set_cons_zero, List.set_cons_succ, i64_w, i32_w]
      rfl
    refine take_ (i := 7) (N := some 18) (v := ?_) (a' := ?_) #[true, true, true, true, false, false, true, true, false, true, false, false, false, false, false, false] rfl rfl (take_ofW HT_.out HW_.out (by kernel_rfl)) (fun _ _ _ h => h) (Or.inl ⟨by rfl, ?_⟩) hHeld ?_ ?_
    rotate_left
    · rintro w' ⟨s0, s1, s2, s3⟩
      go_simp
      with_reducible rfl
    rotate_left
    · simp only [Act.put, List.setIfInBounds_toArray, List.set_cons_zero, List.set_cons_succ, i64_w, i32_w]
      rfl
    refine pure_ (i := 8) (N := some 19) (v := ?_) (a' := ?_) #[true, true, true, true, false, false, true, true, true, true, false, false, false, false, false, false] rfl rfl (any_of HT_.out (by kernel_rfl)) (fun _ _ _ h => h) (Or.inl ⟨by rfl, ?_⟩) ?_ ?_
    rotate_left
    · intro w'
      go_simp
      with_reducible rfl
    rotate_left
    · simp only [Act.put, List.setIfInBounds_toArray, List.set_cons_zero, List.set_cons_succ, i64_w, i32_w]
      rfl
    refine one_ (i := 4) (N := some 15) #[true, true, true, true, true, false, true, true, true, true, false, false, false, false, false, false] rfl rfl (one_of HT_.out (by kernel_rfl)) (by decide) (fun K hK => ?_)
    refine goes_ Try.func19 (by kernel_rfl) rfl #[.pointer (some ⟨g, 0, none⟩), .int .i64 6] (by rfl) rfl rfl q128_ ?_
    with_reducible refine (tilefarmgen_Tape_Next.calls g s0_0 t111 6 t113 t114 w0 _ ?side1 ?side2 A4.out).mono ?_
    (case side1 => repeat (first | (with_reducible first | exact HI0.out | apply IsS46.alloc | apply IsS46.drewN | apply IsS46.drew | apply IsS46.set_1 | refine IsS46.far ?_ NB0_107.out _ | refine IsS46.far ?_ NB0_112.out _) | exact HI0.out))
    (case side2 => repeat (first | (with_reducible first | exact HB.out | apply below_alloc | apply pw_below_drewN | apply below_drew1 | refine below_set ?_ (IsS46.ge HI0.out) | refine below_set ?_ GE107.out | refine below_set ?_ GE112.out) | exact HB.out))
    rintro e w17 ⟨rfl, hi, hb, hk⟩
    refine ⟨_, rfl, ?_⟩
    have n0_ := Aside0.mk (KeepBut.blk hk (g' := gb107) (o := .cells #[.int .i64 0, .int .i64 0, .int .i64 0, .int .i64 0] 26 (0, 0)) q130_ NB107_0.out (by simp))
    have n1_ := Aside0.mk (KeepBut.blk hk (g' := gb112) (o := .cells #[.int .i64 (wrap64 (t108 - 2)), .int .i64 (wrap64 (t110 - 2)), .int .i64 0, .int .i64 0] 26 (0, 0)) q131_ NB112_0.out (by simp))
    have n2_ := Aside0.mk (KeepBut.trans q80_ hk (.inl rfl))
    have n3_ := Aside0.mk (hb)
    have n4_ := Aside0.mk (hi)
    clear BK107
    clear BK112
    clear HK
    clear HB
    clear HI0
    have BK107 := n0_
    have BK112 := n1_
    have HK := n2_
    have HB := n3_
    have HI0 := n4_
    clear n0_ n1_ n2_ n3_ n4_
    (try clear hb)
    (try clear hb2)
    (try clear hk)
    (try clear hi)
    refine hK.out _ _ ⟨(blk_cell BK112.out 0).trans rfl, (blk_cell BK112.out 1).trans rfl, (blk_cell BK112.out 2).trans rfl, (blk_cell BK112.out 3).trans rfl⟩ (fun hHeld => ?_)
    clear hK K
    refine norm_ (a' := ?_) ?_ ?_
    rotate_left
    · show Act.put _ (some 15) _ = _
      simp only [Act.put, List.setIfInBounds_toArray, List.set_cons_zero, List.set_cons_succ, i64_w, i32_w]
      rfl
    refine pure_ (i := 5) (N := some 16) (v := ?_) (a' := ?_) #[true, true, true, true, true, true, true, true, true, true, false, false, false, false, false, false] rfl rfl (any_of HT_.out (by kernel_rfl)) (fun _ _ _ h => h) (Or.inl ⟨by rfl, ?_⟩) ?_ ?_
    rotate_left
    · intro w'
      go_simp
      with_reducible rfl
    rotate_left
    · simp only [Act.put, List.setIfInBounds_toArray, List.set_cons_zero, List.set_cons_succ, i64_w, i32_w]
      rfl
    refine pure_ (i := 12) (N := some 23) (v := ?_) (a' := ?_) #[true, true, true, true, true, true, true, true, true, true, false, false, true, false, false, false] rfl rfl (any_of HT_.out (by kernel_rfl)) (fun _ _ _ h => h) (Or.inl ⟨by rfl, ?_⟩) ?_ ?_
    rotate_left
    · intro w'
      go_simp
      with_reducible rfl
    rotate_left
    · simp only [Act.put, List.setIfInBounds_toArray, List.set_cons_zero, List.set_cons_succ, i64_w, i32_w]
      rfl
    refine one_ (i := 10) (N := some 21) #[true, true, true, true, true, true, true, true, true, true, true, false, true, false, false, false] rfl rfl (one_of HT_.out (by kernel_rfl)) (by decide) (fun K hK => ?_)
    refine goes_ Try.func19 (by kernel_rfl) rfl #[.pointer (some ⟨g, 0, none⟩), .int .i64 6] (by rfl) rfl rfl q128_ ?_
    with_reducible refine (tilefarmgen_Tape_Next.calls g s0_0 t114 6 t115 t116 w0 _ ?side1 ?side2 A5.out).mono ?_
    (case side1 => repeat (first | (with_reducible first | exact HI0.out | apply IsS46.alloc | apply IsS46.drewN | apply IsS46.drew | apply IsS46.set_1 | refine IsS46.far ?_ NB0_107.out _ | refine IsS46.far ?_ NB0_112.out _) | exact HI0.out))
    (case side2 => repeat (first | (with_reducible first | exact HB.out | apply below_alloc | apply pw_below_drewN | apply below_drew1 | refine below_set ?_ (IsS46.ge HI0.out) | refine below_set ?_ GE107.out | refine below_set ?_ GE112.out) | exact HB.out))
    rintro e w18 ⟨rfl, hi, hb, hk⟩
    refine ⟨_, rfl, ?_⟩
    have n0_ := Aside0.mk (KeepBut.blk hk (g' := gb107) (o := .cells #[.int .i64 0, .int .i64 0, .int .i64 0, .int .i64 0] 26 (0, 0)) q130_ NB107_0.out (by simp))
    have n1_ := Aside0.mk (KeepBut.blk hk (g' := gb112) (o := .cells #[.int .i64 (wrap64 (t108 - 2)), .int .i64 (wrap64 (t110 - 2)), .int .i64 0, .int .i64 0] 26 (0, 0)) q131_ NB112_0.out (by simp))
    have n2_ := Aside0.mk (KeepBut.trans q80_ hk (.inl rfl))
    have n3_ := Aside0.mk (hb)
    have n4_ := Aside0.mk (hi)
    clear BK107
    clear BK112
    clear HK
    clear HB
    clear HI0
    have BK107 := n0_
    have BK112 := n1_
    have HK := n2_
    have HB := n3_
    have HI0 := n4_
    clear n0_ n1_ n2_ n3_ n4_
    (try clear hb)
    (try clear hb2)
    (try clear hk)
    (try clear hi)
    refine hK.out _ _ ⟨(blk_cell BK112.out 0).trans rfl, (blk_cell BK112.out 1).trans rfl, (blk_cell BK112.out 2).trans rfl, (blk_cell BK112.out 3).trans rfl⟩ (fun hHeld => ?_)
    clear hK K
    refine norm_ (a' := ?_) ?_ ?_
    rotate_left
    · show Act.put _ (some 21) _ = _
      simp only [Act.put, List.setIfInBounds_toArray, List.set_cons_zero, List.set_cons_succ, i64_w, i32_w]
      rfl
    refine pure_ (i := 11) (N := some 22) (v := ?_) (a' := ?_) #[true, true, true, true, true, true, true, true, true, true, true, true, true, false, false, false] rfl rfl (any_of HT_.out (by kernel_rfl)) (fun _ _ _ h => h) (Or.inl ⟨by rfl, ?_⟩) ?_ ?_
    rotate_left
    · intro w'
      go_simp
      with_reducible rfl
    rotate_left
    · simp only [Act.put, List.setIfInBounds_toArray, List.set_cons_zero, List.set_cons_succ, i64_w, i32_w]
      rfl
    refine last_ (i := 13) (N := none) #[true, true, true, true, true, true, true, true, true, true, true, true, true, true, false, false] rfl rfl (one_of HT_.out (by kernel_rfl)) (by decide) (fun K hK => ?_)
    have hs19 : w18.cell? ⟨gb112, 2, none⟩ = some (.int .i64 0) := (blk_cell BK112.out 2).trans rfl
    have hfs19 := blk_frozen BK112.out 2
    have hns19_0 := NB107_112.out
    have hms19_0 := NB112_107.out
    refine skip_ (w1 := ?_) (by rfl) rfl ?_ ?_
    rotate_left
    · go_simp
      rfl
    refine hK.out _ _ ?_
    clear hK K
    refine pure_ (i := 14) (N := some 24) (v := ?_) (a' := ?_) #[true, true, true, true, true, true, true, true, true, true, true, true, true, true, true, false] rfl rfl (any_of HT_.out (by kernel_rfl)) (fun _ _ _ h => h) (Or.inl ⟨by rfl, ?_⟩) ?_ ?_
    rotate_left
    · intro w'
      go_simp
      with_reducible rfl
    rotate_left
    · simp only [Act.put, List.setIfInBounds_toArray, List.set_cons_zero, List.set_cons_succ, i64_w, i32_w]
      rfl
    refine last_ (i := 15) (N := none) #[true, true, true, true, true, true, true, true, true, true, true, true, true, true, true, true] rfl rfl (one_of HT_.out (by kernel_rfl)) (by decide) (fun K hK => ?_)
    have hs20 : w18.cell? ⟨gb112, 3, none⟩ = some (.int .i64 0) := (blk_cell BK112.out 3).trans rfl
    have hfs20 := blk_frozen BK112.out 3
    have hns20_0 := NB107_112.out
    have hms20_0 := NB112_107.out
    refine skip_ (w1 := ?_) (by rfl) rfl ?_ ?_
    rotate_left
    · go_simp
      rfl
    refine hK.out _ _ ?_
    clear hK K
    refine done_ (done_of HT_.out (by kernel_rfl)) ?_
    try go_wp2_with (first | ((with_reducible refine gate_callee (f := 19) rfl ?_); refine goesL_ (some 26) rfl rfl Try.func19 (by kernel_rfl) rfl #[.pointer (some ⟨g, 0, none⟩), .int .i64 14] rfl q128_ ?_; (with_reducible refine (tilefarmgen_Tape_Next.calls g s0_0 t116 14 t117 t118 w0 _ ?side1 ?side2 A6.out).mono ?_); (case side1 => repeat (first | (with_reducible first | exact HI0.out | apply IsS46.alloc | apply IsS46.drewN | apply IsS46.drew | apply IsS46.set_1 | refine IsS46.far ?_ NB0_107.out _ | refine IsS46.far ?_ NB0_112.out _) | exact HI0.out)); (case side2 => repeat (first | (with_reducible first | exact HB.out | apply below_alloc | apply pw_below_drewN | apply below_drew1 | refine below_set ?_ (IsS46.ge HI0.out) | refine below_set ?_ GE107.out | refine below_set ?_ GE112.out) | exact HB.out)); rintro e w21 ⟨rfl, hi, hb, hk⟩; refine ⟨_, rfl, ?_⟩; have n0_ := Aside0.mk (KeepBut.blk hk (g' := gb107) (o := .cells #[.int .i64 0, .int .i64 0, .int .i64 0, .int .i64 0] 26 (0, 0)) q21_ NB107_0.out (by simp)); have n1_ := Aside0.mk (KeepBut.blk hk (g' := gb112) (o := .cells #[.int .i64 (wrap64 (t108 - 2)), .int .i64 (wrap64 (t110 - 2)), .int .i64 (wrap64 ((wrap64 ((wrap64 (t108 - 2)) + 1)) + t113)), .int .i64 (wrap64 ((wrap64 ((wrap64 (t110 - 2)) + 1)) + t115))] 26 (0, 0)) q19_ NB112_0.out (by simp)); have n2_ := Aside0.mk (KeepBut.trans q80_ hk (.inl rfl)); have n3_ := Aside0.mk (hb); have n4_ := Aside0.mk (hi); clear BK107; clear BK112; clear HK; clear HB; clear HI0; have BK107 := n0_; have BK112 := n1_; have HK := n2_; have HB := n3_; have HI0 := n4_; clear n0_ n1_ n2_ n3_ n4_; (try clear hb); (try clear hb2); (try clear hk); (try clear hi); have hnb22 := NB107_0.out; have hnc22 := NB0_107.out; have hcz23_0 : w21.cell? ⟨gb107, 0, none⟩ = some (.int .i64 0) := (blk_cell BK107.out 0).trans rfl; have hcz23_1 : w21.cell? ⟨gb107, 1, none⟩ = some (.int .i64 0) := (blk_cell BK107.out 1).trans rfl; have hcz23_2 : w21.cell? ⟨gb107, 2, none⟩ = some (.int .i64 0) := (blk_cell BK107.out 2).trans rfl; have hcz23_3 : w21.cell? ⟨gb107, 3, none⟩ = some (.int .i64 0) := (blk_cell BK107.out 3).trans rfl; have hfz23_0 := blk_frozen BK107.out 0; have hfz23_1 := blk_frozen BK107.out 1; have hfz23_2 := blk_frozen BK107.out 2; have hfz23_3 := blk_frozen BK107.out 3))
    refine bodyPost_ret (results_cell_row rfl _ _ gb107 26 #[.int .i64 0, .int .i64 0, .int .i64 0, .int .i64 0] (0, 0) _ rfl (by (with_reducible repeat (first | refine blk_drewN ?_ _ | refine blk_drew ?_ | refine blk_alloc ?_ _)); refine blk_put (cs := #[.int .i64 0, .int .i64 0, .int .i64 0, .int .i64 0]) ?_ 3 _ rfl; (with_reducible repeat (first | refine blk_drewN ?_ _ | refine blk_drew ?_ | refine blk_alloc ?_ _)); refine blk_put (cs := #[.int .i64 0, .int .i64 0, .int .i64 0, .int .i64 0]) ?_ 2 _ rfl; (with_reducible repeat (first | refine blk_drewN ?_ _ | refine blk_drew ?_ | refine blk_alloc ?_ _)); refine blk_put (cs := #[.int .i64 0, .int .i64 0, .int .i64 0, .int .i64 0]) ?_ 1 _ rfl; (with_reducible repeat (first | refine blk_drewN ?_ _ | refine blk_drew ?_ | refine blk_alloc ?_ _)); refine blk_put (cs := #[.int .i64 0, .int .i64 0, .int .i64 0, .int .i64 0]) ?_ 0 _ rfl; (with_reducible repeat (first | refine blk_drewN ?_ _ | refine blk_drew ?_ | refine blk_alloc ?_ _)); exact BK107.out) Try.underlying26 rfl (by kernel_rfl)) rfl ?_
    exact ⟨q177_, q79_, q64_, q80_⟩
  · rw [if_neg c7] at H
    have c7b0 : (t117 == 11) = false := beq_eq_false_iff_ne.mpr c7
    have c7b1 : (t117 != 11) = true := bne_iff_ne.mpr c7
    by_cases c24 : t117 = 12
    · rw [if_pos c24] at H
      have c24b0 : (t117 == 12) = true := beq_iff_eq.mpr c24
      have c24b1 : (t117 != 12) = false := bne_eq_false_iff_eq.mpr c24
      clear c24
      simp only [Option.some.injEq, Prod.mk.injEq] at H
      obtain ⟨rfl, rfl, rfl, rfl, rfl⟩ := H
      go_enter Try.func8, Try.ntmps8
      try go_wp2_with (first | ((with_reducible refine gate_dst (N := 2) rfl ?_); refine box_event ?hg (N := 2) ?hd (cs := #[.int .i64 0, .int .i64 0, .int .i64 0, .int .i64 0]) (t := 26) ?hr ?_; (case hd => rfl); (case hg => rfl); (case hr => first | (go_simp; done) | (go_simp; rfl)); intro gb107 hg w25 hbox hb; have n0_ := Aside0.mk (IsS46.below q125_ hb); have n1_ := Aside0.mk (KeepBut.trans q126_ (KeepBut.of_below hb g none) (.inl rfl)); have n2_ := Aside0.mk (below_step q102_ hb); have n3_ := Aside0.mk (hbox); have n4_ := Aside0.mk ((q81_ : w.heap.size ≤ gb107)); have n5_ := Aside0.mk ((Nat.le_trans HW0.out (q81_ : w.heap.size ≤ gb107) : w0.heap.size ≤ gb107)); have n6_ := Aside0.mk ((q77_ : g ≠ gb107)); have n7_ := Aside0.mk ((q78_ : gb107 ≠ g)); clear HI0; clear HK; clear HB; have HI0 := n0_; have HK := n1_; have HB := n2_; have BK107 := n3_; have GW107 := n4_; have GE107 := n5_; have NB0_107 := n6_; have NB107_0 := n7_; clear n0_ n1_ n2_ n3_ n4_ n5_ n6_ n7_; clear hb hbox hg) | ((with_reducible refine gate_callee (f := 19) rfl ?_); refine goesL_ (some 5) rfl rfl Try.func19 (by kernel_rfl) rfl #[.pointer (some ⟨g, 0, none⟩), .int .i64 8] rfl q128_ ?_; (with_reducible refine (tilefarmgen_Tape_Next.calls g s0_0 s0_1 8 t108 t109 w0 _ ?side1 ?side2 A2.out).mono ?_); (case side1 => repeat (first | (with_reducible first | exact HI0.out | apply IsS46.alloc | apply IsS46.drewN | apply IsS46.drew | apply IsS46.set_1 | refine IsS46.far ?_ NB0_107.out _) | exact HI0.out)); (case side2 => repeat (first | (with_reducible first | exact HB.out | apply below_alloc | apply pw_below_drewN | apply below_drew1 | refine below_set ?_ (IsS46.ge HI0.out) | refine below_set ?_ GE107.out) | exact HB.out)); rintro e w26 ⟨rfl, hi, hb, hk⟩; refine ⟨_, rfl, ?_⟩; have n0_ := Aside0.mk (KeepBut.blk hk (g' := gb107) (o := .cells #[.int .i64 0, .int .i64 0, .int .i64 0, .int .i64 0] 26 (0, 0)) q130_ NB107_0.out (by simp)); have n1_ := Aside0.mk (KeepBut.trans q101_ hk (.inl rfl)); have n2_ := Aside0.mk (hb); have n3_ := Aside0.mk (hi); clear BK107; clear HK; clear HB; clear HI0; have BK107 := n0_; have HK := n1_; have HB := n2_; have HI0 := n3_; clear n0_ n1_ n2_ n3_; (try clear hb); (try clear hb2); (try clear hk); (try clear hi)) | ((with_reducible refine gate_callee (f := 19) rfl ?_); refine goesL_ (some 8) rfl rfl Try.func19 (by kernel_rfl) rfl #[.pointer (some ⟨g, 0, none⟩), .int .i64 8] rfl q128_ ?_; (with_reducible refine (tilefarmgen_Tape_Next.calls g s0_0 t109 8 t110 t111 w0 _ ?side1 ?side2 A3.out).mono ?_); (case side1 => repeat (first | (with_reducible first | exact HI0.out | apply IsS46.alloc | apply IsS46.drewN | apply IsS46.drew | apply IsS46.set_1 | refine IsS46.far ?_ NB0_107.out _) | exact HI0.out)); (case side2 => repeat (first | (with_reducible first | exact HB.out | apply below_alloc | apply pw_below_drewN | apply below_drew1 | refine below_set ?_ (IsS46.ge HI0.out) | refine below_set ?_ GE107.out) | exact HB.out)); rintro e w27 ⟨rfl, hi, hb, hk⟩; refine ⟨_, rfl, ?_⟩; have n0_ := Aside0.mk (KeepBut.blk hk (g' := gb107) (o := .cells #[.int .i64 0, .int .i64 0, .int .i64 0, .int .i64 0] 26 (0, 0)) q130_ NB107_0.out (by simp)); have n1_ := Aside0.mk (KeepBut.trans q101_ hk (.inl rfl)); have n2_ := Aside0.mk (hb); have n3_ := Aside0.mk (hi); clear BK107; clear HK; clear HB; clear HI0; have BK107 := n0_; have HK := n1_; have HB := n2_; have HI0 := n3_; clear n0_ n1_ n2_ n3_; (try clear hb); (try clear hb2); (try clear hk); (try clear hi)) | ((with_reducible refine gate_dst (N := 3) rfl ?_); refine box_event ?hg (N := 3) ?hd (cs := #[.int .i64 0, .int .i64 0, .int .i64 0, .int .i64 0]) (t := 26) ?hr ?_; (case hd => rfl); (case hg => rfl); (case hr => first | (go_simp; done) | (go_simp; rfl)); intro gb112 hg w28 hbox hb; have n0_ := Aside0.mk (IsS46.below q100_ hb); have n1_ := Aside0.mk (blk_below (g := gb107) (o := .cells #[.int .i64 0, .int .i64 0, .int .i64 0, .int .i64 0] 26 (0, 0)) q130_ hb); have n2_ := Aside0.mk (KeepBut.trans q101_ (KeepBut.of_below hb g none) (.inl rfl)); have n3_ := Aside0.mk (below_step q82_ hb); have n4_ := Aside0.mk (hbox); have n5_ := Aside0.mk ((q62_ : w.heap.size ≤ gb112)); have n6_ := Aside0.mk ((Nat.le_trans HW0.out (q62_ : w.heap.size ≤ gb112) : w0.heap.size ≤ gb112)); have n7_ := Aside0.mk ((q56_ : gb107 ≠ gb112)); have n8_ := Aside0.mk ((q57_ : gb112 ≠ gb107)); have n9_ := Aside0.mk ((q24_ : g ≠ gb112)); have n10_ := Aside0.mk ((q25_ : gb112 ≠ g)); clear HI0; clear BK107; clear HK; clear HB; have HI0 := n0_; have BK107 := n1_; have HK := n2_; have HB := n3_; have BK112 := n4_; have GW112 := n5_; have GE112 := n6_; have NB107_112 := n7_; have NB112_107 := n8_; have NB0_112 := n9_; have NB112_0 := n10_; clear n0_ n1_ n2_ n3_ n4_ n5_ n6_ n7_ n8_ n9_ n10_; clear hb hbox hg; have hnb29 := NB112_107.out; have hnc29 := NB107_112.out; have hnb30 := NB112_0.out; have hnc30 := NB0_112.out; have hcz31_0 : w28.cell? ⟨gb112, 0, none⟩ = some (.int .i64 0) := (blk_cell BK112.out 0).trans rfl; have hcz31_1 : w28.cell? ⟨gb112, 1, none⟩ = some (.int .i64 0) := (blk_cell BK112.out 1).trans rfl; have hcz31_2 : w28.cell? ⟨gb112, 2, none⟩ = some (.int .i64 0) := (blk_cell BK112.out 2).trans rfl; have hcz31_3 : w28.cell? ⟨gb112, 3, none⟩ = some (.int .i64 0) := (blk_cell BK112.out 3).trans rfl; have hfz31_0 := blk_frozen BK112.out 0; have hfz31_1 := blk_frozen BK112.out 1; have hfz31_2 := blk_frozen BK112.out 2; have hfz31_3 := blk_frozen BK112.out 3))
      have n0_ : Aside0 (((((w28.setCell ⟨gb112, 0, none⟩ (.int .i64 (wrap64 (t108 - 2)))).setCell ⟨gb112, 1, none⟩ (.int .i64 (wrap64 (t110 - 2)))).setCell ⟨gb112, 2, none⟩ (.int .i64 0)).setCell ⟨gb112, 3, none⟩ (.int .i64 0)).heap[gb107]? = some (.cells #[.int .i64 0, .int .i64 0, .int .i64 0, .int .i64 0] 26 (0, 0))) := ⟨q8_⟩
      have n1_ : Aside0 (((((w28.setCell ⟨gb112, 0, none⟩ (.int .i64 (wrap64 (t108 - 2)))).setCell ⟨gb112, 1, none⟩ (.int .i64 (wrap64 (t110 - 2)))).setCell ⟨gb112, 2, none⟩ (.int .i64 0)).setCell ⟨gb112, 3, none⟩ (.int .i64 0)).heap[gb112]? = some (.cells #[.int .i64 (wrap64 (t108 - 2)), .int .i64 (wrap64 (t110 - 2)), .int .i64 0, .int .i64 0] 26 (0, 0))) := ⟨q1_⟩
      have n2_ : Aside0 (IsS46 w0 ((((w28.setCell ⟨gb112, 0, none⟩ (.int .i64 (wrap64 (t108 - 2)))).setCell ⟨gb112, 1, none⟩ (.int .i64 (wrap64 (t110 - 2)))).setCell ⟨gb112, 2, none⟩ (.int .i64 0)).setCell ⟨gb112, 3, none⟩ (.int .i64 0)) g s0_0 t111) := ⟨q79_⟩
      have n3_ : Aside0 (KeepBut w ((((w28.setCell ⟨gb112, 0, none⟩ (.int .i64 (wrap64 (t108 - 2)))).setCell ⟨gb112, 1, none⟩ (.int .i64 (wrap64 (t110 - 2)))).setCell ⟨gb112, 2, none⟩ (.int .i64 0)).setCell ⟨gb112, 3, none⟩ (.int .i64 0)) g none) := ⟨q80_⟩
      have n4_ : Aside0 (Below w0.heap.size w0 ((((w28.setCell ⟨gb112, 0, none⟩ (.int .i64 (wrap64 (t108 - 2)))).setCell ⟨gb112, 1, none⟩ (.int .i64 (wrap64 (t110 - 2)))).setCell ⟨gb112, 2, none⟩ (.int .i64 0)).setCell ⟨gb112, 3, none⟩ (.int .i64 0))) := ⟨q64_⟩
      (try clear BK107)
      (try clear BK112)
      (try clear HI0)
      (try clear HK)
      (try clear HB)
      generalize ((((w28.setCell ⟨gb112, 0, none⟩ (.int .i64 (wrap64 (t108 - 2)))).setCell ⟨gb112, 1, none⟩ (.int .i64 (wrap64 (t110 - 2)))).setCell ⟨gb112, 2, none⟩ (.int .i64 0)).setCell ⟨gb112, 3, none⟩ (.int .i64 0)) = w32 at n0_ n1_ n2_ n3_ n4_ ⊢
      have BK107 := n0_
      have BK112 := n1_
      have HI0 := n2_
      have HK := n3_
      have HB := n4_
      clear n0_ n1_ n2_ n3_ n4_
      have n0_ := Aside0.mk (blk_drew BK107.out)
      have n1_ := Aside0.mk (blk_drew BK112.out)
      have n2_ := Aside0.mk (IsS46.drew HI0.out)
      have n3_ := Aside0.mk (keep_drew HK.out)
      have n4_ := Aside0.mk (below_drew1 HB.out)
      clear BK107
      clear BK112
      clear HI0
      clear HK
      clear HB
      have BK107 := n0_
      have BK112 := n1_
      have HI0 := n2_
      have HK := n3_
      have HB := n4_
      clear n0_ n1_ n2_ n3_ n4_
      refine start_ (n := 16) (S := fun w' => w'.cell? ⟨gb112, 0, none⟩ = some (.int .i64 (wrap64 (t108 - 2))) ∧ w'.cell? ⟨gb112, 1, none⟩ = some (.int .i64 (wrap64 (t110 - 2))) ∧ w'.cell? ⟨gb112, 2, none⟩ = some (.int .i64 0) ∧ w'.cell? ⟨gb112, 3, none⟩ = some (.int .i64 0)) (ds := [13, 15]) #[false, false, false, false, false, false, false, false, false, false, false, false, false, false, false, false] (by kernel_rfl) rfl rfl ⟨(blk_cell BK112.out 0).trans rfl, (blk_cell BK112.out 1).trans rfl, (blk_cell BK112.out 2).trans rfl, (blk_cell BK112.out 3).trans rfl⟩ (fun hHeld => ?_); refine with_tabW tilefarmgen_Tape_Rect.tab2 tilefarmgen_Tape_Rect.bits2 (fun HT_ HW_ => ?_)
      generalize w32.drew = w33 at BK107 BK112 HI0 HK HB hHeld ⊢
      refine pure_ (i := 0) (N := some 11) (v := ?_) (a' := ?_) #[true, false, false, false, false, false, false, false, false, false, false, false, false, false, false, false] rfl rfl (any_of HT_.out (by kernel_rfl)) (fun _ _ _ h => h) (Or.inl ⟨by rfl, ?_⟩) ?_ ?_
      rotate_left
      · intro w'
        go_simp
        with_reducible rfl
      rotate_left
      · simp only [Act.put, List.setIfInBounds_toArray, List.set_cons_zero, List.set_cons_succ, i64_w, i32_w]
        rfl
      refine pure_ (i := 3) (N := some 14) (v := ?_) (a' := ?_) #[true, false, false, true, false, false, false, false, false, false, false, false, false, false, false, false] rfl rfl (any_of HT_.out (by kernel_rfl)) (fun _ _ _ h => h) (Or.inl ⟨by rfl, ?_⟩) ?_ ?_
      rotate_left
      · intro w'
        go_simp
        with_reducible rfl
      rotate_left
      · simp only [Act.put, List.setIfInBounds_toArray, List.set_cons_zero, List.set_cons_succ, i64_w, i32_w]
        rfl
      refine pure_ (i := 6) (N := some 17) (v := ?_) (a' := ?_) #[true, false, false, true, false, false, true, false, false, false, false, false, false, false, false, false] rfl rfl (any_of HT_.out (by kernel_rfl)) (fun _ _ _ h => h) (Or.inl ⟨by rfl, ?_⟩) ?_ ?_
      rotate_left
      · intro w'
        go_simp
        with_reducible rfl
      rotate_left
      · simp only [Act.put, List.setIfInBounds_toArray, List.set_cons_zero, List.set_cons_succ, i64_w, i32_w]
        rfl
      refine pure_ (i := 9) (N := some 20) (v := ?_) (a' := ?_) #[true, false, false, true, false, false, true, false, false, true, false, false, false, false, false, false] rfl rfl (any_of HT_.out (by kernel_rfl)) (fun _ _ _ h => h) (Or.inl ⟨by rfl, ?_⟩) ?_ ?_
      rotate_left
      · intro w'
        go_simp
        with_reducible rfl
      rotate_left
      · simp only [Act.put, List.setIfInBounds_toArray, List.set_cons_zero, List.set_cons_succ, i64_w, i32_w]
        rfl
      refine take_ (i := 1) (N := some 12) (v := ?_) (a' := ?_) #[true, true, false, true, false, false, true, false, false, true, false, false, false, false, false, false] rfl rfl (take_ofW HT_.out HW_.out (by kernel_rfl)) (fun _ _ _ h => h) (Or.inl ⟨by rfl, ?_⟩) hHeld ?_ ?_
      rotate_left
      · rintro w' ⟨s0, s1, s2, s3⟩
        go_simp
        with_reducible rfl
      rotate_left
      · simp only [Act.put, List.setIfInBounds_toArray, List.set_cons_zero, List.set_cons_succ, i64_w, i32_w]
        rfl
      refine pure_ (i := 2) (N := some 13) (v := ?_) (a' := ?_) #[true, true, true, true, false, false, true, false, false, true, false, false, false, false, false, false] rfl rfl (any_of HT_.out (by kernel_rfl)) (fun _ _ _ h => h) (Or.inl ⟨by rfl, ?_⟩) ?_ ?_
      rotate_left
      · intro w'
        go_simp
        with_reducible rfl
      rotate_left
      · simp only [Act.put, List.setIfInBounds_toArray, List.set_cons_zero, List.set_cons_succ, i64_w, i32_w]
        rfl
      refine take_ (i := 7) (N := some 18) (v := ?_) (a' := ?_) #[true, true, true, true, false, false, true, true, false, true, false, false, false, false, false, false] rfl rfl (take_ofW HT_.out HW_.out (by kernel_rfl)) (fun _ _ _ h => h) (Or.inl ⟨by rfl, ?_⟩) hHeld ?_ ?_
      rotate_left
      · rintro w' ⟨s0, s1, s2, s3⟩
        go_simp
        with_reducible rfl
      rotate_left
      · simp only [Act.put, List.setIfInBounds_toArray, List.set_cons_zero, List.set_cons_succ, i64_w, i32_w]
        rfl
      refine pure_ (i := 8) (N := some 19) (v := ?_) (a' := ?_) #[true, true, true, true, false, false, true, true, true, true, false, false, false, false, false, false] rfl rfl (any_of HT_.out (by kernel_rfl)) (fun _ _ _ h => h) (Or.inl ⟨by rfl, ?_⟩) ?_ ?_
      rotate_left
      · intro w'
        go_simp
        with_reducible rfl
      rotate_left
      · simp only [Act.put, List.setIfInBounds_toArray, List.set_cons_zero, List.set_cons_succ, i64_w, i32_w]
        rfl
      refine one_ (i := 4) (N := some 15) #[true, true, true, true, true, false, true, true, true, true, false, false, false, false, false, false] rfl rfl (one_of HT_.out (by kernel_rfl)) (by decide) (fun K hK => ?_)
      refine goes_ Try.func19 (by kernel_rfl) rfl #[.pointer (some ⟨g, 0, none⟩), .int .i64 6] (by rfl) rfl rfl q128_ ?_
      with_reducible refine (tilefarmgen_Tape_Next.calls g s0_0 t111 6 t113 t114 w0 _ ?side1 ?side2 A4.out).mono ?_
      (case side1 => repeat (first | (with_reducible first | exact HI0.out | apply IsS46.alloc | apply IsS46.drewN | apply IsS46.drew | apply IsS46.set_1 | refine IsS46.far ?_ NB0_107.out _ | refine IsS46.far ?_ NB0_112.out _) | exact HI0.out))
      (case side2 => repeat (first | (with_reducible first | exact HB.out | apply below_alloc | apply pw_below_drewN | apply below_drew1 | refine below_set ?_ (IsS46.ge HI0.out) | refine below_set ?_ GE107.out | refine below_set ?_ GE112.out) | exact HB.out))
      rintro e w34 ⟨rfl, hi, hb, hk⟩
      refine ⟨_, rfl, ?_⟩
      have n0_ := Aside0.mk (KeepBut.blk hk (g' := gb107) (o := .cells #[.int .i64 0, .int .i64 0, .int .i64 0, .int .i64 0] 26 (0, 0)) q130_ NB107_0.out (by simp))
      have n1_ := Aside0.mk (KeepBut.blk hk (g' := gb112) (o := .cells #[.int .i64 (wrap64 (t108 - 2)), .int .i64 (wrap64 (t110 - 2)), .int .i64 0, .int .i64 0] 26 (0, 0)) q131_ NB112_0.out (by simp))
      have n2_ := Aside0.mk (KeepBut.trans q80_ hk (.inl rfl))
      have n3_ := Aside0.mk (hb)
      have n4_ := Aside0.mk (hi)
      clear BK107
      clear BK112
      clear HK
      clear HB
      clear HI0
      have BK107 := n0_
      have BK112 := n1_
      have HK := n2_
      have HB := n3_
      have HI0 := n4_
      clear n0_ n1_ n2_ n3_ n4_
      (try clear hb)
      (try clear hb2)
      (try clear hk)
      (try clear hi)
      refine hK.out _ _ ⟨(blk_cell BK112.out 0).trans rfl, (blk_cell BK112.out 1).trans rfl, (blk_cell BK112.out 2).trans rfl, (blk_cell BK112.out 3).trans rfl⟩ (fun hHeld => ?_)
      clear hK K
      refine norm_ (a' := ?_) ?_ ?_
      rotate_left
      · show Act.put _ (some 15) _ = _
        simp only [Act.put, List.setIfInBounds_toArray, List.set_cons_zero, List.set_cons_succ, i64_w, i32_w]
        rfl
      refine pure_ (i := 5) (N := some 16) (v := ?_) (a' := ?_) #[true, true, true, true, true, true, true, true, true, true, false, false, false, false, false, false] rfl rfl (any_of HT_.out (by kernel_rfl)) (fun _ _ _ h => h) (Or.inl ⟨by rfl, ?_⟩) ?_ ?_
      rotate_left
      · intro w'
        go_simp
        with_reducible rfl
      rotate_left
      · simp only [Act.put, List.setIfInBounds_toArray, List.set_cons_zero, List.set_cons_succ, i64_w, i32_w]
        rfl
      refine pure_ (i := 12) (N := some 23) (v := ?_) (a' := ?_) #[true, true, true, true, true, true, true, true, true, true, false, false, true, false, false, false] rfl rfl (any_of HT_.out (by kernel_rfl)) (fun _ _ _ h => h) (Or.inl ⟨by rfl, ?_⟩) ?_ ?_
      rotate_left
      · intro w'
        go_simp
        with_reducible rfl
      rotate_left
      · simp only [Act.put, List.setIfInBounds_toArray, List.set_cons_zero, List.set_cons_succ, i64_w, i32_w]
        rfl
      refine one_ (i := 10) (N := some 21) #[true, true, true, true, true, true, true, true, true, true, true, false, true, false, false, false] rfl rfl (one_of HT_.out (by kernel_rfl)) (by decide) (fun K hK => ?_)
      refine goes_ Try.func19 (by kernel_rfl) rfl #[.pointer (some ⟨g, 0, none⟩), .int .i64 6] (by rfl) rfl rfl q128_ ?_
      with_reducible refine (tilefarmgen_Tape_Next.calls g s0_0 t114 6 t115 t116 w0 _ ?side1 ?side2 A5.out).mono ?_
      (case side1 => repeat (first | (with_reducible first | exact HI0.out | apply IsS46.alloc | apply IsS46.drewN | apply IsS46.drew | apply IsS46.set_1 | refine IsS46.far ?_ NB0_107.out _ | refine IsS46.far ?_ NB0_112.out _) | exact HI0.out))
      (case side2 => repeat (first | (with_reducible first | exact HB.out | apply below_alloc | apply pw_below_drewN | apply below_drew1 | refine below_set ?_ (IsS46.ge HI0.out) | refine below_set ?_ GE107.out | refine below_set ?_ GE112.out) | exact HB.out))
      rintro e w35 ⟨rfl, hi, hb, hk⟩
      refine ⟨_, rfl, ?_⟩
      have n0_ := Aside0.mk (KeepBut.blk hk (g' := gb107) (o := .cells #[.int .i64 0, .int .i64 0, .int .i64 0, .int .i64 0] 26 (0, 0)) q130_ NB107_0.out (by simp))
      have n1_ := Aside0.mk (KeepBut.blk hk (g' := gb112) (o := .cells #[.int .i64 (wrap64 (t108 - 2)), .int .i64 (wrap64 (t110 - 2)), .int .i64 0, .int .i64 0] 26 (0, 0)) q131_ NB112_0.out (by simp))
      have n2_ := Aside0.mk (KeepBut.trans q80_ hk (.inl rfl))
      have n3_ := Aside0.mk (hb)
      have n4_ := Aside0.mk (hi)
      clear BK107
      clear BK112
      clear HK
      clear HB
      clear HI0
      have BK107 := n0_
      have BK112 := n1_
      have HK := n2_
      have HB := n3_
      have HI0 := n4_
      clear n0_ n1_ n2_ n3_ n4_
      (try clear hb)
      (try clear hb2)
      (try clear hk)
      (try clear hi)
      refine hK.out _ _ ⟨(blk_cell BK112.out 0).trans rfl, (blk_cell BK112.out 1).trans rfl, (blk_cell BK112.out 2).trans rfl, (blk_cell BK112.out 3).trans rfl⟩ (fun hHeld => ?_)
      clear hK K
      refine norm_ (a' := ?_) ?_ ?_
      rotate_left
      · show Act.put _ (some 21) _ = _
        simp only [Act.put, List.setIfInBounds_toArray, List.set_cons_zero, List.set_cons_succ, i64_w, i32_w]
        rfl
      refine pure_ (i := 11) (N := some 22) (v := ?_) (a' := ?_) #[true, true, true, true, true, true, true, true, true, true, true, true, true, false, false, false] rfl rfl (any_of HT_.out (by kernel_rfl)) (fun _ _ _ h => h) (Or.inl ⟨by rfl, ?_⟩) ?_ ?_
      rotate_left
      · intro w'
        go_simp
        with_reducible rfl
      rotate_left
      · simp only [Act.put, List.setIfInBounds_toArray, List.set_cons_zero, List.set_cons_succ, i64_w, i32_w]
        rfl
      refine last_ (i := 13) (N := none) #[true, true, true, true, true, true, true, true, true, true, true, true, true, true, false, false] rfl rfl (one_of HT_.out (by kernel_rfl)) (by decide) (fun K hK => ?_)
      have hs36 : w35.cell? ⟨gb112, 2, none⟩ = some (.int .i64 0) := (blk_cell BK112.out 2).trans rfl
      have hfs36 := blk_frozen BK112.out 2
      have hns36_0 := NB107_112.out
      have hms36_0 := NB112_107.out
      refine skip_ (w1 := ?_) (by rfl) rfl ?_ ?_
      rotate_left
      · go_simp
        rfl
      refine hK.out _ _ ?_
      clear hK K
      refine pure_ (i := 14) (N := some 24) (v := ?_) (a' := ?_) #[true, true, true, true, true, true, true, true, true, true, true, true, true, true, true, false] rfl rfl (any_of HT_.out (by kernel_rfl)) (fun _ _ _ h => h) (Or.inl ⟨by rfl, ?_⟩) ?_ ?_
      rotate_left
      · intro w'
        go_simp
        with_reducible rfl
      rotate_left
      · simp only [Act.put, List.setIfInBounds_toArray, List.set_cons_zero, List.set_cons_succ, i64_w, i32_w]
        rfl
      refine last_ (i := 15) (N := none) #[true, true, true, true, true, true, true, true, true, true, true, true, true, true, true, true] rfl rfl (one_of HT_.out (by kernel_rfl)) (by decide) (fun K hK => ?_)
      have hs37 : w35.cell? ⟨gb112, 3, none⟩ = some (.int .i64 0) := (blk_cell BK112.out 3).trans rfl
      have hfs37 := blk_frozen BK112.out 3
      have hns37_0 := NB107_112.out
      have hms37_0 := NB112_107.out
      refine skip_ (w1 := ?_) (by rfl) rfl ?_ ?_
      rotate_left
      · go_simp
        rfl
      refine hK.out _ _ ?_
      clear hK K
      refine done_ (done_of HT_.out (by kernel_rfl)) ?_
      try go_wp2_with (first | ((with_reducible refine gate_callee (f := 19) rfl ?_); refine goesL_ (some 26) rfl rfl Try.func19 (by kernel_rfl) rfl #[.pointer (some ⟨g, 0, none⟩), .int .i64 14] rfl q128_ ?_; (with_reducible refine (tilefarmgen_Tape_Next.calls g s0_0 t116 14 t117 t118 w0 _ ?side1 ?side2 A6.out).mono ?_); (case side1 => repeat (first | (with_reducible first | exact HI0.out | apply IsS46.alloc | apply IsS46.drewN | apply IsS46.drew | apply IsS46.set_1 | refine IsS46.far ?_ NB0_107.out _ | refine IsS46.far ?_ NB0_112.out _) | exact HI0.out)); (case side2 => repeat (first | (with_reducible first | exact HB.out | apply below_alloc | apply pw_below_drewN | apply below_drew1 | refine below_set ?_ (IsS46.ge HI0.out) | refine below_set ?_ GE107.out | refine below_set ?_ GE112.out) | exact HB.out)); rintro e w38 ⟨rfl, hi, hb, hk⟩; refine ⟨_, rfl, ?_⟩; have n0_ := Aside0.mk (KeepBut.blk hk (g' := gb107) (o := .cells #[.int .i64 0, .int .i64 0, .int .i64 0, .int .i64 0] 26 (0, 0)) q21_ NB107_0.out (by simp)); have n1_ := Aside0.mk (KeepBut.blk hk (g' := gb112) (o := .cells #[.int .i64 (wrap64 (t108 - 2)), .int .i64 (wrap64 (t110 - 2)), .int .i64 (wrap64 ((wrap64 ((wrap64 (t108 - 2)) + 1)) + t113)), .int .i64 (wrap64 ((wrap64 ((wrap64 (t110 - 2)) + 1)) + t115))] 26 (0, 0)) q19_ NB112_0.out (by simp)); have n2_ := Aside0.mk (KeepBut.trans q80_ hk (.inl rfl)); have n3_ := Aside0.mk (hb); have n4_ := Aside0.mk (hi); clear BK107; clear BK112; clear HK; clear HB; clear HI0; have BK107 := n0_; have BK112 := n1_; have HK := n2_; have HB := n3_; have HI0 := n4_; clear n0_ n1_ n2_ n3_ n4_; (try clear hb); (try clear hb2); (try clear hk); (try clear hi); have hcz39_0 : w38.cell? ⟨gb112, 0, none⟩ = some (.int .i64 (wrap64 (t108 - 2))) := (blk_cell BK112.out 0).trans rfl; have hcz39_1 : w38.cell? ⟨gb112, 1, none⟩ = some (.int .i64 (wrap64 (t110 - 2))) := (blk_cell BK112.out 1).trans rfl; have hcz39_2 : w38.cell? ⟨gb112, 2, none⟩ = some (.int .i64 (wrap64 ((wrap64 ((wrap64 (t108 - 2)) + 1)) + t113))) := (blk_cell BK112.out 2).trans rfl; have hcz39_3 : w38.cell? ⟨gb112, 3, none⟩ = some (.int .i64 (wrap64 ((wrap64 ((wrap64 (t110 - 2)) + 1)) + t115))) := (blk_cell BK112.out 3).trans rfl; have hfz39_0 := blk_frozen BK112.out 0; have hfz39_1 := blk_frozen BK112.out 1; have hfz39_2 := blk_frozen BK112.out 2; have hfz39_3 := blk_frozen BK112.out 3; have hnb40 := NB107_0.out; have hnc40 := NB0_107.out; have hcz41_0 : w38.cell? ⟨gb107, 0, none⟩ = some (.int .i64 0) := (blk_cell BK107.out 0).trans rfl; have hcz41_1 : w38.cell? ⟨gb107, 1, none⟩ = some (.int .i64 0) := (blk_cell BK107.out 1).trans rfl; have hcz41_2 : w38.cell? ⟨gb107, 2, none⟩ = some (.int .i64 0) := (blk_cell BK107.out 2).trans rfl; have hcz41_3 : w38.cell? ⟨gb107, 3, none⟩ = some (.int .i64 0) := (blk_cell BK107.out 3).trans rfl; have hfz41_0 := blk_frozen BK107.out 0; have hfz41_1 := blk_frozen BK107.out 1; have hfz41_2 := blk_frozen BK107.out 2; have hfz41_3 := blk_frozen BK107.out 3))
      refine bodyPost_ret (results_cell_row rfl _ _ gb107 26 #[.int .i64 (wrap64 (t108 - 2)), .int .i64 (wrap64 (t110 - 2)), .int .i64 (wrap64 (t108 - 2)), .int .i64 (wrap64 ((wrap64 ((wrap64 (t110 - 2)) + 1)) + t115))] (0, 0) _ rfl (by (with_reducible repeat (first | refine blk_drewN ?_ _ | refine blk_drew ?_ | refine blk_alloc ?_ _)); refine blk_put (cs := #[.int .i64 (wrap64 (t108 - 2)), .int .i64 (wrap64 (t110 - 2)), .int .i64 (wrap64 (t108 - 2)), .int .i64 0]) ?_ 3 _ rfl; (with_reducible repeat (first | refine blk_drewN ?_ _ | refine blk_drew ?_ | refine blk_alloc ?_ _)); refine blk_put (cs := #[.int .i64 (wrap64 (t108 - 2)), .int .i64 (wrap64 (t110 - 2)), .int .i64 0, .int .i64 0]) ?_ 2 _ rfl; (with_reducible repeat (first | refine blk_drewN ?_ _ | refine blk_drew ?_ | refine blk_alloc ?_ _)); refine blk_put (cs := #[.int .i64 (wrap64 (t108 - 2)), .int .i64 0, .int .i64 0, .int .i64 0]) ?_ 1 _ rfl; (with_reducible repeat (first | refine blk_drewN ?_ _ | refine blk_drew ?_ | refine blk_alloc ?_ _)); refine blk_put (cs := #[.int .i64 0, .int .i64 0, .int .i64 0, .int .i64 0]) ?_ 0 _ rfl; (with_reducible repeat (first | refine blk_drewN ?_ _ | refine blk_drew ?_ | refine blk_alloc ?_ _)); refine blk_far ?_ NB107_112.out _; (with_reducible repeat (first | refine blk_drewN ?_ _ | refine blk_drew ?_ | refine blk_alloc ?_ _)); exact BK107.out) Try.underlying26 rfl (by kernel_rfl)) rfl ?_
      exact ⟨q177_, q79_, q64_, q80_⟩
    · rw [if_neg c24] at H
      have c24b0 : (t117 == 12) = false := beq_eq_false_iff_ne.mpr c24
      have c24b1 : (t117 != 12) = true := bne_iff_ne.mpr c24
      by_cases c42 : t117 = 13
      · rw [if_pos c42] at H
        have c42b0 : (t117 == 13) = true := beq_iff_eq.mpr c42
        have c42b1 : (t117 != 13) = false := bne_eq_false_iff_eq.mpr c42
        clear c42
        obtain ⟨y119, hy119⟩ : ∃ y_ : List Int, y_ = (([(-1048576), (-1048577)] : List Int)) := ⟨_, rfl⟩
        replace H : ((tilefarmgen_Tape_Pick.f s0_0 t118 y119).bind fun bt122 => ((tilefarmgen_Tape_Pick.f s0_0 bt122.2 (([1048576, 1048577] : List Int))).bind fun bt127 => (some (bt122.1, wrap64 (t110 - 2), bt127.1, wrap64 ((wrap64 ((wrap64 (t110 - 2)) + 1)) + t115), bt127.2)))) = some (r1, r2, r3, r4, r5) := by first | (rw [hy119]; with_reducible exact H) | (have H2_ := (Option.bind_some _ _).symm.trans H; rw [hy119]; with_reducible exact H2_) | (have H2_ := (Option.bind_some _ _).symm.trans H; with_reducible exact H2_) | with_reducible exact H | (rw [hy119]; exact H) | exact H
        have Ny119 := Aside0.mk hy119
        clear hy119
        replace H := Option.bind_eq_some_iff.mp H
        obtain ⟨⟨t122, t123⟩, A430, H⟩ := H
        replace H : ((tilefarmgen_Tape_Pick.f s0_0 t123 (([1048576, 1048577] : List Int))).bind fun bt127 => (some (t122, wrap64 (t110 - 2), bt127.1, wrap64 ((wrap64 ((wrap64 (t110 - 2)) + 1)) + t115), bt127.2))) = some (r1, r2, r3, r4, r5) := H
        have A43 := Aside0.mk A430
        clear A430
        obtain ⟨y124, hy124⟩ : ∃ y_ : List Int, y_ = (([1048576, 1048577] : List Int)) := ⟨_, rfl⟩
        replace H : ((tilefarmgen_Tape_Pick.f s0_0 t123 y124).bind fun bt127 => (some (t122, wrap64 (t110 - 2), bt127.1, wrap64 ((wrap64 ((wrap64 (t110 - 2)) + 1)) + t115), bt127.2))) = some (r1, r2, r3, r4, r5) := by first | (rw [hy124]; with_reducible exact H) | (have H2_ := (Option.bind_some _ _).symm.trans H; rw [hy124]; with_reducible exact H2_) | (have H2_ := (Option.bind_some _ _).symm.trans H; with_reducible exact H2_) | with_reducible exact H | (rw [hy124]; exact H) | exact H
        have Ny124 := Aside0.mk hy124
        clear hy124
        replace H := Option.bind_eq_some_iff.mp H
        obtain ⟨⟨t127, t128⟩, A440, H⟩ := H
        replace H : (some (t122, wrap64 (t110 - 2), t127, wrap64 ((wrap64 ((wrap64 (t110 - 2)) + 1)) + t115), t128)) = some (r1, r2, r3, r4, r5) := H
        have A44 := Aside0.mk A440
        clear A440
        simp only [Option.some.injEq, Prod.mk.injEq] at H
        obtain ⟨rfl, rfl, rfl, rfl, rfl⟩ := H
        go_enter Try.func8, Try.ntmps8
        try go_wp2_with (first | ((with_reducible refine gate_dst (N := 2) rfl ?_); refine box_event ?hg (N := 2) ?hd (cs := #[.int .i64 0, .int .i64 0, .int .i64 0, .int .i64 0]) (t := 26) ?hr ?_; (case hd => rfl); (case hg => rfl); (case hr => first | (go_simp; done) | (go_simp; rfl)); intro gb107 hg w45 hbox hb; have n0_ := Aside0.mk (IsS46.below q125_ hb); have n1_ := Aside0.mk (KeepBut.trans q126_ (KeepBut.of_below hb g none) (.inl rfl)); have n2_ := Aside0.mk (below_step q102_ hb); have n3_ := Aside0.mk (hbox); have n4_ := Aside0.mk ((q81_ : w.heap.size ≤ gb107)); have n5_ := Aside0.mk ((Nat.le_trans HW0.out (q81_ : w.heap.size ≤ gb107) : w0.heap.size ≤ gb107)); have n6_ := Aside0.mk ((q77_ : g ≠ gb107)); have n7_ := Aside0.mk ((q78_ : gb107 ≠ g)); clear HI0; clear HK; clear HB; have HI0 := n0_; have HK := n1_; have HB := n2_; have BK107 := n3_; have GW107 := n4_; have GE107 := n5_; have NB0_107 := n6_; have NB107_0 := n7_; clear n0_ n1_ n2_ n3_ n4_ n5_ n6_ n7_; clear hb hbox hg) | ((with_reducible refine gate_callee (f := 19) rfl ?_); refine goesL_ (some 5) rfl rfl Try.func19 (by kernel_rfl) rfl #[.pointer (some ⟨g, 0, none⟩), .int .i64 8] rfl q128_ ?_; (with_reducible refine (tilefarmgen_Tape_Next.calls g s0_0 s0_1 8 t108 t109 w0 _ ?side1 ?side2 A2.out).mono ?_); (case side1 => repeat (first | (with_reducible first | exact HI0.out | apply IsS46.alloc | apply IsS46.drewN | apply IsS46.drew | apply IsS46.set_1 | refine IsS46.far ?_ NB0_107.out _) | exact HI0.out)); (case side2 => repeat (first | (with_reducible first | exact HB.out | apply below_alloc | apply pw_below_drewN | apply below_drew1 | refine below_set ?_ (IsS46.ge HI0.out) | refine below_set ?_ GE107.out) | exact HB.out)); rintro e w46 ⟨rfl, hi, hb, hk⟩; refine ⟨_, rfl, ?_⟩; have n0_ := Aside0.mk (KeepBut.blk hk (g' := gb107) (o := .cells #[.int .i64 0, .int .i64 0, .int .i64 0, .int .i64 0] 26 (0, 0)) q130_ NB107_0.out (by simp)); have n1_ := Aside0.mk (KeepBut.trans q101_ hk (.inl rfl)); have n2_ := Aside0.mk (hb); have n3_ := Aside0.mk (hi); clear BK107; clear HK; clear HB; clear HI0; have BK107 := n0_; have HK := n1_; have HB := n2_; have HI0 := n3_; clear n0_ n1_ n2_ n3_; (try clear hb); (try clear hb2); (try clear hk); (try clear hi)) | ((with_reducible refine gate_callee (f := 19) rfl ?_); refine goesL_ (some 8) rfl rfl Try.func19 (by kernel_rfl) rfl #[.pointer (some ⟨g, 0, none⟩), .int .i64 8] rfl q128_ ?_; (with_reducible refine (tilefarmgen_Tape_Next.calls g s0_0 t109 8 t110 t111 w0 _ ?side1 ?side2 A3.out).mono ?_); (case side1 => repeat (first | (with_reducible first | exact HI0.out | apply IsS46.alloc | apply IsS46.drewN | apply IsS46.drew | apply IsS46.set_1 | refine IsS46.far ?_ NB0_107.out _) | exact HI0.out)); (case side2 => repeat (first | (with_reducible first | exact HB.out | apply below_alloc | apply pw_below_drewN | apply below_drew1 | refine below_set ?_ (IsS46.ge HI0.out) | refine below_set ?_ GE107.out) | exact HB.out)); rintro e w47 ⟨rfl, hi, hb, hk⟩; refine ⟨_, rfl, ?_⟩; have n0_ := Aside0.mk (KeepBut.blk hk (g' := gb107) (o := .cells #[.int .i64 0, .int .i64 0, .int .i64 0, .int .i64 0] 26 (0, 0)) q130_ NB107_0.out (by simp)); have n1_ := Aside0.mk (KeepBut.trans q101_ hk (.inl rfl)); have n2_ := Aside0.mk (hb); have n3_ := Aside0.mk (hi); clear BK107; clear HK; clear HB; clear HI0; have BK107 := n0_; have HK := n1_; have HB := n2_; have HI0 := n3_; clear n0_ n1_ n2_ n3_; (try clear hb); (try clear hb2); (try clear hk); (try clear hi)) | ((with_reducible refine gate_dst (N := 3) rfl ?_); refine box_event ?hg (N := 3) ?hd (cs := #[.int .i64 0, .int .i64 0, .int .i64 0, .int .i64 0]) (t := 26) ?hr ?_; (case hd => rfl); (case hg => rfl); (case hr => first | (go_simp; done) | (go_simp; rfl)); intro gb112 hg w48 hbox hb; have n0_ := Aside0.mk (IsS46.below q100_ hb); have n1_ := Aside0.mk (blk_below (g := gb107) (o := .cells #[.int .i64 0, .int .i64 0, .int .i64 0, .int .i64 0] 26 (0, 0)) q130_ hb); have n2_ := Aside0.mk (KeepBut.trans q101_ (KeepBut.of_below hb g none) (.inl rfl)); have n3_ := Aside0.mk (below_step q82_ hb); have n4_ := Aside0.mk (hbox); have n5_ := Aside0.mk ((q62_ : w.heap.size ≤ gb112)); have n6_ := Aside0.mk ((Nat.le_trans HW0.out (q62_ : w.heap.size ≤ gb112) : w0.heap.size ≤ gb112)); have n7_ := Aside0.mk ((q56_ : gb107 ≠ gb112)); have n8_ := Aside0.mk ((q57_ : gb112 ≠ gb107)); have n9_ := Aside0.mk ((q24_ : g ≠ gb112)); have n10_ := Aside0.mk ((q25_ : gb112 ≠ g)); clear HI0; clear BK107; clear HK; clear HB; have HI0 := n0_; have BK107 := n1_; have HK := n2_; have HB := n3_; have BK112 := n4_; have GW112 := n5_; have GE112 := n6_; have NB107_112 := n7_; have NB112_107 := n8_; have NB0_112 := n9_; have NB112_0 := n10_; clear n0_ n1_ n2_ n3_ n4_ n5_ n6_ n7_ n8_ n9_ n10_; clear hb hbox hg; have hnb49 := NB112_107.out; have hnc49 := NB107_112.out; have hnb50 := NB112_0.out; have hnc50 := NB0_112.out; have hcz51_0 : w48.cell? ⟨gb112, 0, none⟩ = some (.int .i64 0) := (blk_cell BK112.out 0).trans rfl; have hcz51_1 : w48.cell? ⟨gb112, 1, none⟩ = some (.int .i64 0) := (blk_cell BK112.out 1).trans rfl; have hcz51_2 : w48.cell? ⟨gb112, 2, none⟩ = some (.int .i64 0) := (blk_cell BK112.out 2).trans rfl; have hcz51_3 : w48.cell? ⟨gb112, 3, none⟩ = some (.int .i64 0) := (blk_cell BK112.out 3).trans rfl; have hfz51_0 := blk_frozen BK112.out 0; have hfz51_1 := blk_frozen BK112.out 1; have hfz51_2 := blk_frozen BK112.out 2; have hfz51_3 := blk_frozen BK112.out 3))
        have n0_ : Aside0 (((((w48.setCell ⟨gb112, 0, none⟩ (.int .i64 (wrap64 (t108 - 2)))).setCell ⟨gb112, 1, none⟩ (.int .i64 (wrap64 (t110 - 2)))).setCell ⟨gb112, 2, none⟩ (.int .i64 0)).setCell ⟨gb112, 3, none⟩ (.int .i64 0)).heap[gb107]? = some (.cells #[.int .i64 0, .int .i64 0, .int .i64 0, .int .i64 0] 26 (0, 0))) := ⟨q8_⟩
        have n1_ : Aside0 (((((w48.setCell ⟨gb112, 0, none⟩ (.int .i64 (wrap64 (t108 - 2)))).setCell ⟨gb112, 1, none⟩ (.int .i64 (wrap64 (t110 - 2)))).setCell ⟨gb112, 2, none⟩ (.int .i64 0)).setCell ⟨gb112, 3, none⟩ (.int .i64 0)).heap[gb112]? = some (.cells #[.int .i64 (wrap64 (t108 - 2)), .int .i64 (wrap64 (t110 - 2)), .int .i64 0, .int .i64 0] 26 (0, 0))) := ⟨q1_⟩
        have n2_ : Aside0 (IsS46 w0 ((((w48.setCell ⟨gb112, 0, none⟩ (.int .i64 (wrap64 (t108 - 2)))).setCell ⟨gb112, 1, none⟩ (.int .i64 (wrap64 (t110 - 2)))).setCell ⟨gb112, 2, none⟩ (.int .i64 0)).setCell ⟨gb112, 3, none⟩ (.int .i64 0)) g s0_0 t111) := ⟨q79_⟩
        have n3_ : Aside0 (KeepBut w ((((w48.setCell ⟨gb112, 0, none⟩ (.int .i64 (wrap64 (t108 - 2)))).setCell ⟨gb112, 1, none⟩ (.int .i64 (wrap64 (t110 - 2)))).setCell ⟨gb112, 2, none⟩ (.int .i64 0)).setCell ⟨gb112, 3, none⟩ (.int .i64 0)) g none) := ⟨q80_⟩
        have n4_ : Aside0 (Below w0.heap.size w0 ((((w48.setCell ⟨gb112, 0, none⟩ (.int .i64 (wrap64 (t108 - 2)))).setCell ⟨gb112, 1, none⟩ (.int .i64 (wrap64 (t110 - 2)))).setCell ⟨gb112, 2, none⟩ (.int .i64 0)).setCell ⟨gb112, 3, none⟩ (.int .i64 0))) := ⟨q64_⟩
        (try clear BK107)
        (try clear BK112)
        (try clear HI0)
        (try clear HK)
        (try clear HB)
        generalize ((((w48.setCell ⟨gb112, 0, none⟩ (.int .i64 (wrap64 (t108 - 2)))).setCell ⟨gb112, 1, none⟩ (.int .i64 (wrap64 (t110 - 2)))).setCell ⟨gb112, 2, none⟩ (.int .i64 0)).setCell ⟨gb112, 3, none⟩ (.int .i64 0)) = w52 at n0_ n1_ n2_ n3_ n4_ ⊢
        have BK107 := n0_
        have BK112 := n1_
        have HI0 := n2_
        have HK := n3_
        have HB := n4_
        clear n0_ n1_ n2_ n3_ n4_
        have n0_ := Aside0.mk (blk_drew BK107.out)
        have n1_ := Aside0.mk (blk_drew BK112.out)
        have n2_ := Aside0.mk (IsS46.drew HI0.out)
        have n3_ := Aside0.mk (keep_drew HK.out)
        have n4_ := Aside0.mk (below_drew1 HB.out)
        clear BK107
        clear BK112
        clear HI0
        clear HK
        clear HB
        have BK107 := n0_
        have BK112 := n1_
        have HI0 := n2_
        have HK := n3_
        have HB := n4_
        clear n0_ n1_ n2_ n3_ n4_
        refine start_ (n := 16) (S := fun w' => w'.cell? ⟨gb112, 0, none⟩ = some (.int .i64 (wrap64 (t108 - 2))) ∧ w'.cell? ⟨gb112, 1, none⟩ = some (.int .i64 (wrap64 (t110 - 2))) ∧ w'.cell? ⟨gb112, 2, none⟩ = some (.int .i64 0) ∧ w'.cell? ⟨gb112, 3, none⟩ = some (.int .i64 0)) (ds := [13, 15]) #[false, false, false, false, false, false, false, false, false, false, false, false, false, false, false, false] (by kernel_rfl) rfl rfl ⟨(blk_cell BK112.out 0).trans rfl, (blk_cell BK112.out 1).trans rfl, (blk_cell BK112.out 2).trans rfl, (blk_cell BK112.out 3).trans rfl⟩ (fun hHeld => ?_); refine with_tabW tilefarmgen_Tape_Rect.tab2 tilefarmgen_Tape_Rect.bits2 (fun HT_ HW_ => ?_)
        generalize w52.drew = w53 at BK107 BK112 HI0 HK HB hHeld ⊢
        refine pure_ (i := 0) (N := some 11) (v := ?_) (a' := ?_) #[true, false, false, false, false, false, false, false, false, false, false, false, false, false, false, false] rfl rfl (any_of HT_.out (by kernel_rfl)) (fun _ _ _ h => h) (Or.inl ⟨by rfl, ?_⟩) ?_ ?_
        rotate_left
        · intro w'
          go_simp
          with_reducible rfl
        rotate_left
        · simp only [Act.put, List.setIfInBounds_toArray, List.set_cons_zero, List.set_cons_succ, i64_w, i32_w]
          rfl
        refine pure_ (i := 3) (N := some 14) (v := ?_) (a' := ?_) #[true, false, false, true, false, false, false, false, false, false, false, false, false, false, false, false] rfl rfl (any_of HT_.out (by kernel_rfl)) (fun _ _ _ h => h) (Or.inl ⟨by rfl, ?_⟩) ?_ ?_
        rotate_left
        · intro w'
          go_simp
          with_reducible rfl
        rotate_left
        · simp only [Act.put, List.setIfInBounds_toArray, List.set_cons_zero, List.set_cons_succ, i64_w, i32_w]
          rfl
        refine pure_ (i := 6) (N := some 17) (v := ?_) (a' := ?_) #[true, false, false, true, false, false, true, false, false, false, false, false, false, false, false, false] rfl rfl (any_of HT_.out (by kernel_rfl)) (fun _ _ _ h => h) (Or.inl ⟨by rfl, ?_⟩) ?_ ?_
        rotate_left
        · intro w'
          go_simp
          with_reducible rfl
        rotate_left
        · simp only [Act.put, List.setIfInBounds_toArray, List.set_cons_zero, List.set_cons_succ, i64_w, i32_w]
          rfl
        refine pure_ (i := 9) (N := some 20) (v := ?_) (a' := ?_) #[true, false, false, true, false, false, true, false, false, true, false, false, false, false, false, false] rfl rfl (any_of HT_.out (by kernel_rfl)) (fun _ _ _ h => h) (Or.inl ⟨by rfl, ?_⟩) ?_ ?_
        rotate_left
        · intro w'
          go_simp
          with_reducible rfl
        rotate_left
        · simp only [Act.put, List.setIfInBounds_toArray, List.set_cons_zero, List.set_cons_succ, i64_w, i32_w]
          rfl
        refine take_ (i := 1) (N := some 12) (v := ?_) (a' := ?_) #[true, true, false, true, false, false, true, false, false, true, false, false, false, false, false, false] rfl rfl (take_ofW HT_.out HW_.out (by kernel_rfl)) (fun _ _ _ h => h) (Or.inl ⟨by rfl, ?_⟩) hHeld ?_ ?_
        rotate_left
        · rintro w' ⟨s0, s1, s2, s3⟩
          go_simp
          with_reducible rfl
        rotate_left
        · simp only [Act.put, List.setIfInBounds_toArray, List.set_cons_zero, List.set_cons_succ, i64_w, i32_w]
          rfl
        refine pure_ (i := 2) (N := some 13) (v := ?_) (a' := ?_) #[true, true, true, true, false, false, true, false, false, true, false, false, false, false, false, false] rfl rfl (any_of HT_.out (by kernel_rfl)) (fun _ _ _ h => h) (Or.inl ⟨by rfl, ?_⟩) ?_ ?_
        rotate_left
        · intro w'
          go_simp
          with_reducible rfl
        rotate_left
        · simp only [Act.put, List.setIfInBounds_toArray, List.set_cons_zero, List.set_cons_succ, i64_w, i32_w]
          rfl
        refine take_ (i := 7) (N := some 18) (v := ?_) (a' := ?_) #[true, true, true, true, false, false, true, true, false, true, false, false, false, false, false, false] rfl rfl (take_ofW HT_.out HW_.out (by kernel_rfl)) (fun _ _ _ h => h) (Or.inl ⟨by rfl, ?_⟩) hHeld ?_ ?_
        rotate_left
        · rintro w' ⟨s0, s1, s2, s3⟩
          go_simp
          with_reducible rfl
        rotate_left
        · simp only [Act.put, List.setIfInBounds_toArray, List.set_cons_zero, List.set_cons_succ, i64_w, i32_w]
          rfl
        refine pure_ (i := 8) (N := some 19) (v := ?_) (a' := ?_) #[true, true, true, true, false, false, true, true, true, true, false, false, false, false, false, false] rfl rfl (any_of HT_.out (by kernel_rfl)) (fun _ _ _ h => h) (Or.inl ⟨by rfl, ?_⟩) ?_ ?_
        rotate_left
        · intro w'
          go_simp
          with_reducible rfl
        rotate_left
        · simp only [Act.put, List.setIfInBounds_toArray, List.set_cons_zero, List.set_cons_succ, i64_w, i32_w]
          rfl
        refine one_ (i := 4) (N := some 15) #[true, true, true, true, true, false, true, true, true, true, false, false, false, false, false, false] rfl rfl (one_of HT_.out (by kernel_rfl)) (by decide) (fun K hK => ?_)
        refine goes_ Try.func19 (by kernel_rfl) rfl #[.pointer (some ⟨g, 0, none⟩), .int .i64 6] (by rfl) rfl rfl q128_ ?_
        with_reducible refine (tilefarmgen_Tape_Next.calls g s0_0 t111 6 t113 t114 w0 _ ?side1 ?side2 A4.out).mono ?_
        (case side1 => repeat (first | (with_reducible first | exact HI0.out | apply IsS46.alloc | apply IsS46.drewN | apply IsS46.drew | apply IsS46.set_1 | refine IsS46.far ?_ NB0_107.out _ | refine IsS46.far ?_ NB0_112.out _) | exact HI0.out))
        (case side2 => repeat (first | (with_reducible first | exact HB.out | apply below_alloc | apply pw_below_drewN | apply below_drew1 | refine below_set ?_ (IsS46.ge HI0.out) | refine below_set ?_ GE107.out | refine below_set ?_ GE112.out) | exact HB.out))
        rintro e w54 ⟨rfl, hi, hb, hk⟩
        refine ⟨_, rfl, ?_⟩
        have n0_ := Aside0.mk (KeepBut.blk hk (g' := gb107) (o := .cells #[.int .i64 0, .int .i64 0, .int .i64 0, .int .i64 0] 26 (0, 0)) q130_ NB107_0.out (by simp))
        have n1_ := Aside0.mk (KeepBut.blk hk (g' := gb112) (o := .cells #[.int .i64 (wrap64 (t108 - 2)), .int .i64 (wrap64 (t110 - 2)), .int .i64 0, .int .i64 0] 26 (0, 0)) q131_ NB112_0.out (by simp))
        have n2_ := Aside0.mk (KeepBut.trans q80_ hk (.inl rfl))
        have n3_ := Aside0.mk (hb)
        have n4_ := Aside0.mk (hi)
        clear BK107
        clear BK112
        clear HK
        clear HB
        clear HI0
        have BK107 := n0_
        have BK112 := n1_
        have HK := n2_
        have HB := n3_
        have HI0 := n4_
        clear n0_ n1_ n2_ n3_ n4_
        (try clear hb)
        (try clear hb2)
        (try clear hk)
        (try clear hi)
        refine hK.out _ _ ⟨(blk_cell BK112.out 0).trans rfl, (blk_cell BK112.out 1).trans rfl, (blk_cell BK112.out 2).trans rfl, (blk_cell BK112.out 3).trans rfl⟩ (fun hHeld => ?_)
        clear hK K
        refine norm_ (a' := ?_) ?_ ?_
        rotate_left
        · show Act.put _ (some 15) _ = _
          simp only [Act.put, List.setIfInBounds_toArray, List.set_cons_zero, List.set_cons_succ, i64_w, i32_w]
          rfl
        refine pure_ (i := 5) (N := some 16) (v := ?_) (a' := ?_) #[true, true, true, true, true, true, true, true, true, true, false, false, false, false, false, false] rfl rfl (any_of HT_.out (by kernel_rfl)) (fun _ _ _ h => h) (Or.inl ⟨by rfl, ?_⟩) ?_ ?_
        rotate_left
        · intro w'
          go_simp
          with_reducible rfl
        rotate_left
        · simp only [Act.put, List.setIfInBounds_toArray, List.set_cons_zero, List.set_cons_succ, i64_w, i32_w]
          rfl
        refine pure_ (i := 12) (N := some 23) (v := ?_) (a' := ?_) #[true, true, true, true, true, true, true, true, true, true, false, false, true, false, false, false] rfl rfl (any_of HT_.out (by kernel_rfl)) (fun _ _ _ h => h) (Or.inl ⟨by rfl, ?_⟩) ?_ ?_
        rotate_left
        · intro w'
          go_simp
          with_reducible rfl
        rotate_left
        · simp only [Act.put, List.setIfInBounds_toArray, List.set_cons_zero, List.set_cons_succ, i64_w, i32_w]
          rfl
        refine one_ (i := 10) (N := some 21) #[true, true, true, true, true, true, true, true, true, true, true, false, true, false, false, false] rfl rfl (one_of HT_.out (by kernel_rfl)) (by decide) (fun K hK => ?_)
        refine goes_ Try.func19 (by kernel_rfl) rfl #[.pointer (some ⟨g, 0, none⟩), .int .i64 6] (by rfl) rfl rfl q128_ ?_
        with_reducible refine (tilefarmgen_Tape_Next.calls g s0_0 t114 6 t115 t116 w0 _ ?side1 ?side2 A5.out).mono ?_
        (case side1 => repeat (first | (with_reducible first | exact HI0.out | apply IsS46.alloc | apply IsS46.drewN | apply IsS46.drew | apply IsS46.set_1 | refine IsS46.far ?_ NB0_107.out _ | refine IsS46.far ?_ NB0_112.out _) | exact HI0.out))
        (case side2 => repeat (first | (with_reducible first | exact HB.out | apply below_alloc | apply pw_below_drewN | apply below_drew1 | refine below_set ?_ (IsS46.ge HI0.out) | refine below_set ?_ GE107.out | refine below_set ?_ GE112.out) | exact HB.out))
        rintro e w55 ⟨rfl, hi, hb, hk⟩
        refine ⟨_, rfl, ?_⟩
        have n0_ := Aside0.mk (KeepBut.blk hk (g' := gb107) (o := .cells #[.int .i64 0, .int .i64 0, .int .i64 0, .int .i64 0] 26 (0, 0)) q130_ NB107_0.out (by simp))
        have n1_ := Aside0.mk (KeepBut.blk hk (g' := gb112) (o := .cells #[.int .i64 (wrap64 (t108 - 2)), .int .i64 (wrap64 (t110 - 2)), .int .i64 0, .int .i64 0] 26 (0, 0)) q131_ NB112_0.out (by simp))
        have n2_ := Aside0.mk (KeepBut.trans q80_ hk (.inl rfl))
        have n3_ := Aside0.mk (hb)
        have n4_ := Aside0.mk (hi)
        clear BK107
        clear BK112
        clear HK
        clear HB
        clear HI0
        have BK107 := n0_
        have BK112 := n1_
        have HK := n2_
        have HB := n3_
        have HI0 := n4_
        clear n0_ n1_ n2_ n3_ n4_
        (try clear hb)
        (try clear hb2)
        (try clear hk)
        (try clear hi)
        refine hK.out _ _ ⟨(blk_cell BK112.out 0).trans rfl, (blk_cell BK112.out 1).trans rfl, (blk_cell BK112.out 2).trans rfl, (blk_cell BK112.out 3).trans rfl⟩ (fun hHeld => ?_)
        clear hK K
        refine norm_ (a' := ?_) ?_ ?_
        rotate_left
        · show Act.put _ (some 21) _ = _
          simp only [Act.put, List.setIfInBounds_toArray, List.set_cons_zero, List.set_cons_succ, i64_w, i32_w]
          rfl
        refine pure_ (i := 11) (N := some 22) (v := ?_) (a' := ?_) #[true, true, true, true, true, true, true, true, true, true, true, true, true, false, false, false] rfl rfl (any_of HT_.out (by kernel_rfl)) (fun _ _ _ h => h) (Or.inl ⟨by rfl, ?_⟩) ?_ ?_
        rotate_left
        · intro w'
          go_simp
          with_reducible rfl
        rotate_left
        · simp only [Act.put, List.setIfInBounds_toArray, List.set_cons_zero, List.set_cons_succ, i64_w, i32_w]
          rfl
        refine last_ (i := 13) (N := none) #[true, true, true, true, true, true, true, true, true, true, true, true, true, true, false, false] rfl rfl (one_of HT_.out (by kernel_rfl)) (by decide) (fun K hK => ?_)
        have hs56 : w55.cell? ⟨gb112, 2, none⟩ = some (.int .i64 0) := (blk_cell BK112.out 2).trans rfl
        have hfs56 := blk_frozen BK112.out 2
        have hns56_0 := NB107_112.out
        have hms56_0 := NB112_107.out
        refine skip_ (w1 := ?_) (by rfl) rfl ?_ ?_
        rotate_left
        · go_simp
          rfl
        refine hK.out _ _ ?_
        clear hK K
        refine pure_ (i := 14) (N := some 24) (v := ?_) (a' := ?_) #[true, true, true, true, true, true, true, true, true, true, true, true, true, true, true, false] rfl rfl (any_of HT_.out (by kernel_rfl)) (fun _ _ _ h => h) (Or.inl ⟨by rfl, ?_⟩) ?_ ?_
        rotate_left
        · intro w'
          go_simp
          with_reducible rfl
        rotate_left
        · simp only [Act.put, List.setIfInBounds_toArray, List.set_cons_zero, List.set_cons_succ, i64_w, i32_w]
          rfl
        refine last_ (i := 15) (N := none) #[true, true, true, true, true, true, true, true, true, true, true, true, true, true, true, true] rfl rfl (one_of HT_.out (by kernel_rfl)) (by decide) (fun K hK => ?_)
        have hs57 : w55.cell? ⟨gb112, 3, none⟩ = some (.int .i64 0) := (blk_cell BK112.out 3).trans rfl
        have hfs57 := blk_frozen BK112.out 3
        have hns57_0 := NB107_112.out
        have hms57_0 := NB112_107.out
        refine skip_ (w1 := ?_) (by rfl) rfl ?_ ?_
        rotate_left
        · go_simp
          rfl
        refine hK.out _ _ ?_
        clear hK K
        refine done_ (done_of HT_.out (by kernel_rfl)) ?_
        try go_wp2_with (first | ((with_reducible refine gate_callee (f := 19) rfl ?_); refine goesL_ (some 26) rfl rfl Try.func19 (by kernel_rfl) rfl #[.pointer (some ⟨g, 0, none⟩), .int .i64 14] rfl q128_ ?_; (with_reducible refine (tilefarmgen_Tape_Next.calls g s0_0 t116 14 t117 t118 w0 _ ?side1 ?side2 A6.out).mono ?_); (case side1 => repeat (first | (with_reducible first | exact HI0.out | apply IsS46.alloc | apply IsS46.drewN | apply IsS46.drew | apply IsS46.set_1 | refine IsS46.far ?_ NB0_107.out _ | refine IsS46.far ?_ NB0_112.out _) | exact HI0.out)); (case side2 => repeat (first | (with_reducible first | exact HB.out | apply below_alloc | apply pw_below_drewN | apply below_drew1 | refine below_set ?_ (IsS46.ge HI0.out) | refine below_set ?_ GE107.out | refine below_set ?_ GE112.out) | exact HB.out)); rintro e w58 ⟨rfl, hi, hb, hk⟩; refine ⟨_, rfl, ?_⟩; have n0_ := Aside0.mk (KeepBut.blk hk (g' := gb107) (o := .cells #[.int .i64 0, .int .i64 0, .int .i64 0, .int .i64 0] 26 (0, 0)) q21_ NB107_0.out (by simp)); have n1_ := Aside0.mk (KeepBut.blk hk (g' := gb112) (o := .cells #[.int .i64 (wrap64 (t108 - 2)), .int .i64 (wrap64 (t110 - 2)), .int .i64 (wrap64 ((wrap64 ((wrap64 (t108 - 2)) + 1)) + t113)), .int .i64 (wrap64 ((wrap64 ((wrap64 (t110 - 2)) + 1)) + t115))] 26 (0, 0)) q19_ NB112_0.out (by simp)); have n2_ := Aside0.mk (KeepBut.trans q80_ hk (.inl rfl)); have n3_ := Aside0.mk (hb); have n4_ := Aside0.mk (hi); clear BK107; clear BK112; clear HK; clear HB; clear HI0; have BK107 := n0_; have BK112 := n1_; have HK := n2_; have HB := n3_; have HI0 := n4_; clear n0_ n1_ n2_ n3_ n4_; (try clear hb); (try clear hb2); (try clear hk); (try clear hi)) | ((with_reducible refine gate_dst (N := 38) rfl ?_); refine Kd.R_lit (Kd.int .i64) _ 3 ?hg (N := 38) ?hd (xs := ([(-1048576), (-1048577)] : List Int)) (inner := [.int .i64 (-1048576), .int .i64 (-1048577)]) (ok := fun _ => True) (okp := fun _ => True) ?hr ?hp (fun _ hk => hk) trivial (Below.refl _ _) (Nat.le_refl _) (by simp) ?_; (case hd => rfl); (case hg => rfl); (case hr => first | (go_simp; done) | (go_simp; rfl)); (case hp => exact (Reps.one (show Kd.M (Kd.int .i64) _ _ _ (-1048576) [.int .i64 (-1048576)] from rfl) (Reps.one (show Kd.M (Kd.int .i64) _ _ _ (-1048577) [.int .i64 (-1048577)] from rfl) (Reps.none _ _)))); intro v120 w59 ho60 hb hg_ hnew_; clear hg_ hnew_; (first | rw [← Ny119.out] at ho60 | (simp only [Int.reduceToNat] at ho60; rw [← Ny119.out] at ho60)); have n0_ := Aside0.mk (Kd.R_lower ho60 (keep_size (w := w) (g := g) (row := none) q80_)); have n1_ := Aside0.mk (IsS46.below q79_ hb); have n2_ := Aside0.mk (blk_below (g := gb107) (o := .cells #[.int .i64 0, .int .i64 0, .int .i64 0, .int .i64 0] 26 (0, 0)) q130_ hb); have n3_ := Aside0.mk (blk_below (g := gb112) (o := .cells #[.int .i64 (wrap64 (t108 - 2)), .int .i64 (wrap64 (t110 - 2)), .int .i64 (wrap64 ((wrap64 ((wrap64 (t108 - 2)) + 1)) + t113)), .int .i64 (wrap64 ((wrap64 ((wrap64 (t110 - 2)) + 1)) + t115))] 26 (0, 0)) q131_ hb); have n4_ := Aside0.mk (KeepBut.trans q80_ (KeepBut.of_below hb g none) (.inl rfl)); have n5_ := Aside0.mk (below_step q64_ hb); clear HI0; clear BK107; clear BK112; clear HK; clear HB; have HO121 := n0_; have HI0 := n1_; have BK107 := n2_; have BK112 := n3_; have HK := n4_; have HB := n5_; clear n0_ n1_ n2_ n3_ n4_ n5_; clear hb ho60; obtain ⟨Ao61, co61, eo61⟩ := Kd.R_slice HO121.out; subst eo61) | ((with_reducible refine gate_callee (f := 22) rfl ?_); refine goesL_ (some 39) rfl rfl Try.func22 (by kernel_rfl) rfl #[.pointer (some ⟨g, 0, none⟩), .slice Ao61 y119.length co61] rfl q128_ ?_; (with_reducible refine (tilefarmgen_Tape_Pick.calls g s0_0 t118 _ _ y119 t122 t123 w0 _ ?side1 ?side2 ?side3 ?side4 ?side5 A43.out).mono ?_); (case side1 => repeat (first | (with_reducible first | exact HI0.out | apply IsS46.alloc | apply IsS46.drewN | apply IsS46.drew | apply IsS46.set_1 | refine IsS46.far ?_ NB0_107.out _ | refine IsS46.far ?_ NB0_112.out _) | exact HI0.out)); (case side2 => repeat (first | (with_reducible first | exact HB.out | apply below_alloc | apply pw_below_drewN | apply below_drew1 | refine below_set ?_ (IsS46.ge HI0.out) | refine below_set ?_ GE107.out | refine below_set ?_ GE112.out) | exact HB.out)); (case side3 => repeat (first | exact (Kd.R_reads' HO121.out).2.2 | (with_reducible refine Kd.C_alloc ?_ _) | (with_reducible refine Kd.C_drewN ?_ _) | (with_reducible refine Kd.C_drew ?_))); (case side4 => exact (Kd.R_reads' HO121.out).2.1); (case side5 => exact far_slice (IsS46.own_ne HI0.out HO121.out (by decide))); rintro e w62 ⟨rfl, hi, hb, hk⟩; refine ⟨_, rfl, ?_⟩; have n0_ := Aside0.mk (KeepBut.blk hk (g' := gb107) (o := .cells #[.int .i64 0, .int .i64 0, .int .i64 0, .int .i64 0] 26 (0, 0)) q130_ NB107_0.out (by simp)); have n1_ := Aside0.mk (KeepBut.blk hk (g' := gb112) (o := .cells #[.int .i64 (wrap64 (t108 - 2)), .int .i64 (wrap64 (t110 - 2)), .int .i64 (wrap64 ((wrap64 ((wrap64 (t108 - 2)) + 1)) + t113)), .int .i64 (wrap64 ((wrap64 ((wrap64 (t110 - 2)) + 1)) + t115))] 26 (0, 0)) q131_ NB112_0.out (by simp)); have n2_ := Aside0.mk (Kd.R_mono (Kd.R_keep (IsS46.apart (show IsS46 w0 _ g s0_0 t118 from by repeat (first | (with_reducible first | exact HI0.out | apply IsS46.alloc | apply IsS46.drewN | apply IsS46.drew | apply IsS46.set_1 | refine IsS46.far ?_ NB0_107.out _ | refine IsS46.far ?_ NB0_112.out _) | exact HI0.out)) q168_ (by decide)) hk (fun _ h => h.2)) (fun _ h => h.1)); have n3_ := Aside0.mk (KeepBut.trans q80_ hk (.inl rfl)); have n4_ := Aside0.mk (hb); have n5_ := Aside0.mk (hi); clear BK107; clear BK112; clear HO121; clear HK; clear HB; clear HI0; have BK107 := n0_; have BK112 := n1_; have HO121 := n2_; have HK := n3_; have HB := n4_; have HI0 := n5_; clear n0_ n1_ n2_ n3_ n4_ n5_; (try clear hb); (try clear hb2); (try clear hk); (try clear hi)) | ((with_reducible refine gate_dst (N := 41) rfl ?_); refine Kd.R_lit (Kd.int .i64) _ 3 ?hg (N := 41) ?hd (xs := ([1048576, 1048577] : List Int)) (inner := [.int .i64 1048576, .int .i64 1048577]) (ok := fun _ => True) (okp := fun _ => True) ?hr ?hp (fun _ hk => hk) trivial (Below.refl _ _) (Nat.le_refl _) (by simp) ?_; (case hd => rfl); (case hg => rfl); (case hr => first | (go_simp; done) | (go_simp; rfl)); (case hp => exact (Reps.one (show Kd.M (Kd.int .i64) _ _ _ 1048576 [.int .i64 1048576] from rfl) (Reps.one (show Kd.M (Kd.int .i64) _ _ _ 1048577 [.int .i64 1048577] from rfl) (Reps.none _ _)))); intro v125 w63 ho64 hb hg_ hnew_; clear hg_ hnew_; (first | rw [← Ny124.out] at ho64 | (simp only [Int.reduceToNat] at ho64; rw [← Ny124.out] at ho64)); have n0_ := Aside0.mk (Kd.R_elder' q168_ (Kd.R_base ho64) hb); have n1_ := Aside0.mk (Kd.R_lower (Kd.R_new' ho64 (Kd.R_lt q168_)) (keep_size (w := w) (g := g) (row := none) q80_)); have n2_ := Aside0.mk (IsS46.below q79_ hb); have n3_ := Aside0.mk (blk_below (g := gb107) (o := .cells #[.int .i64 0, .int .i64 0, .int .i64 0, .int .i64 0] 26 (0, 0)) q130_ hb); have n4_ := Aside0.mk (blk_below (g := gb112) (o := .cells #[.int .i64 (wrap64 (t108 - 2)), .int .i64 (wrap64 (t110 - 2)), .int .i64 (wrap64 ((wrap64 ((wrap64 (t108 - 2)) + 1)) + t113)), .int .i64 (wrap64 ((wrap64 ((wrap64 (t110 - 2)) + 1)) + t115))] 26 (0, 0)) q131_ hb); have n5_ := Aside0.mk (KeepBut.trans q80_ (KeepBut.of_below hb g none) (.inl rfl)); have n6_ := Aside0.mk (below_step q64_ hb); clear HO121; clear HI0; clear BK107; clear BK112; clear HK; clear HB; have HO121 := n0_; have HO126 := n1_; have HI0 := n2_; have BK107 := n3_; have BK112 := n4_; have HK := n5_; have HB := n6_; clear n0_ n1_ n2_ n3_ n4_ n5_ n6_; clear hb ho64; obtain ⟨Ao65, co65, eo65⟩ := Kd.R_slice HO126.out; subst eo65) | ((with_reducible refine gate_callee (f := 22) rfl ?_); refine goesL_ (some 42) rfl rfl Try.func22 (by kernel_rfl) rfl #[.pointer (some ⟨g, 0, none⟩), .slice Ao65 y124.length co65] rfl q128_ ?_; (with_reducible refine (tilefarmgen_Tape_Pick.calls g s0_0 t123 _ _ y124 t127 t128 w0 _ ?side1 ?side2 ?side3 ?side4 ?side5 A44.out).mono ?_); (case side1 => repeat (first | (with_reducible first | exact HI0.out | apply IsS46.alloc | apply IsS46.drewN | apply IsS46.drew | apply IsS46.set_1 | refine IsS46.far ?_ NB0_107.out _ | refine IsS46.far ?_ NB0_112.out _) | exact HI0.out)); (case side2 => repeat (first | (with_reducible first | exact HB.out | apply below_alloc | apply pw_below_drewN | apply below_drew1 | refine below_set ?_ (IsS46.ge HI0.out) | refine below_set ?_ GE107.out | refine below_set ?_ GE112.out) | exact HB.out)); (case side3 => repeat (first | exact (Kd.R_reads' HO126.out).2.2 | (with_reducible refine Kd.C_alloc ?_ _) | (with_reducible refine Kd.C_drewN ?_ _) | (with_reducible refine Kd.C_drew ?_))); (case side4 => exact (Kd.R_reads' HO126.out).2.1); (case side5 => exact far_slice (IsS46.own_ne HI0.out HO126.out (by decide))); rintro e w66 ⟨rfl, hi, hb, hk⟩; refine ⟨_, rfl, ?_⟩; have n0_ := Aside0.mk (KeepBut.blk hk (g' := gb107) (o := .cells #[.int .i64 0, .int .i64 0, .int .i64 0, .int .i64 0] 26 (0, 0)) q130_ NB107_0.out (by simp)); have n1_ := Aside0.mk (KeepBut.blk hk (g' := gb112) (o := .cells #[.int .i64 (wrap64 (t108 - 2)), .int .i64 (wrap64 (t110 - 2)), .int .i64 (wrap64 ((wrap64 ((wrap64 (t108 - 2)) + 1)) + t113)), .int .i64 (wrap64 ((wrap64 ((wrap64 (t110 - 2)) + 1)) + t115))] 26 (0, 0)) q131_ NB112_0.out (by simp)); have n2_ := Aside0.mk (Kd.R_mono (Kd.R_keep (IsS46.apart (show IsS46 w0 _ g s0_0 t123 from by repeat (first | (with_reducible first | exact HI0.out | apply IsS46.alloc | apply IsS46.drewN | apply IsS46.drew | apply IsS46.set_1 | refine IsS46.far ?_ NB0_107.out _ | refine IsS46.far ?_ NB0_112.out _) | exact HI0.out)) q168_ (by decide)) hk (fun _ h => h.2)) (fun _ h => h.1)); have n3_ := Aside0.mk (Kd.R_mono (Kd.R_keep (IsS46.apart (show IsS46 w0 _ g s0_0 t123 from by repeat (first | (with_reducible first | exact HI0.out | apply IsS46.alloc | apply IsS46.drewN | apply IsS46.drew | apply IsS46.set_1 | refine IsS46.far ?_ NB0_107.out _ | refine IsS46.far ?_ NB0_112.out _) | exact HI0.out)) (by (with_reducible repeat (first | apply Kd.R_alloc | apply Kd.R_drewN | apply Kd.R_drew)); exact HO126.out) (by decide)) hk (fun _ h => h.2)) (fun _ h => h.1)); have n4_ := Aside0.mk (KeepBut.trans q80_ hk (.inl rfl)); have n5_ := Aside0.mk (hb); have n6_ := Aside0.mk (hi); clear BK107; clear BK112; clear HO121; clear HO126; clear HK; clear HB; clear HI0; have BK107 := n0_; have BK112 := n1_; have HO121 := n2_; have HO126 := n3_; have HK := n4_; have HB := n5_; have HI0 := n6_; clear n0_ n1_ n2_ n3_ n4_ n5_ n6_; (try clear hb); (try clear hb2); (try clear hk); (try clear hi); have hcz67_0 : w66.cell? ⟨gb112, 0, none⟩ = some (.int .i64 (wrap64 (t108 - 2))) := (blk_cell BK112.out 0).trans rfl; have hcz67_1 : w66.cell? ⟨gb112, 1, none⟩ = some (.int .i64 (wrap64 (t110 - 2))) := (blk_cell BK112.out 1).trans rfl; have hcz67_2 : w66.cell? ⟨gb112, 2, none⟩ = some (.int .i64 (wrap64 ((wrap64 ((wrap64 (t108 - 2)) + 1)) + t113))) := (blk_cell BK112.out 2).trans rfl; have hcz67_3 : w66.cell? ⟨gb112, 3, none⟩ = some (.int .i64 (wrap64 ((wrap64 ((wrap64 (t110 - 2)) + 1)) + t115))) := (blk_cell BK112.out 3).trans rfl; have hfz67_0 := blk_frozen BK112.out 0; have hfz67_1 := blk_frozen BK112.out 1; have hfz67_2 := blk_frozen BK112.out 2; have hfz67_3 := blk_frozen BK112.out 3; have hnb68 := NB107_0.out; have hnc68 := NB0_107.out; have hcz69_0 : w66.cell? ⟨gb107, 0, none⟩ = some (.int .i64 0) := (blk_cell BK107.out 0).trans rfl; have hcz69_1 : w66.cell? ⟨gb107, 1, none⟩ = some (.int .i64 0) := (blk_cell BK107.out 1).trans rfl; have hcz69_2 : w66.cell? ⟨gb107, 2, none⟩ = some (.int .i64 0) := (blk_cell BK107.out 2).trans rfl; have hcz69_3 : w66.cell? ⟨gb107, 3, none⟩ = some (.int .i64 0) := (blk_cell BK107.out 3).trans rfl; have hfz69_0 := blk_frozen BK107.out 0; have hfz69_1 := blk_frozen BK107.out 1; have hfz69_2 := blk_frozen BK107.out 2; have hfz69_3 := blk_frozen BK107.out 3))
        refine bodyPost_ret (results_cell_row rfl _ _ gb107 26 #[.int .i64 t122, .int .i64 (wrap64 (t110 - 2)), .int .i64 t127, .int .i64 (wrap64 ((wrap64 ((wrap64 (t110 - 2)) + 1)) + t115))] (0, 0) _ rfl (by (with_reducible repeat (first | refine blk_drewN ?_ _ | refine blk_drew ?_ | refine blk_alloc ?_ _)); refine blk_put (cs := #[.int .i64 t122, .int .i64 (wrap64 (t110 - 2)), .int .i64 t127, .int .i64 0]) ?_ 3 _ rfl; (with_reducible repeat (first | refine blk_drewN ?_ _ | refine blk_drew ?_ | refine blk_alloc ?_ _)); refine blk_put (cs := #[.int .i64 t122, .int .i64 (wrap64 (t110 - 2)), .int .i64 0, .int .i64 0]) ?_ 2 _ rfl; (with_reducible repeat (first | refine blk_drewN ?_ _ | refine blk_drew ?_ | refine blk_alloc ?_ _)); refine blk_put (cs := #[.int .i64 t122, .int .i64 0, .int .i64 0, .int .i64 0]) ?_ 1 _ rfl; (with_reducible repeat (first | refine blk_drewN ?_ _ | refine blk_drew ?_ | refine blk_alloc ?_ _)); refine blk_put (cs := #[.int .i64 0, .int .i64 0, .int .i64 0, .int .i64 0]) ?_ 0 _ rfl; (with_reducible repeat (first | refine blk_drewN ?_ _ | refine blk_drew ?_ | refine blk_alloc ?_ _)); refine blk_far ?_ NB107_112.out _; (with_reducible repeat (first | refine blk_drewN ?_ _ | refine blk_drew ?_ | refine blk_alloc ?_ _)); refine blk_far ?_ NB107_112.out _; (with_reducible repeat (first | refine blk_drewN ?_ _ | refine blk_drew ?_ | refine blk_alloc ?_ _)); exact BK107.out) Try.underlying26 rfl (by kernel_rfl)) rfl ?_
        exact ⟨q177_, q79_, q64_, q80_⟩
      · rw [if_neg c42] at H
        have c42b0 : (t117 == 13) = false := beq_eq_false_iff_ne.mpr c42
        have c42b1 : (t117 != 13) = true := bne_iff_ne.mpr c42
        simp only [Option.some.injEq, Prod.mk.injEq] at H
        obtain ⟨rfl, rfl, rfl, rfl, rfl⟩ := H
        go_enter Try.func8, Try.ntmps8
        try go_wp2_with (first | ((with_reducible refine gate_dst (N := 2) rfl ?_); refine box_event ?hg (N := 2) ?hd (cs := #[.int .i64 0, .int .i64 0, .int .i64 0, .int .i64 0]) (t := 26) ?hr ?_; (case hd => rfl); (case hg => rfl); (case hr => first | (go_simp; done) | (go_simp; rfl)); intro gb107 hg w70 hbox hb; have n0_ := Aside0.mk (IsS46.below q125_ hb); have n1_ := Aside0.mk (KeepBut.trans q126_ (KeepBut.of_below hb g none) (.inl rfl)); have n2_ := Aside0.mk (below_step q102_ hb); have n3_ := Aside0.mk (hbox); have n4_ := Aside0.mk ((q81_ : w.heap.size ≤ gb107)); have n5_ := Aside0.mk ((Nat.le_trans HW0.out (q81_ : w.heap.size ≤ gb107) : w0.heap.size ≤ gb107)); have n6_ := Aside0.mk ((q77_ : g ≠ gb107)); have n7_ := Aside0.mk ((q78_ : gb107 ≠ g)); clear HI0; clear HK; clear HB; have HI0 := n0_; have HK := n1_; have HB := n2_; have BK107 := n3_; have GW107 := n4_; have GE107 := n5_; have NB0_107 := n6_; have NB107_0 := n7_; clear n0_ n1_ n2_ n3_ n4_ n5_ n6_ n7_; clear hb hbox hg) | ((with_reducible refine gate_callee (f := 19) rfl ?_); refine goesL_ (some 5) rfl rfl Try.func19 (by kernel_rfl) rfl #[.pointer (some ⟨g, 0, none⟩), .int .i64 8] rfl q128_ ?_; (with_reducible refine (tilefarmgen_Tape_Next.calls g s0_0 s0_1 8 t108 t109 w0 _ ?side1 ?side2 A2.out).mono ?_); (case side1 => repeat (first | (with_reducible first | exact HI0.out | apply IsS46.alloc | apply IsS46.drewN | apply IsS46.drew | apply IsS46.set_1 | refine IsS46.far ?_ NB0_107.out _) | exact HI0.out)); (case side2 => repeat (first | (with_reducible first | exact HB.out | apply below_alloc | apply pw_below_drewN | apply below_drew1 | refine below_set ?_ (IsS46.ge HI0.out) | refine below_set ?_ GE107.out) | exact HB.out)); rintro e w71 ⟨rfl, hi, hb, hk⟩; refine ⟨_, rfl, ?_⟩; have n0_ := Aside0.mk (KeepBut.blk hk (g' := gb107) (o := .cells #[.int .i64 0, .int .i64 0, .int .i64 0, .int .i64 0] 26 (0, 0)) q130_ NB107_0.out (by simp)); have n1_ := Aside0.mk (KeepBut.trans q101_ hk (.inl rfl)); have n2_ := Aside0.mk (hb); have n3_ := Aside0.mk (hi); clear BK107; clear HK; clear HB; clear HI0; have BK107 := n0_; have HK := n1_; have HB := n2_; have HI0 := n3_; clear n0_ n1_ n2_ n3_; (try clear hb); (try clear hb2); (try clear hk); (try clear hi)) | ((with_reducible refine gate_callee (f := 19) rfl ?_); refine goesL_ (some 8) rfl rfl Try.func19 (by kernel_rfl) rfl #[.pointer (some ⟨g, 0, none⟩), .int .i64 8] rfl q128_ ?_; (with_reducible refine (tilefarmgen_Tape_Next.calls g s0_0 t109 8 t110 t111 w0 _ ?side1 ?side2 A3.out).mono ?_); (case side1 => repeat (first | (with_reducible first | exact HI0.out | apply IsS46.alloc | apply IsS46.drewN | apply IsS46.drew | apply IsS46.set_1 | refine IsS46.far ?_ NB0_107.out _) | exact HI0.out)); (case side2 => repeat (first | (with_reducible first | exact HB.out | apply below_alloc | apply pw_below_drewN | apply below_drew1 | refine below_set ?_ (IsS46.ge HI0.out) | refine below_set ?_ GE107.out) | exact HB.out)); rintro e w72 ⟨rfl, hi, hb, hk⟩; refine ⟨_, rfl, ?_⟩; have n0_ := Aside0.mk (KeepBut.blk hk (g' := gb107) (o := .cells #[.int .i64 0, .int .i64 0, .int .i64 0, .int .i64 0] 26 (0, 0)) q130_ NB107_0.out (by simp)); have n1_ := Aside0.mk (KeepBut.trans q101_ hk (.inl rfl)); have n2_ := Aside0.mk (hb); have n3_ := Aside0.mk (hi); clear BK107; clear HK; clear HB; clear HI0; have BK107 := n0_; have HK := n1_; have HB := n2_; have HI0 := n3_; clear n0_ n1_ n2_ n3_; (try clear hb); (try clear hb2); (try clear hk); (try clear hi)) | ((with_reducible refine gate_dst (N := 3) rfl ?_); refine box_event ?hg (N := 3) ?hd (cs := #[.int .i64 0, .int .i64 0, .int .i64 0, .int .i64 0]) (t := 26) ?hr ?_; (case hd => rfl); (case hg => rfl); (case hr => first | (go_simp; done) | (go_simp; rfl)); intro gb112 hg w73 hbox hb; have n0_ := Aside0.mk (IsS46.below q100_ hb); have n1_ := Aside0.mk (blk_below (g := gb107) (o := .cells #[.int .i64 0, .int .i64 0, .int .i64 0, .int .i64 0] 26 (0, 0)) q130_ hb); have n2_ := Aside0.mk (KeepBut.trans q101_ (KeepBut.of_below hb g none) (.inl rfl)); have n3_ := Aside0.mk (below_step q82_ hb); have n4_ := Aside0.mk (hbox); have n5_ := Aside0.mk ((q62_ : w.heap.size ≤ gb112)); have n6_ := Aside0.mk ((Nat.le_trans HW0.out (q62_ : w.heap.size ≤ gb112) : w0.heap.size ≤ gb112)); have n7_ := Aside0.mk ((q56_ : gb107 ≠ gb112)); have n8_ := Aside0.mk ((q57_ : gb112 ≠ gb107)); have n9_ := Aside0.mk ((q24_ : g ≠ gb112)); have n10_ := Aside0.mk ((q25_ : gb112 ≠ g)); clear HI0; clear BK107; clear HK; clear HB; have HI0 := n0_; have BK107 := n1_; have HK := n2_; have HB := n3_; have BK112 := n4_; have GW112 := n5_; have GE112 := n6_; have NB107_112 := n7_; have NB112_107 := n8_; have NB0_112 := n9_; have NB112_0 := n10_; clear n0_ n1_ n2_ n3_ n4_ n5_ n6_ n7_ n8_ n9_ n10_; clear hb hbox hg; have hnb74 := NB112_107.out; have hnc74 := NB107_112.out; have hnb75 := NB112_0.out; have hnc75 := NB0_112.out; have hcz76_0 : w73.cell? ⟨gb112, 0, none⟩ = some (.int .i64 0) := (blk_cell BK112.out 0).trans rfl; have hcz76_1 : w73.cell? ⟨gb112, 1, none⟩ = some (.int .i64 0) := (blk_cell BK112.out 1).trans rfl; have hcz76_2 : w73.cell? ⟨gb112, 2, none⟩ = some (.int .i64 0) := (blk_cell BK112.out 2).trans rfl; have hcz76_3 : w73.cell? ⟨gb112, 3, none⟩ = some (.int .i64 0) := (blk_cell BK112.out 3).trans rfl; have hfz76_0 := blk_frozen BK112.out 0; have hfz76_1 := blk_frozen BK112.out 1; have hfz76_2 := blk_frozen BK112.out 2; have hfz76_3 := blk_frozen BK112.out 3))
        have n0_ : Aside0 (((((w73.setCell ⟨gb112, 0, none⟩ (.int .i64 (wrap64 (t108 - 2)))).setCell ⟨gb112, 1, none⟩ (.int .i64 (wrap64 (t110 - 2)))).setCell ⟨gb112, 2, none⟩ (.int .i64 0)).setCell ⟨gb112, 3, none⟩ (.int .i64 0)).heap[gb107]? = some (.cells #[.int .i64 0, .int .i64 0, .int .i64 0, .int .i64 0] 26 (0, 0))) := ⟨q8_⟩
        have n1_ : Aside0 (((((w73.setCell ⟨gb112, 0, none⟩ (.int .i64 (wrap64 (t108 - 2)))).setCell ⟨gb112, 1, none⟩ (.int .i64 (wrap64 (t110 - 2)))).setCell ⟨gb112, 2, none⟩ (.int .i64 0)).setCell ⟨gb112, 3, none⟩ (.int .i64 0)).heap[gb112]? = some (.cells #[.int .i64 (wrap64 (t108 - 2)), .int .i64 (wrap64 (t110 - 2)), .int .i64 0, .int .i64 0] 26 (0, 0))) := ⟨q1_⟩
        have n2_ : Aside0 (IsS46 w0 ((((w73.setCell ⟨gb112, 0, none⟩ (.int .i64 (wrap64 (t108 - 2)))).setCell ⟨gb112, 1, none⟩ (.int .i64 (wrap64 (t110 - 2)))).setCell ⟨gb112, 2, none⟩ (.int .i64 0)).setCell ⟨gb112, 3, none⟩ (.int .i64 0)) g s0_0 t111) := ⟨q79_⟩
        have n3_ : Aside0 (KeepBut w ((((w73.setCell ⟨gb112, 0, none⟩ (.int .i64 (wrap64 (t108 - 2)))).setCell ⟨gb112, 1, none⟩ (.int .i64 (wrap64 (t110 - 2)))).setCell ⟨gb112, 2, none⟩ (.int .i64 0)).setCell ⟨gb112, 3, none⟩ (.int .i64 0)) g none) := ⟨q80_⟩
        have n4_ : Aside0 (Below w0.heap.size w0 ((((w73.setCell ⟨gb112, 0, none⟩ (.int .i64 (wrap64 (t108 - 2)))).setCell ⟨gb112, 1, none⟩ (.int .i64 (wrap64 (t110 - 2)))).setCell ⟨gb112, 2, none⟩ (.int .i64 0)).setCell ⟨gb112, 3, none⟩ (.int .i64 0))) := ⟨q64_⟩
        (try clear BK107)
        (try clear BK112)
        (try clear HI0)
        (try clear HK)
        (try clear HB)
        generalize ((((w73.setCell ⟨gb112, 0, none⟩ (.int .i64 (wrap64 (t108 - 2)))).setCell ⟨gb112, 1, none⟩ (.int .i64 (wrap64 (t110 - 2)))).setCell ⟨gb112, 2, none⟩ (.int .i64 0)).setCell ⟨gb112, 3, none⟩ (.int .i64 0)) = w77 at n0_ n1_ n2_ n3_ n4_ ⊢
        have BK107 := n0_
        have BK112 := n1_
        have HI0 := n2_
        have HK := n3_
        have HB := n4_
        clear n0_ n1_ n2_ n3_ n4_
        have n0_ := Aside0.mk (blk_drew BK107.out)
        have n1_ := Aside0.mk (blk_drew BK112.out)
        have n2_ := Aside0.mk (IsS46.drew HI0.out)
        have n3_ := Aside0.mk (keep_drew HK.out)
        have n4_ := Aside0.mk (below_drew1 HB.out)
        clear BK107
        clear BK112
        clear HI0
        clear HK
        clear HB
        have BK107 := n0_
        have BK112 := n1_
        have HI0 := n2_
        have HK := n3_
        have HB := n4_
        clear n0_ n1_ n2_ n3_ n4_
        refine start_ (n := 16) (S := fun w' => w'.cell? ⟨gb112, 0, none⟩ = some (.int .i64 (wrap64 (t108 - 2))) ∧ w'.cell? ⟨gb112, 1, none⟩ = some (.int .i64 (wrap64 (t110 - 2))) ∧ w'.cell? ⟨gb112, 2, none⟩ = some (.int .i64 0) ∧ w'.cell? ⟨gb112, 3, none⟩ = some (.int .i64 0)) (ds := [13, 15]) #[false, false, false, false, false, false, false, false, false, false, false, false, false, false, false, false] (by kernel_rfl) rfl rfl ⟨(blk_cell BK112.out 0).trans rfl, (blk_cell BK112.out 1).trans rfl, (blk_cell BK112.out 2).trans rfl, (blk_cell BK112.out 3).trans rfl⟩ (fun hHeld => ?_); refine with_tabW tilefarmgen_Tape_Rect.tab2 tilefarmgen_Tape_Rect.bits2 (fun HT_ HW_ => ?_)
        generalize w77.drew = w78 at BK107 BK112 HI0 HK HB hHeld ⊢
        refine pure_ (i := 0) (N := some 11) (v := ?_) (a' := ?_) #[true, false, false, false, false, false, false, false, false, false, false, false, false, false, false, false] rfl rfl (any_of HT_.out (by kernel_rfl)) (fun _ _ _ h => h) (Or.inl ⟨by rfl, ?_⟩) ?_ ?_
        rotate_left
        · intro w'
          go_simp
          with_reducible rfl
        rotate_left
        · simp only [Act.put, List.setIfInBounds_toArray, List.set_cons_zero, List.set_cons_succ, i64_w, i32_w]
          rfl
        refine pure_ (i := 3) (N := some 14) (v := ?_) (a' := ?_) #[true, false, false, true, false, false, false, false, false, false, false, false, false, false, false, false] rfl rfl (any_of HT_.out (by kernel_rfl)) (fun _ _ _ h => h) (Or.inl ⟨by rfl, ?_⟩) ?_ ?_
        rotate_left
        · intro w'
          go_simp
          with_reducible rfl
        rotate_left
        · simp only [Act.put, List.setIfInBounds_toArray, List.set_cons_zero, List.set_cons_succ, i64_w, i32_w]
          rfl
        refine pure_ (i := 6) (N := some 17) (v := ?_) (a' := ?_) #[true, false, false, true, false, false, true, false, false, false, false, false, false, false, false, false] rfl rfl (any_of HT_.out (by kernel_rfl)) (fun _ _ _ h => h) (Or.inl ⟨by rfl, ?_⟩) ?_ ?_
        rotate_left
        · intro w'
          go_simp
          with_reducible rfl
        rotate_left
        · simp only [Act.put, List.setIfInBounds_toArray, List.set_cons_zero, List.set_cons_succ, i64_w, i32_w]
          rfl
        refine pure_ (i := 9) (N := some 20) (v := ?_) (a' := ?_) #[true, false, false, true, false, false, true, false, false, true, false, false, false, false, false, false] rfl rfl (any_of HT_.out (by kernel_rfl)) (fun _ _ _ h => h) (Or.inl ⟨by rfl, ?_⟩) ?_ ?_
        rotate_left
        · intro w'
          go_simp
          with_reducible rfl
        rotate_left
        · simp only [Act.put, List.setIfInBounds_toArray, List.set_cons_zero, List.set_cons_succ, i64_w, i32_w]
          rfl
        refine take_ (i := 1) (N := some 12) (v := ?_) (a' := ?_) #[true, true, false, true, false, false, true, false, false, true, false, false, false, false, false, false] rfl rfl (take_ofW HT_.out HW_.out (by kernel_rfl)) (fun _ _ _ h => h) (Or.inl ⟨by rfl, ?_⟩) hHeld ?_ ?_
        rotate_left
        · rintro w' ⟨s0, s1, s2, s3⟩
          go_simp
          with_reducible rfl
        rotate_left
        · simp only [Act.put, List.setIfInBounds_toArray, List.set_cons_zero, List.set_cons_succ, i64_w, i32_w]
          rfl
        refine pure_ (i := 2) (N := some 13) (v := ?_) (a' := ?_) #[true, true, true, true, false, false, true, false, false, true, false, false, false, false, false, false] rfl rfl (any_of HT_.out (by kernel_rfl)) (fun _ _ _ h => h) (Or.inl ⟨by rfl, ?_⟩) ?_ ?_
        rotate_left
        · intro w'
          go_simp
          with_reducible rfl
        rotate_left
        · simp only [Act.put, List.setIfInBounds_toArray, List.set_cons_zero, List.set_cons_succ, i64_w, i32_w]
          rfl
        refine take_ (i := 7) (N := some 18) (v := ?_) (a' := ?_) #[true, true, true, true, false, false, true, true, false, true, false, false, false, false, false, false] rfl rfl (take_ofW HT_.out HW_.out (by kernel_rfl)) (fun _ _ _ h => h) (Or.inl ⟨by rfl, ?_⟩) hHeld ?_ ?_
        rotate_left
        · rintro w' ⟨s0, s1, s2, s3⟩
          go_simp
          with_reducible rfl
        rotate_left
        · simp only [Act.put, List.setIfInBounds_toArray, List.set_cons_zero, List.set_cons_succ, i64_w, i32_w]
          rfl
        refine pure_ (i := 8) (N := some 19) (v := ?_) (a' := ?_) #[true, true, true, true, false, false, true, true, true, true, false, false, false, false, false, false] rfl rfl (any_of HT_.out (by kernel_rfl)) (fun _ _ _ h => h) (Or.inl ⟨by rfl, ?_⟩) ?_ ?_
        rotate_left
        · intro w'
          go_simp
          with_reducible rfl
        rotate_left
        · simp only [Act.put, List.setIfInBounds_toArray, List.set_cons_zero, List.set_cons_succ, i64_w, i32_w]
          rfl
        refine one_ (i := 4) (N := some 15) #[true, true, true, true, true, false, true, true, true, true, false, false, false, false, false, false] rfl rfl (one_of HT_.out (by kernel_rfl)) (by decide) (fun K hK => ?_)
        refine goes_ Try.func19 (by kernel_rfl) rfl #[.pointer (some ⟨g, 0, none⟩), .int .i64 6] (by rfl) rfl rfl q128_ ?_
        with_reducible refine (tilefarmgen_Tape_Next.calls g s0_0 t111 6 t113 t114 w0 _ ?side1 ?side2 A4.out).mono ?_
        (case side1 => repeat (first | (with_reducible first | exact HI0.out | apply IsS46.alloc | apply IsS46.drewN | apply IsS46.drew | apply IsS46.set_1 | refine IsS46.far ?_ NB0_107.out _ | refine IsS46.far ?_ NB0_112.out _) | exact HI0.out))
        (case side2 => repeat (first | (with_reducible first | exact HB.out | apply below_alloc | apply pw_below_drewN | apply below_drew1 | refine below_set ?_ (IsS46.ge HI0.out) | refine below_set ?_ GE107.out | refine below_set ?_ GE112.out) | exact HB.out))
        rintro e w79 ⟨rfl, hi, hb, hk⟩
        refine ⟨_, rfl, ?_⟩
        have n0_ := Aside0.mk (KeepBut.blk hk (g' := gb107) (o := .cells #[.int .i64 0, .int .i64 0, .int .i64 0, .int .i64 0] 26 (0, 0)) q130_ NB107_0.out (by simp))
        have n1_ := Aside0.mk (KeepBut.blk hk (g' := gb112) (o := .cells #[.int .i64 (wrap64 (t108 - 2)), .int .i64 (wrap64 (t110 - 2)), .int .i64 0, .int .i64 0] 26 (0, 0)) q131_ NB112_0.out (by simp))
        have n2_ := Aside0.mk (KeepBut.trans q80_ hk (.inl rfl))
        have n3_ := Aside0.mk (hb)
        have n4_ := Aside0.mk (hi)
        clear BK107
        clear BK112
        clear HK
        clear HB
        clear HI0
        have BK107 := n0_
        have BK112 := n1_
        have HK := n2_
        have HB := n3_
        have HI0 := n4_
        clear n0_ n1_ n2_ n3_ n4_
        (try clear hb)
        (try clear hb2)
        (try clear hk)
        (try clear hi)
        refine hK.out _ _ ⟨(blk_cell BK112.out 0).trans rfl, (blk_cell BK112.out 1).trans rfl, (blk_cell BK112.out 2).trans rfl, (blk_cell BK112.out 3).trans rfl⟩ (fun hHeld => ?_)
        clear hK K
        refine norm_ (a' := ?_) ?_ ?_
        rotate_left
        · show Act.put _ (some 15) _ = _
          simp only [Act.put, List.setIfInBounds_toArray, List.set_cons_zero, List.set_cons_succ, i64_w, i32_w]
          rfl
        refine pure_ (i := 5) (N := some 16) (v := ?_) (a' := ?_) #[true, true, true, true, true, true, true, true, true, true, false, false, false, false, false, false] rfl rfl (any_of HT_.out (by kernel_rfl)) (fun _ _ _ h => h) (Or.inl ⟨by rfl, ?_⟩) ?_ ?_
        rotate_left
        · intro w'
          go_simp
          with_reducible rfl
        rotate_left
        · simp only [Act.put, List.setIfInBounds_toArray, List.set_cons_zero, List.set_cons_succ, i64_w, i32_w]
          rfl
        refine pure_ (i := 12) (N := some 23) (v := ?_) (a' := ?_) #[true, true, true, true, true, true, true, true, true, true, false, false, true, false, false, false] rfl rfl (any_of HT_.out (by kernel_rfl)) (fun _ _ _ h => h) (Or.inl ⟨by rfl, ?_⟩) ?_ ?_
        rotate_left
        · intro w'
          go_simp
          with_reducible rfl
        rotate_left
        · simp only [Act.put, List.setIfInBounds_toArray, List.set_cons_zero, List.set_cons_succ, i64_w, i32_w]
          rfl
        refine one_ (i := 10) (N := some 21) #[true, true, true, true, true, true, true, true, true, true, true, false, true, false, false, false] rfl rfl (one_of HT_.out (by kernel_rfl)) (by decide) (fun K hK => ?_)
        refine goes_ Try.func19 (by kernel_rfl) rfl #[.pointer (some ⟨g, 0, none⟩), .int .i64 6] (by rfl) rfl rfl q128_ ?_
        with_reducible refine (tilefarmgen_Tape_Next.calls g s0_0 t114 6 t115 t116 w0 _ ?side1 ?side2 A5.out).mono ?_
        (case side1 => repeat (first | (with_reducible first | exact HI0.out | apply IsS46.alloc | apply IsS46.drewN | apply IsS46.drew | apply IsS46.set_1 | refine IsS46.far ?_ NB0_107.out _ | refine IsS46.far ?_ NB0_112.out _) | exact HI0.out))
        (case side2 => repeat (first | (with_reducible first | exact HB.out | apply below_alloc | apply pw_below_drewN | apply below_drew1 | refine below_set ?_ (IsS46.ge HI0.out) | refine below_set ?_ GE107.out | refine below_set ?_ GE112.out) | exact HB.out))
        rintro e w80 ⟨rfl, hi, hb, hk⟩
        refine ⟨_, rfl, ?_⟩
        have n0_ := Aside0.mk (KeepBut.blk hk (g' := gb107) (o := .cells #[.int .i64 0, .int .i64 0, .int .i64 0, .int .i64 0] 26 (0, 0)) q130_ NB107_0.out (by simp))
        have n1_ := Aside0.mk (KeepBut.blk hk (g' := gb112) (o := .cells #[.int .i64 (wrap64 (t108 - 2)), .int .i64 (wrap64 (t110 - 2)), .int .i64 0, .int .i64 0] 26 (0, 0)) q131_ NB112_0.out (by simp))
        have n2_ := Aside0.mk (KeepBut.trans q80_ hk (.inl rfl))
        have n3_ := Aside0.mk (hb)
        have n4_ := Aside0.mk (hi)
        clear BK107
        clear BK112
        clear HK
        clear HB
        clear HI0
        have BK107 := n0_
        have BK112 := n1_
        have HK := n2_
        have HB := n3_
        have HI0 := n4_
        clear n0_ n1_ n2_ n3_ n4_
        (try clear hb)
        (try clear hb2)
        (try clear hk)
        (try clear hi)
        refine hK.out _ _ ⟨(blk_cell BK112.out 0).trans rfl, (blk_cell BK112.out 1).trans rfl, (blk_cell BK112.out 2).trans rfl, (blk_cell BK112.out 3).trans rfl⟩ (fun hHeld => ?_)
        clear hK K
        refine norm_ (a' := ?_) ?_ ?_
        rotate_left
        · show Act.put _ (some 21) _ = _
          simp only [Act.put, List.setIfInBounds_toArray, List.set_cons_zero, List.set_cons_succ, i64_w, i32_w]
          rfl
        refine pure_ (i := 11) (N := some 22) (v := ?_) (a' := ?_) #[true, true, true, true, true, true, true, true, true, true, true, true, true, false, false, false] rfl rfl (any_of HT_.out (by kernel_rfl)) (fun _ _ _ h => h) (Or.inl ⟨by rfl, ?_⟩) ?_ ?_
        rotate_left
        · intro w'
          go_simp
          with_reducible rfl
        rotate_left
        · simp only [Act.put, List.setIfInBounds_toArray, List.set_cons_zero, List.set_cons_succ, i64_w, i32_w]
          rfl
        refine last_ (i := 13) (N := none) #[true, true, true, true, true, true, true, true, true, true, true, true, true, true, false, false] rfl rfl (one_of HT_.out (by kernel_rfl)) (by decide) (fun K hK => ?_)
        have hs81 : w80.cell? ⟨gb112, 2, none⟩ = some (.int .i64 0) := (blk_cell BK112.out 2).trans rfl
        have hfs81 := blk_frozen BK112.out 2
        have hns81_0 := NB107_112.out
        have hms81_0 := NB112_107.out
        refine skip_ (w1 := ?_) (by rfl) rfl ?_ ?_
        rotate_left
        · go_simp
          rfl
        refine hK.out _ _ ?_
        clear hK K
        refine pure_ (i := 14) (N := some 24) (v := ?_) (a' := ?_) #[true, true, true, true, true, true, true, true, true, true, true, true, true, true, true, false] rfl rfl (any_of HT_.out (by kernel_rfl)) (fun _ _ _ h => h) (Or.inl ⟨by rfl, ?_⟩) ?_ ?_
        rotate_left
        · intro w'
          go_simp
          with_reducible rfl
        rotate_left
        · simp only [Act.put, List.setIfInBounds_toArray, List.set_cons_zero, List.set_cons_succ, i64_w, i32_w]
          rfl
        refine last_ (i := 15) (N := none) #[true, true, true, true, true, true, true, true, true, true, true, true, true, true, true, true] rfl rfl (one_of HT_.out (by kernel_rfl)) (by decide) (fun K hK => ?_)
        have hs82 : w80.cell? ⟨gb112, 3, none⟩ = some (.int .i64 0) := (blk_cell BK112.out 3).trans rfl
        have hfs82 := blk_frozen BK112.out 3
        have hns82_0 := NB107_112.out
        have hms82_0 := NB112_107.out
        refine skip_ (w1 := ?_) (by rfl) rfl ?_ ?_
        rotate_left
        · go_simp
          rfl
        refine hK.out _ _ ?_
        clear hK K
        refine done_ (done_of HT_.out (by kernel_rfl)) ?_
        try go_wp2_with (first | ((with_reducible refine gate_callee (f := 19) rfl ?_); refine goesL_ (some 26) rfl rfl Try.func19 (by kernel_rfl) rfl #[.pointer (some ⟨g, 0, none⟩), .int .i64 14] rfl q128_ ?_; (with_reducible refine (tilefarmgen_Tape_Next.calls g s0_0 t116 14 t117 t118 w0 _ ?side1 ?side2 A6.out).mono ?_); (case side1 => repeat (first | (with_reducible first | exact HI0.out | apply IsS46.alloc | apply IsS46.drewN | apply IsS46.drew | apply IsS46.set_1 | refine IsS46.far ?_ NB0_107.out _ | refine IsS46.far ?_ NB0_112.out _) | exact HI0.out)); (case side2 => repeat (first | (with_reducible first | exact HB.out | apply below_alloc | apply pw_below_drewN | apply below_drew1 | refine below_set ?_ (IsS46.ge HI0.out) | refine below_set ?_ GE107.out | refine below_set ?_ GE112.out) | exact HB.out)); rintro e w83 ⟨rfl, hi, hb, hk⟩; refine ⟨_, rfl, ?_⟩; have n0_ := Aside0.mk (KeepBut.blk hk (g' := gb107) (o := .cells #[.int .i64 0, .int .i64 0, .int .i64 0, .int .i64 0] 26 (0, 0)) q21_ NB107_0.out (by simp)); have n1_ := Aside0.mk (KeepBut.blk hk (g' := gb112) (o := .cells #[.int .i64 (wrap64 (t108 - 2)), .int .i64 (wrap64 (t110 - 2)), .int .i64 (wrap64 ((wrap64 ((wrap64 (t108 - 2)) + 1)) + t113)), .int .i64 (wrap64 ((wrap64 ((wrap64 (t110 - 2)) + 1)) + t115))] 26 (0, 0)) q19_ NB112_0.out (by simp)); have n2_ := Aside0.mk (KeepBut.trans q80_ hk (.inl rfl)); have n3_ := Aside0.mk (hb); have n4_ := Aside0.mk (hi); clear BK107; clear BK112; clear HK; clear HB; clear HI0; have BK107 := n0_; have BK112 := n1_; have HK := n2_; have HB := n3_; have HI0 := n4_; clear n0_ n1_ n2_ n3_ n4_; (try clear hb); (try clear hb2); (try clear hk); (try clear hi); have hcz84_0 : w83.cell? ⟨gb112, 0, none⟩ = some (.int .i64 (wrap64 (t108 - 2))) := (blk_cell BK112.out 0).trans rfl; have hcz84_1 : w83.cell? ⟨gb112, 1, none⟩ = some (.int .i64 (wrap64 (t110 - 2))) := (blk_cell BK112.out 1).trans rfl; have hcz84_2 : w83.cell? ⟨gb112, 2, none⟩ = some (.int .i64 (wrap64 ((wrap64 ((wrap64 (t108 - 2)) + 1)) + t113))) := (blk_cell BK112.out 2).trans rfl; have hcz84_3 : w83.cell? ⟨gb112, 3, none⟩ = some (.int .i64 (wrap64 ((wrap64 ((wrap64 (t110 - 2)) + 1)) + t115))) := (blk_cell BK112.out 3).trans rfl; have hfz84_0 := blk_frozen BK112.out 0; have hfz84_1 := blk_frozen BK112.out 1; have hfz84_2 := blk_frozen BK112.out 2; have hfz84_3 := blk_frozen BK112.out 3; have hnb85 := NB107_0.out; have hnc85 := NB0_107.out; have hcz86_0 : w83.cell? ⟨gb107, 0, none⟩ = some (.int .i64 0) := (blk_cell BK107.out 0).trans rfl; have hcz86_1 : w83.cell? ⟨gb107, 1, none⟩ = some (.int .i64 0) := (blk_cell BK107.out 1).trans rfl; have hcz86_2 : w83.cell? ⟨gb107, 2, none⟩ = some (.int .i64 0) := (blk_cell BK107.out 2).trans rfl; have hcz86_3 : w83.cell? ⟨gb107, 3, none⟩ = some (.int .i64 0) := (blk_cell BK107.out 3).trans rfl; have hfz86_0 := blk_frozen BK107.out 0; have hfz86_1 := blk_frozen BK107.out 1; have hfz86_2 := blk_frozen BK107.out 2; have hfz86_3 := blk_frozen BK107.out 3))
        refine bodyPost_ret (results_cell_row rfl _ _ gb107 26 #[.int .i64 (wrap64 (t108 - 2)), .int .i64 (wrap64 (t110 - 2)), .int .i64 (wrap64 ((wrap64 ((wrap64 (t108 - 2)) + 1)) + t113)), .int .i64 (wrap64 ((wrap64 ((wrap64 (t110 - 2)) + 1)) + t115))] (0, 0) _ rfl (by (with_reducible repeat (first | refine blk_drewN ?_ _ | refine blk_drew ?_ | refine blk_alloc ?_ _)); refine blk_put (cs := #[.int .i64 (wrap64 (t108 - 2)), .int .i64 (wrap64 (t110 - 2)), .int .i64 (wrap64 ((wrap64 ((wrap64 (t108 - 2)) + 1)) + t113)), .int .i64 0]) ?_ 3 _ rfl; (with_reducible repeat (first | refine blk_drewN ?_ _ | refine blk_drew ?_ | refine blk_alloc ?_ _)); refine blk_put (cs := #[.int .i64 (wrap64 (t108 - 2)), .int .i64 (wrap64 (t110 - 2)), .int .i64 0, .int .i64 0]) ?_ 2 _ rfl; (with_reducible repeat (first | refine blk_drewN ?_ _ | refine blk_drew ?_ | refine blk_alloc ?_ _)); refine blk_put (cs := #[.int .i64 (wrap64 (t108 - 2)), .int .i64 0, .int .i64 0, .int .i64 0]) ?_ 1 _ rfl; (with_reducible repeat (first | refine blk_drewN ?_ _ | refine blk_drew ?_ | refine blk_alloc ?_ _)); refine blk_put (cs := #[.int .i64 0, .int .i64 0, .int .i64 0, .int .i64 0]) ?_ 0 _ rfl; (with_reducible repeat (first | refine blk_drewN ?_ _ | refine blk_drew ?_ | refine blk_alloc ?_ _)); exact BK107.out) Try.underlying26 rfl (by kernel_rfl)) rfl ?_
        exact ⟨q177_, q79_, q64_, q80_⟩

end Go.Proofs.Ytdkmgcckcimhfaa.PRectComputes

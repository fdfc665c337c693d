-- Written by a program of the session (wip/tools/pack.py): the printed texts, pruned; checked by Lean.
import Derived.Test.YtepbjipmfchpnaaProg
import Derived.Test.YtepbjipmfchpnaaKFixedBoundsa
namespace Go.Proofs.Ytepbjipmfchpnaa.PFixedBounds
open Go.RowKit Go.Proofs.YtepbjipmfchpnaaW.PrintWords Go.Proofs.YtepbjipmfchpnaaW.PrintLast Go.Proofs.YtepbjipmfchpnaaW.PrintMore
attribute [local go_sem] max2_int min2_int max_two min_two max_three min_three max_four min_four   -- for this text's walks alone
set_option linter.unusedVariables false
set_option linter.unusedSimpArgs false
theorem am_ {P : Prop} (h : P) : Aside0 P := ⟨h⟩
theorem q0_ {P : Prop} (h : P := by repeat (first | (with_reducible first | exact HB.out | apply below_alloc | apply pw_below_drewN | apply below_drew1 | refine below_set ?_ (IsS41.ge HI140.out)) | exact HB.out)) : P := h
theorem q10_ {P : Prop} (h : P := by (try simp only [List.map_toArray, List.map_cons, List.map_nil]); first | done | rfl | (simp only [List.length_drop, List.length_take]; rfl)) : P := h
theorem q11_ {P : Prop} (h : P := by repeat (first | (with_reducible first | exact HB.out | apply below_alloc | apply pw_below_drewN | apply below_drew1) | exact HB.out)) : P := h
theorem q12_ {P : Prop} (h : P := by (with_reducible repeat (first | apply Kd.R_alloc | apply Kd.R_drewN | apply Kd.R_drew)); exact HO111.out) : P := h
theorem q13_ {P : Prop} (h : P := by (with_reducible repeat (first | apply Kd.R_alloc | apply Kd.R_drewN | apply Kd.R_drew)); exact HO145.out) : P := h
theorem q14_ {P : Prop} (h : P := by (with_reducible repeat (first | apply Kd.R_alloc | apply Kd.R_drewN | apply Kd.R_drew)); exact HO150.out) : P := h
theorem q15_ {P : Prop} (h : P := by (with_reducible repeat (first | apply Kd.R_alloc | apply Kd.R_drewN | apply Kd.R_drew)); exact HO158.out) : P := h
theorem q16_ {P : Prop} (h : P := by (with_reducible repeat (first | apply Kd.R_alloc | apply Kd.R_drewN | apply Kd.R_drew)); exact HO165.out) : P := h
theorem q17_ {P : Prop} (h : P := by (with_reducible repeat (first | apply Kd.R_alloc | apply Kd.R_drewN | apply Kd.R_drew)); exact HO_5.out) : P := h
theorem q18_ {P : Prop} (h : P := by first | rfl | (simp [errW_none, errW_some] <;> rfl) | (simp [*, errW_none, errW_some] <;> rfl)) : P := h
theorem q19_ {P : Prop} (h : P := by (try simp only [List.map_toArray, List.map_cons, List.map_nil]); first | done | rfl) : P := h
theorem q1_ {P : Prop} (h : P := by repeat (first | (with_reducible first | exact HB.out | apply below_alloc | apply pw_below_drewN | apply below_drew1 | refine below_set ?_ (IsS41.ge HI0.out)) | exact HB.out)) : P := h
theorem q20_ {P : Prop} (h : P := by repeat (first | exact Drawn0.refl _ | apply Drawn0.step)) : P := h
theorem q21_ {P : Prop} (h : P := by first | (with_reducible assumption) | assumption) : P := h
theorem q22_ {P : Prop} (h : P := by first | rfl | (simp; done) | (simp [*]; done)) : P := h
theorem q23_ {P : Prop} (h : P := by rw [hw]; exact below_set (HB.out) GB19.out) : P := h
theorem q2_ {P : Prop} (h : P := by repeat (first | (with_reducible first | exact HB.out | apply below_alloc | apply pw_below_drewN | apply below_drew1 | refine below_set ?_ (IsS43.ge HI0.out)) | exact HB.out)) : P := h
theorem q3_ {P : Prop} (h : P := by repeat (first | (with_reducible first | exact HI0.out | apply IsS43.alloc | apply IsS43.drewN | apply IsS43.drew | apply IsS43.set_0 | apply IsS43.set_1) | exact HI0.out)) : P := h
theorem q4_ {P : Prop} (h : P := by (with_reducible repeat (first | apply Kd.R_alloc | apply Kd.R_drewN | apply Kd.R_drew)); exact Kd.R_mono HO145.out (fun _ hk => ⟨⟨hk.1.2, hk.2⟩, hk.1.1.2⟩)) : P := h
theorem q5_ {P : Prop} (h : P := by (with_reducible repeat (first | apply Kd.R_alloc | apply Kd.R_drewN | apply Kd.R_drew)); exact Kd.R_mono HO158.out (fun _ hk => ⟨⟨hk.1.1.2, hk.2⟩, hk.1.2⟩)) : P := h
theorem q6_ {P : Prop} (h : P := by (with_reducible repeat (first | apply Kd.R_alloc | apply Kd.R_drewN | apply Kd.R_drew)); exact Kd.R_mono HO165.out (fun _ hk => ⟨⟨hk.1.1.2, hk.2⟩, hk.1.2⟩)) : P := h
theorem q7_ {P : Prop} (h : P := by repeat (first | (with_reducible first | exact HI140.out | apply IsS41.alloc | apply IsS41.drewN | apply IsS41.drew | apply IsS41.set_1) | exact HI140.out)) : P := h
theorem q8_ {P : Prop} (h : P := by repeat (first | (with_reducible first | exact HI0.out | apply IsS41.alloc | apply IsS41.drewN | apply IsS41.drew | apply IsS41.set_1) | exact HI0.out)) : P := h
theorem q9_ {P : Prop} (h : P := by repeat (first | (with_reducible first | exact HK.out | apply KeepBut.set_ | apply keep_drewN | apply keep_drew | apply keep_alloc) | exact HK.out)) : P := h
def errW : Option Int → Value
  | none => .nilIface
  | some c => .iface 0 (.int .i64 c)
theorem errW_none : errW none = .nilIface := rfl
theorem errW_some (c : Int) : errW (some c) = .iface 0 (.int .i64 c) := rfl

theorem info3 : (Try.prog.info? 3).map (fun i => (i.zero, i.size, i.bytes)) = some (some (.int .i64 0), 1, 8) := by kernel_rfl

end Go.Proofs.Ytepbjipmfchpnaa.PFixedBounds

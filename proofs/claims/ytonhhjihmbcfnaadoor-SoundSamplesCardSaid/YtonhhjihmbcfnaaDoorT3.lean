import Derived.Test.YtonhhjihmbcfnaaDoorT1
namespace Go.Proofs.YtonhhjihmbcfnaaDoor
open Go.RowKit
set_option linter.unusedSimpArgs false
set_option linter.unusedVariables false

set_option maxHeartbeats 400000 in
theorem tone_quarter (b : Nat) (t : Tone) (wf : t.WF)  (w : World) (h : At w b t.enc 83) :
    Calls Tryd.prog 57 #[.pointer (some ⟨b, 0, none⟩)] w (Turns b (t.quarter).enc 83 (.tuple #[]) w) := by
  have hf : ∀ i, w.frozen? ⟨b, i, none⟩ = false := h.frozen
  have c0 : _ = some (Value.int .u8 t.kind) := h.cell 0
  have c1 : _ = some (Value.bool t.on) := h.cell 1
  have c2 : _ = some (Value.int .u8 t.r0) := h.cell 2
  have c3 : _ = some (Value.int .u8 t.r1) := h.cell 3
  have c4 : _ = some (Value.int .u8 t.r2) := h.cell 4
  have c5 : _ = some (Value.int .u8 t.r3) := h.cell 5
  have c6 : _ = some (Value.int .u8 t.length) := h.cell 6
  have c7 : _ = some (Value.int .u16 t.period) := h.cell 7
  have c8 : _ = some (Value.int .u16 t.timer) := h.cell 8
  have c9 : _ = some (Value.int .u8 t.step) := h.cell 9
  have c10 : _ = some (Value.bool t.begins) := h.cell 10
  have c11 : _ = some (Value.int .u8 t.level) := h.cell 11
  have c12 : _ = some (Value.int .u8 t.count) := h.cell 12
  have c13 : _ = some (Value.int .u8 t.sweep) := h.cell 13
  have c14 : _ = some (Value.bool t.swept) := h.cell 14
  have c15 : _ = some (Value.int .u8 t.line) := h.cell 15
  have c16 : _ = some (Value.int .u16 t.row) := h.cell 16
  have wkind := wf.kind
  have wr0 := wf.r0
  have wr1 := wf.r1
  have wr2 := wf.r2
  have wr3 := wf.r3
  have wlength := wf.length
  have wperiod := wf.period
  have wtimer := wf.timer
  have wstep := wf.step
  have wsmall := wf.small
  have wlevel := wf.level
  have wcount := wf.count
  have wsweep := wf.sweep
  have wline := wf.line
  have wrow := wf.row
  have er0_15 := and15 t.r0 wr0.1 wr0.2
  have er0_32 := and32 t.r0 wr0.1 wr0.2
  have er0_128 := and128 t.r0 wr0.1 wr0.2
  have er0_n := andNot128 t.r0 wr0.1 wr0.2
  have hk : (t.r0 / 128 * 128 != 0) = decide (128 ≤ t.r0) := by rw [Bool.eq_iff_iff]; simp; omega
  cases hbe : t.begins
  all_goals go_enter Tryd.func57, Tryd.ntmps57
  all_goals go_wp2
  all_goals first | go_end0 | refine bodyPost_ret (results_none rfl _ _ _) rfl ?_
  all_goals refine ⟨rfl, At.eq (by (repeat (first | with_reducible apply At.setCell | with_reducible apply At.drew | with_reducible apply At.drewN)); exact h) ?_, (by repeat (first | with_reducible exact Upd.refl _ _ | with_reducible refine Upd.drew ?_ | with_reducible refine Upd.drewN ?_ _ | (with_reducible refine Upd.setCell ?_ (by simp) _)))⟩
  all_goals clear hf
  all_goals unfold Tone.quarter
  all_goals (try dsimp only)
  all_goals (try simp only [bne_iff_ne, ne_eq, bne_eq_false_iff_eq, beq_iff_eq, beq_eq_false_iff_ne, decide_eq_true_eq, decide_eq_false_iff_not, Bool.and_eq_true, Bool.or_eq_true, Bool.and_eq_false_iff, Bool.or_eq_false_iff, Bool.not_eq_true', Bool.not_eq_false', Bool.not_eq_true, Bool.not_eq_false] at *)
  all_goals (repeat' split) <;> first | (exfalso; omega) | (exfalso; simp_all; done) | (simp only [Tone.enc, List.set_cons_zero, List.set_cons_succ, hbe, Bool.false_and, Bool.true_and]; done) | skip
end Go.Proofs.YtonhhjihmbcfnaaDoor

import Derived.Test.YtonhhjihmbcfnaaDoorS1
namespace Go.Proofs.YtonhhjihmbcfnaaDoor
open Go.RowKit
set_option linter.unusedSimpArgs false
set_option linter.unusedVariables false

theorem smp_asks (b p0 p1 p2 p3 : Nat) (s : Sound) (wf : s.m.WF) (w : World) (h : At w b (s.enc p0 p1 p2 p3) 66) :
    Calls Tryd.prog 52 #[.pointer (some ⟨b, 4, none⟩)] w (Tells (.bool s.m.asks) w) := by
  have c10 : _ = some (Value.bool s.m.waits) := h.cell 10
  have c16 : _ = some (Value.int .i64 s.m.left) := h.cell 16
  cases hw : s.m.waits
  all_goals go_enter Tryd.func52, Tryd.ntmps52
  all_goals go_wp2
  all_goals go_ret
  all_goals refine ⟨?_, (by repeat (first | with_reducible exact Same.refl _ | with_reducible apply Same.drewN | with_reducible apply Same.drew))⟩
  all_goals refine ret_bool ?_
  all_goals simp [Smp.asks, hw]

set_option maxHeartbeats 1000000 in
theorem smp_enable (b p0 p1 p2 p3 : Nat) (s : Sound) (wf : s.m.WF) (on : Bool) (w : World) (h : At w b (s.enc p0 p1 p2 p3) 66) :
    Calls Tryd.prog 32 #[.pointer (some ⟨b, 4, none⟩), .bool on] w (Turns b (Sound.enc { s with m := s.m.enable on } p0 p1 p2 p3) 66 (.tuple #[]) w) := by
  have hf : ∀ i, w.frozen? ⟨b, i, none⟩ = false := h.frozen
  have c16 : _ = some (Value.int .i64 s.m.left) := h.cell 16
  have c17 : _ = some (Value.bool s.m.irq) := h.cell 17
  have wleft := wf.left
  cases on
  · go_enter Tryd.func32, Tryd.ntmps32
    go_wp2
    all_goals first | go_end0 | refine bodyPost_ret (results_none rfl _ _ _) rfl ?_
    all_goals refine ⟨rfl, At.eq (by (repeat (first | with_reducible apply At.setCell | with_reducible apply At.drew | with_reducible apply At.drewN)); exact h) ?_, (by repeat (first | with_reducible exact Upd.refl _ _ | with_reducible refine Upd.drew ?_ | with_reducible refine Upd.drewN ?_ _ | (with_reducible refine Upd.setCell ?_ (by simp) _)))⟩
    all_goals clear hf
    all_goals unfold Smp.enable
    all_goals (try dsimp only)
    all_goals (repeat' split) <;> first | (exfalso; omega) | (exfalso; simp_all; done) | (simp only [Sound.enc, List.set_cons_zero, List.set_cons_succ]; done) | (simp only [Sound.enc, List.set_cons_zero, List.set_cons_succ]; congr; omega) | skip
  · by_cases hl : s.m.left = 0
    · go_enter Tryd.func32, Tryd.ntmps32
      go_wp2_with fail
      refine (smp_begin b p0 p1 p2 p3 { s with m := { s.m with irq := false } } ⟨wf.q0, wf.q1, wf.q2, wf.q3, wf.level, wf.next, wf.row, wf.bits, wf.timer, wf.at_, wf.left⟩ _ (At.eq (by (repeat (first | with_reducible apply At.setCell | with_reducible apply At.drew | with_reducible apply At.drewN)); exact h) ?_)).mono ?_
      · simp only [Sound.enc, List.set_cons_zero, List.set_cons_succ]
      rintro e w1 ⟨rfl, hA, hU⟩
      go_wp2
      go_end0
      refine ⟨rfl, At.eq hA ?_, ((Upd.refl _ _).setCell (by simp) _).trans hU⟩
      simp only [Smp.enable, Smp.begin, hl, if_true, reduceCtorEq, if_false, Sound.enc]
    · go_enter Tryd.func32, Tryd.ntmps32
      go_wp2
      all_goals first | go_end0 | refine bodyPost_ret (results_none rfl _ _ _) rfl ?_
      all_goals refine ⟨rfl, At.eq (by (repeat (first | with_reducible apply At.setCell | with_reducible apply At.drew | with_reducible apply At.drewN)); exact h) ?_, (by repeat (first | with_reducible exact Upd.refl _ _ | with_reducible refine Upd.drew ?_ | with_reducible refine Upd.drewN ?_ _ | (with_reducible refine Upd.setCell ?_ (by simp) _)))⟩
      all_goals clear hf
      all_goals unfold Smp.enable
      all_goals (try dsimp only)
      all_goals (repeat' split) <;> first | (exfalso; omega) | (exfalso; simp_all; done) | (simp only [Sound.enc, List.set_cons_zero, List.set_cons_succ]; done) | (simp only [Sound.enc, List.set_cons_zero, List.set_cons_succ]; congr; omega) | skip


set_option maxHeartbeats 1000000 in
theorem smp_bit (b p0 p1 p2 p3 : Nat) (s : Sound) (wf : s.m.WF)  (w : World) (h : At w b (s.enc p0 p1 p2 p3) 66) :
    Calls Tryd.prog 59 #[.pointer (some ⟨b, 4, none⟩)] w (Turns b (Sound.enc { s with m := s.m.bit } p0 p1 p2 p3) 66 (.tuple #[]) w) := by
  have hf : ∀ i, w.frozen? ⟨b, i, none⟩ = false := h.frozen
  have c4 : _ = some (Value.int .u8 s.m.q0) := h.cell 4
  have c5 : _ = some (Value.int .u8 s.m.q1) := h.cell 5
  have c6 : _ = some (Value.int .u8 s.m.q2) := h.cell 6
  have c7 : _ = some (Value.int .u8 s.m.q3) := h.cell 7
  have c8 : _ = some (Value.int .u8 s.m.level) := h.cell 8
  have c9 : _ = some (Value.int .u8 s.m.next) := h.cell 9
  have c10 : _ = some (Value.bool s.m.waits) := h.cell 10
  have c11 : _ = some (Value.int .u8 s.m.row) := h.cell 11
  have c12 : _ = some (Value.int .u8 s.m.bits) := h.cell 12
  have c13 : _ = some (Value.bool s.m.speaks) := h.cell 13
  have c14 : _ = some (Value.int .u16 s.m.timer) := h.cell 14
  have c15 : _ = some (Value.int .u16 s.m.at_) := h.cell 15
  have c16 : _ = some (Value.int .i64 s.m.left) := h.cell 16
  have c17 : _ = some (Value.bool s.m.irq) := h.cell 17
  have wq0 := wf.q0
  have wq1 := wf.q1
  have wq2 := wf.q2
  have wq3 := wf.q3
  have wlevel := wf.level
  have wnext := wf.next
  have wrow := wf.row
  have wbits := wf.bits
  have wtimer := wf.timer
  have wat_ := wf.at_
  have wleft := wf.left
  have e1 := and1 s.m.row wrow.1 wrow.2
  cases hsp : s.m.speaks
  all_goals go_enter Tryd.func59, Tryd.ntmps59
  all_goals go_wp2
  all_goals first | go_end0 | refine bodyPost_ret (results_none rfl _ _ _) rfl ?_
  all_goals refine ⟨rfl, At.eq (by (repeat (first | with_reducible apply At.setCell | with_reducible apply At.drew | with_reducible apply At.drewN)); exact h) ?_, (by repeat (first | with_reducible exact Upd.refl _ _ | with_reducible refine Upd.drew ?_ | with_reducible refine Upd.drewN ?_ _ | (with_reducible refine Upd.setCell ?_ (by simp) _)))⟩
  all_goals clear hf
  all_goals unfold Smp.bit
  all_goals (try dsimp only)
  all_goals (try simp only [bne_iff_ne, ne_eq, bne_eq_false_iff_eq, beq_iff_eq, beq_eq_false_iff_ne, decide_eq_true_eq, decide_eq_false_iff_not, Bool.and_eq_true, Bool.or_eq_true, Bool.and_eq_false_iff, Bool.or_eq_false_iff, Bool.not_eq_true', Bool.not_eq_false', Bool.not_eq_true, Bool.not_eq_false] at *)
  all_goals (repeat' split) <;> first | (exfalso; omega) | (exfalso; simp_all; done) | (simp only [Sound.enc, List.set_cons_zero, List.set_cons_succ]; done) | (simp only [Sound.enc, List.set_cons_zero, List.set_cons_succ]; congr; omega) | skip
end Go.Proofs.YtonhhjihmbcfnaaDoor

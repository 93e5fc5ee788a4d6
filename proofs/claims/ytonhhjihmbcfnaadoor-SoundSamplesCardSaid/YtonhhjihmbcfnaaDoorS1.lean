import Derived.Test.YtonhhjihmbcfnaaDoorSBase
namespace Go.Proofs.YtonhhjihmbcfnaaDoor
open Go.RowKit
set_option linter.unusedSimpArgs false
set_option linter.unusedVariables false

set_option maxHeartbeats 1000000 in
theorem smp_begin (b p0 p1 p2 p3 : Nat) (s : Sound) (wf : s.m.WF)  (w : World) (h : At w b (s.enc p0 p1 p2 p3) 66) :
    Calls Tryd.prog 55 #[.pointer (some ⟨b, 4, none⟩)] w (Turns b (Sound.enc { s with m := s.m.begin } p0 p1 p2 p3) 66 (.tuple #[]) w) := by
  have hf : ∀ i, w.frozen? ⟨b, i, none⟩ = false := h.frozen
  have c4 : _ = some (Value.int .u8 s.m.q0) := h.cell 4
  have c5 : _ = some (Value.int .u8 s.m.q1) := h.cell 5
  have c6 : _ = some (Value.int .u8 s.m.q2) := h.cell 6
  have c7 : _ = some (Value.int .u8 s.m.q3) := h.cell 7
  have c8 : _ = some (Value.int .u8 s.m.level) := h.cell 8
  have c9 : _ = some (Value.int .u8 s.m.next) := h.cell 9
  have c10 : _ = some (Value.bool s.m.waits) := h.cell 10
  have c11 : _ = some (Value.int .u8 s.m.row) := h.cell 11
  have c12 : _ = some (Value.int .u8 s.m.bits) := h.cell 12
  have c13 : _ = some (Value.bool s.m.speaks) := h.cell 13
  have c14 : _ = some (Value.int .u16 s.m.timer) := h.cell 14
  have c15 : _ = some (Value.int .u16 s.m.at_) := h.cell 15
  have c16 : _ = some (Value.int .i64 s.m.left) := h.cell 16
  have c17 : _ = some (Value.bool s.m.irq) := h.cell 17
  have wq0 := wf.q0
  have wq1 := wf.q1
  have wq2 := wf.q2
  have wq3 := wf.q3
  have wlevel := wf.level
  have wnext := wf.next
  have wrow := wf.row
  have wbits := wf.bits
  have wtimer := wf.timer
  have wat_ := wf.at_
  have wleft := wf.left
  go_enter Tryd.func55, Tryd.ntmps55
  go_wp2
  all_goals first | go_end0 | refine bodyPost_ret (results_none rfl _ _ _) rfl ?_
  all_goals refine ⟨rfl, At.eq (by (repeat (first | with_reducible apply At.setCell | with_reducible apply At.drew | with_reducible apply At.drewN)); exact h) ?_, (by repeat (first | with_reducible exact Upd.refl _ _ | with_reducible refine Upd.drew ?_ | with_reducible refine Upd.drewN ?_ _ | (with_reducible refine Upd.setCell ?_ (by simp) _)))⟩
  all_goals clear hf
  all_goals unfold Smp.begin
  all_goals (try dsimp only)
  all_goals (try simp only [bne_iff_ne, ne_eq, bne_eq_false_iff_eq, beq_iff_eq, beq_eq_false_iff_ne, decide_eq_true_eq, decide_eq_false_iff_not, Bool.and_eq_true, Bool.or_eq_true, Bool.and_eq_false_iff, Bool.or_eq_false_iff, Bool.not_eq_true', Bool.not_eq_false', Bool.not_eq_true, Bool.not_eq_false] at *)
  all_goals (repeat' split) <;> first | (exfalso; omega) | (exfalso; simp_all; done) | (simp only [Sound.enc, List.set_cons_zero, List.set_cons_succ]; done) | (simp only [Sound.enc, List.set_cons_zero, List.set_cons_succ]; congr; omega) | skip

set_option maxHeartbeats 1000000 in
theorem smp_put0 (b p0 p1 p2 p3 : Nat) (s : Sound) (wf : s.m.WF) (r : Int) (wr : 0 ≤ r ∧ r ≤ 255) (w : World) (h : At w b (s.enc p0 p1 p2 p3) 66) :
    Calls Tryd.prog 30 #[.pointer (some ⟨b, 4, none⟩), .int .u8 0, .int .u8 r] w (Turns b (Sound.enc { s with m := s.m.put 0 r } p0 p1 p2 p3) 66 (.tuple #[]) w) := by
  have hf : ∀ i, w.frozen? ⟨b, i, none⟩ = false := h.frozen
  have c4 : _ = some (Value.int .u8 s.m.q0) := h.cell 4
  have c5 : _ = some (Value.int .u8 s.m.q1) := h.cell 5
  have c6 : _ = some (Value.int .u8 s.m.q2) := h.cell 6
  have c7 : _ = some (Value.int .u8 s.m.q3) := h.cell 7
  have c8 : _ = some (Value.int .u8 s.m.level) := h.cell 8
  have c9 : _ = some (Value.int .u8 s.m.next) := h.cell 9
  have c10 : _ = some (Value.bool s.m.waits) := h.cell 10
  have c11 : _ = some (Value.int .u8 s.m.row) := h.cell 11
  have c12 : _ = some (Value.int .u8 s.m.bits) := h.cell 12
  have c13 : _ = some (Value.bool s.m.speaks) := h.cell 13
  have c14 : _ = some (Value.int .u16 s.m.timer) := h.cell 14
  have c15 : _ = some (Value.int .u16 s.m.at_) := h.cell 15
  have c16 : _ = some (Value.int .i64 s.m.left) := h.cell 16
  have c17 : _ = some (Value.bool s.m.irq) := h.cell 17
  have wq0 := wf.q0
  have wq1 := wf.q1
  have wq2 := wf.q2
  have wq3 := wf.q3
  have wlevel := wf.level
  have wnext := wf.next
  have wrow := wf.row
  have wbits := wf.bits
  have wtimer := wf.timer
  have wat_ := wf.at_
  have wleft := wf.left
  have eb := and128 r wr.1 wr.2
  have hk : (r / 128 * 128 != 0) = decide (128 ≤ r) := by rw [Bool.eq_iff_iff]; simp; omega
  cases hi : s.m.irq
  all_goals go_enter Tryd.func30, Tryd.ntmps30
  all_goals go_wp2
  all_goals first | go_end0 | refine bodyPost_ret (results_none rfl _ _ _) rfl ?_
  all_goals refine ⟨rfl, At.eq (by (repeat (first | with_reducible apply At.setCell | with_reducible apply At.drew | with_reducible apply At.drewN)); exact h) ?_, (by repeat (first | with_reducible exact Upd.refl _ _ | with_reducible refine Upd.drew ?_ | with_reducible refine Upd.drewN ?_ _ | (with_reducible refine Upd.setCell ?_ (by simp) _)))⟩
  all_goals clear hf
  all_goals unfold Smp.put
  all_goals (try dsimp only)
  all_goals (try simp only [bne_iff_ne, ne_eq, bne_eq_false_iff_eq, beq_iff_eq, beq_eq_false_iff_ne, decide_eq_true_eq, decide_eq_false_iff_not, Bool.and_eq_true, Bool.or_eq_true, Bool.and_eq_false_iff, Bool.or_eq_false_iff, Bool.not_eq_true', Bool.not_eq_false', Bool.not_eq_true, Bool.not_eq_false] at *)
  all_goals simp only [Int.reduceEq, ↓reduceIte]
  all_goals (repeat' split) <;> first | (exfalso; omega) | (exfalso; simp_all; done) | (simp only [Sound.enc, List.set_cons_zero, List.set_cons_succ, hi, Bool.false_and, Bool.true_and]; done) | (simp only [Sound.enc, List.set_cons_zero, List.set_cons_succ, hi, Bool.false_and, Bool.true_and]; congr; omega) | skip

set_option maxHeartbeats 1000000 in
theorem smp_put1 (b p0 p1 p2 p3 : Nat) (s : Sound) (wf : s.m.WF) (r : Int) (wr : 0 ≤ r ∧ r ≤ 255) (w : World) (h : At w b (s.enc p0 p1 p2 p3) 66) :
    Calls Tryd.prog 30 #[.pointer (some ⟨b, 4, none⟩), .int .u8 1, .int .u8 r] w (Turns b (Sound.enc { s with m := s.m.put 1 r } p0 p1 p2 p3) 66 (.tuple #[]) w) := by
  have hf : ∀ i, w.frozen? ⟨b, i, none⟩ = false := h.frozen
  have c4 : _ = some (Value.int .u8 s.m.q0) := h.cell 4
  have c5 : _ = some (Value.int .u8 s.m.q1) := h.cell 5
  have c6 : _ = some (Value.int .u8 s.m.q2) := h.cell 6
  have c7 : _ = some (Value.int .u8 s.m.q3) := h.cell 7
  have c8 : _ = some (Value.int .u8 s.m.level) := h.cell 8
  have c9 : _ = some (Value.int .u8 s.m.next) := h.cell 9
  have c10 : _ = some (Value.bool s.m.waits) := h.cell 10
  have c11 : _ = some (Value.int .u8 s.m.row) := h.cell 11
  have c12 : _ = some (Value.int .u8 s.m.bits) := h.cell 12
  have c13 : _ = some (Value.bool s.m.speaks) := h.cell 13
  have c14 : _ = some (Value.int .u16 s.m.timer) := h.cell 14
  have c15 : _ = some (Value.int .u16 s.m.at_) := h.cell 15
  have c16 : _ = some (Value.int .i64 s.m.left) := h.cell 16
  have c17 : _ = some (Value.bool s.m.irq) := h.cell 17
  have wq0 := wf.q0
  have wq1 := wf.q1
  have wq2 := wf.q2
  have wq3 := wf.q3
  have wlevel := wf.level
  have wnext := wf.next
  have wrow := wf.row
  have wbits := wf.bits
  have wtimer := wf.timer
  have wat_ := wf.at_
  have wleft := wf.left
  have eb := and127 r wr.1 wr.2
  go_enter Tryd.func30, Tryd.ntmps30
  all_goals go_wp2
  all_goals first | go_end0 | refine bodyPost_ret (results_none rfl _ _ _) rfl ?_
  all_goals refine ⟨rfl, At.eq (by (repeat (first | with_reducible apply At.setCell | with_reducible apply At.drew | with_reducible apply At.drewN)); exact h) ?_, (by repeat (first | with_reducible exact Upd.refl _ _ | with_reducible refine Upd.drew ?_ | with_reducible refine Upd.drewN ?_ _ | (with_reducible refine Upd.setCell ?_ (by simp) _)))⟩
  all_goals clear hf
  all_goals unfold Smp.put
  all_goals (try dsimp only)
  all_goals (try simp only [bne_iff_ne, ne_eq, bne_eq_false_iff_eq, beq_iff_eq, beq_eq_false_iff_ne, decide_eq_true_eq, decide_eq_false_iff_not, Bool.and_eq_true, Bool.or_eq_true, Bool.and_eq_false_iff, Bool.or_eq_false_iff, Bool.not_eq_true', Bool.not_eq_false', Bool.not_eq_true, Bool.not_eq_false] at *)
  all_goals simp only [Int.reduceEq, ↓reduceIte]
  all_goals (repeat' split) <;> first | (exfalso; omega) | (exfalso; simp_all; done) | (simp only [Sound.enc, List.set_cons_zero, List.set_cons_succ]; done) | (simp only [Sound.enc, List.set_cons_zero, List.set_cons_succ]; congr; omega) | skip

set_option maxHeartbeats 1000000 in
theorem smp_put2 (b p0 p1 p2 p3 : Nat) (s : Sound) (wf : s.m.WF) (r : Int) (wr : 0 ≤ r ∧ r ≤ 255) (w : World) (h : At w b (s.enc p0 p1 p2 p3) 66) :
    Calls Tryd.prog 30 #[.pointer (some ⟨b, 4, none⟩), .int .u8 2, .int .u8 r] w (Turns b (Sound.enc { s with m := s.m.put 2 r } p0 p1 p2 p3) 66 (.tuple #[]) w) := by
  have hf : ∀ i, w.frozen? ⟨b, i, none⟩ = false := h.frozen
  have c4 : _ = some (Value.int .u8 s.m.q0) := h.cell 4
  have c5 : _ = some (Value.int .u8 s.m.q1) := h.cell 5
  have c6 : _ = some (Value.int .u8 s.m.q2) := h.cell 6
  have c7 : _ = some (Value.int .u8 s.m.q3) := h.cell 7
  have c8 : _ = some (Value.int .u8 s.m.level) := h.cell 8
  have c9 : _ = some (Value.int .u8 s.m.next) := h.cell 9
  have c10 : _ = some (Value.bool s.m.waits) := h.cell 10
  have c11 : _ = some (Value.int .u8 s.m.row) := h.cell 11
  have c12 : _ = some (Value.int .u8 s.m.bits) := h.cell 12
  have c13 : _ = some (Value.bool s.m.speaks) := h.cell 13
  have c14 : _ = some (Value.int .u16 s.m.timer) := h.cell 14
  have c15 : _ = some (Value.int .u16 s.m.at_) := h.cell 15
  have c16 : _ = some (Value.int .i64 s.m.left) := h.cell 16
  have c17 : _ = some (Value.bool s.m.irq) := h.cell 17
  have wq0 := wf.q0
  have wq1 := wf.q1
  have wq2 := wf.q2
  have wq3 := wf.q3
  have wlevel := wf.level
  have wnext := wf.next
  have wrow := wf.row
  have wbits := wf.bits
  have wtimer := wf.timer
  have wat_ := wf.at_
  have wleft := wf.left
  go_enter Tryd.func30, Tryd.ntmps30
  all_goals go_wp2
  all_goals first | go_end0 | refine bodyPost_ret (results_none rfl _ _ _) rfl ?_
  all_goals refine ⟨rfl, At.eq (by (repeat (first | with_reducible apply At.setCell | with_reducible apply At.drew | with_reducible apply At.drewN)); exact h) ?_, (by repeat (first | with_reducible exact Upd.refl _ _ | with_reducible refine Upd.drew ?_ | with_reducible refine Upd.drewN ?_ _ | (with_reducible refine Upd.setCell ?_ (by simp) _)))⟩
  all_goals clear hf
  all_goals unfold Smp.put
  all_goals (try dsimp only)
  all_goals (try simp only [bne_iff_ne, ne_eq, bne_eq_false_iff_eq, beq_iff_eq, beq_eq_false_iff_ne, decide_eq_true_eq, decide_eq_false_iff_not, Bool.and_eq_true, Bool.or_eq_true, Bool.and_eq_false_iff, Bool.or_eq_false_iff, Bool.not_eq_true', Bool.not_eq_false', Bool.not_eq_true, Bool.not_eq_false] at *)
  all_goals simp only [Int.reduceEq, ↓reduceIte]
  all_goals (repeat' split) <;> first | (exfalso; omega) | (exfalso; simp_all; done) | (simp only [Sound.enc, List.set_cons_zero, List.set_cons_succ]; done) | (simp only [Sound.enc, List.set_cons_zero, List.set_cons_succ]; congr; omega) | skip

set_option maxHeartbeats 1000000 in
theorem smp_put3 (b p0 p1 p2 p3 : Nat) (s : Sound) (wf : s.m.WF) (r : Int) (wr : 0 ≤ r ∧ r ≤ 255) (w : World) (h : At w b (s.enc p0 p1 p2 p3) 66) :
    Calls Tryd.prog 30 #[.pointer (some ⟨b, 4, none⟩), .int .u8 3, .int .u8 r] w (Turns b (Sound.enc { s with m := s.m.put 3 r } p0 p1 p2 p3) 66 (.tuple #[]) w) := by
  have hf : ∀ i, w.frozen? ⟨b, i, none⟩ = false := h.frozen
  have c4 : _ = some (Value.int .u8 s.m.q0) := h.cell 4
  have c5 : _ = some (Value.int .u8 s.m.q1) := h.cell 5
  have c6 : _ = some (Value.int .u8 s.m.q2) := h.cell 6
  have c7 : _ = some (Value.int .u8 s.m.q3) := h.cell 7
  have c8 : _ = some (Value.int .u8 s.m.level) := h.cell 8
  have c9 : _ = some (Value.int .u8 s.m.next) := h.cell 9
  have c10 : _ = some (Value.bool s.m.waits) := h.cell 10
  have c11 : _ = some (Value.int .u8 s.m.row) := h.cell 11
  have c12 : _ = some (Value.int .u8 s.m.bits) := h.cell 12
  have c13 : _ = some (Value.bool s.m.speaks) := h.cell 13
  have c14 : _ = some (Value.int .u16 s.m.timer) := h.cell 14
  have c15 : _ = some (Value.int .u16 s.m.at_) := h.cell 15
  have c16 : _ = some (Value.int .i64 s.m.left) := h.cell 16
  have c17 : _ = some (Value.bool s.m.irq) := h.cell 17
  have wq0 := wf.q0
  have wq1 := wf.q1
  have wq2 := wf.q2
  have wq3 := wf.q3
  have wlevel := wf.level
  have wnext := wf.next
  have wrow := wf.row
  have wbits := wf.bits
  have wtimer := wf.timer
  have wat_ := wf.at_
  have wleft := wf.left
  go_enter Tryd.func30, Tryd.ntmps30
  all_goals go_wp2
  all_goals first | go_end0 | refine bodyPost_ret (results_none rfl _ _ _) rfl ?_
  all_goals refine ⟨rfl, At.eq (by (repeat (first | with_reducible apply At.setCell | with_reducible apply At.drew | with_reducible apply At.drewN)); exact h) ?_, (by repeat (first | with_reducible exact Upd.refl _ _ | with_reducible refine Upd.drew ?_ | with_reducible refine Upd.drewN ?_ _ | (with_reducible refine Upd.setCell ?_ (by simp) _)))⟩
  all_goals clear hf
  all_goals unfold Smp.put
  all_goals (try dsimp only)
  all_goals (try simp only [bne_iff_ne, ne_eq, bne_eq_false_iff_eq, beq_iff_eq, beq_eq_false_iff_ne, decide_eq_true_eq, decide_eq_false_iff_not, Bool.and_eq_true, Bool.or_eq_true, Bool.and_eq_false_iff, Bool.or_eq_false_iff, Bool.not_eq_true', Bool.not_eq_false', Bool.not_eq_true, Bool.not_eq_false] at *)
  all_goals simp only [Int.reduceEq, ↓reduceIte]
  all_goals (repeat' split) <;> first | (exfalso; omega) | (exfalso; simp_all; done) | (simp only [Sound.enc, List.set_cons_zero, List.set_cons_succ]; done) | (simp only [Sound.enc, List.set_cons_zero, List.set_cons_succ]; congr; omega) | skip
end Go.Proofs.YtonhhjihmbcfnaaDoor

import Derived.Lib.Hide
import Derived.Test.YtonhhjihmbcfnaaDoorS2
namespace Go.Proofs.YtonhhjihmbcfnaaDoor
open Go.RowKit
set_option linter.unusedSimpArgs false
set_option linter.unusedVariables false

set_option maxHeartbeats 1000000 in
theorem give_no (b p0 p1 p2 p3 : Nat) (s : Sound) (wf : s.m.WF) (r : Int) (wr : 0 ≤ r ∧ r ≤ 255) (w : World) (h : At w b (s.enc p0 p1 p2 p3) 66) (ha : s.m.asks = false) :
    Calls Tryd.prog 38 #[.pointer (some ⟨b, 4, none⟩), .int .u8 r] w (Turns b (Sound.enc (s.give r) p0 p1 p2 p3) 66 (.tuple #[]) w) := by
  have hf : ∀ i, w.frozen? ⟨b, i, none⟩ = false := h.frozen
  have c4 : _ = some (Value.int .u8 s.m.q0) := h.cell 4
  have c5 : _ = some (Value.int .u8 s.m.q1) := h.cell 5
  have c6 : _ = some (Value.int .u8 s.m.q2) := h.cell 6
  have c7 : _ = some (Value.int .u8 s.m.q3) := h.cell 7
  have c8 : _ = some (Value.int .u8 s.m.level) := h.cell 8
  have c9 : _ = some (Value.int .u8 s.m.next) := h.cell 9
  have c10 : _ = some (Value.bool s.m.waits) := h.cell 10
  have c11 : _ = some (Value.int .u8 s.m.row) := h.cell 11
  have c12 : _ = some (Value.int .u8 s.m.bits) := h.cell 12
  have c13 : _ = some (Value.bool s.m.speaks) := h.cell 13
  have c14 : _ = some (Value.int .u16 s.m.timer) := h.cell 14
  have c15 : _ = some (Value.int .u16 s.m.at_) := h.cell 15
  have c16 : _ = some (Value.int .i64 s.m.left) := h.cell 16
  have c17 : _ = some (Value.bool s.m.irq) := h.cell 17
  have wq0 := wf.q0
  have wq1 := wf.q1
  have wq2 := wf.q2
  have wq3 := wf.q3
  have wlevel := wf.level
  have wnext := wf.next
  have wrow := wf.row
  have wbits := wf.bits
  have wtimer := wf.timer
  have wat_ := wf.at_
  have wleft := wf.left
  have e1 : s.give r = s := by simp [Sound.give, Smp.give, ha]
  have HA := smp_asks b p0 p1 p2 p3 s wf w h
  rw [ha] at HA
  have HAs := Lib.hid HA
  clear HA ha
  go_enter Tryd.func38, Tryd.ntmps38
  go_wp2_with fail
  refine HAs.out.mono ?_
  rintro e w1 ⟨rfl, n1, rfl⟩
  go_wp2
  all_goals first | go_end0 | refine bodyPost_ret (results_none rfl _ _ _) rfl ?_
  all_goals refine ⟨rfl, At.eq (by (repeat (first | with_reducible apply At.setCell | with_reducible apply At.drew | with_reducible apply At.drewN)); exact h) ?_, (by repeat (first | with_reducible exact Upd.refl _ _ | with_reducible refine Upd.drew ?_ | with_reducible refine Upd.drewN ?_ _ | (with_reducible refine Upd.setCell ?_ (by simp) _)))⟩
  all_goals clear hf
  all_goals (try dsimp only)
  all_goals rw [e1]

set_option maxHeartbeats 1000000 in
theorem give_more1 (b p0 p1 p2 p3 : Nat) (s : Sound) (wf : s.m.WF) (r : Int) (wr : 0 ≤ r ∧ r ≤ 255) (w : World) (h : At w b (s.enc p0 p1 p2 p3) 66) (ha : s.m.asks = true) (hl : 1 < s.m.left) (hq : s.m.at_ = 65535) :
    Calls Tryd.prog 38 #[.pointer (some ⟨b, 4, none⟩), .int .u8 r] w (Turns b (Sound.enc (s.give r) p0 p1 p2 p3) 66 (.tuple #[]) w) := by
  have hf : ∀ i, w.frozen? ⟨b, i, none⟩ = false := h.frozen
  have c4 : _ = some (Value.int .u8 s.m.q0) := h.cell 4
  have c5 : _ = some (Value.int .u8 s.m.q1) := h.cell 5
  have c6 : _ = some (Value.int .u8 s.m.q2) := h.cell 6
  have c7 : _ = some (Value.int .u8 s.m.q3) := h.cell 7
  have c8 : _ = some (Value.int .u8 s.m.level) := h.cell 8
  have c9 : _ = some (Value.int .u8 s.m.next) := h.cell 9
  have c10 : _ = some (Value.bool s.m.waits) := h.cell 10
  have c11 : _ = some (Value.int .u8 s.m.row) := h.cell 11
  have c12 : _ = some (Value.int .u8 s.m.bits) := h.cell 12
  have c13 : _ = some (Value.bool s.m.speaks) := h.cell 13
  have c14 : _ = some (Value.int .u16 s.m.timer) := h.cell 14
  have c15 : _ = some (Value.int .u16 s.m.at_) := h.cell 15
  have c16 : _ = some (Value.int .i64 s.m.left) := h.cell 16
  have c17 : _ = some (Value.bool s.m.irq) := h.cell 17
  have wq0 := wf.q0
  have wq1 := wf.q1
  have wq2 := wf.q2
  have wq3 := wf.q3
  have wlevel := wf.level
  have wnext := wf.next
  have wrow := wf.row
  have wbits := wf.bits
  have wtimer := wf.timer
  have wat_ := wf.at_
  have wleft := wf.left
  have hg : s.give r = { s with m := { s.m with next := r, waits := true, at_ := 32768, left := s.m.left - 1 } } := by
    unfold Sound.give Smp.give; rw [if_neg (by simp [ha]), if_pos hl]; simp only [hq, if_true, if_false]
  have Hg := Lib.hid hg
  clear hg
  have HA := smp_asks b p0 p1 p2 p3 s wf w h
  rw [ha] at HA
  have HAs := Lib.hid HA
  clear HA ha
  go_enter Tryd.func38, Tryd.ntmps38
  go_wp2_with fail
  refine HAs.out.mono ?_
  rintro e w1 ⟨rfl, n1, rfl⟩
  go_wp2
  all_goals first | go_end0 | refine bodyPost_ret (results_none rfl _ _ _) rfl ?_
  all_goals refine ⟨rfl, At.eq (by (repeat (first | with_reducible apply At.setCell | with_reducible apply At.drew | with_reducible apply At.drewN)); exact h) ?_, (by repeat (first | with_reducible exact Upd.refl _ _ | with_reducible refine Upd.drew ?_ | with_reducible refine Upd.drewN ?_ _ | (with_reducible refine Upd.setCell ?_ (by simp) _)))⟩
  all_goals clear hf
  all_goals (try dsimp only)
  all_goals rw [Hg.out]
  all_goals (repeat' split) <;> first | (exfalso; omega) | (exfalso; simp_all; done) | (simp only [Sound.enc, List.set_cons_zero, List.set_cons_succ]; done) | (simp only [Sound.enc, List.set_cons_zero, List.set_cons_succ]; congr; omega) | skip

set_option maxHeartbeats 1000000 in
theorem give_more2 (b p0 p1 p2 p3 : Nat) (s : Sound) (wf : s.m.WF) (r : Int) (wr : 0 ≤ r ∧ r ≤ 255) (w : World) (h : At w b (s.enc p0 p1 p2 p3) 66) (ha : s.m.asks = true) (hl : 1 < s.m.left) (hq : ¬ s.m.at_ = 65535) :
    Calls Tryd.prog 38 #[.pointer (some ⟨b, 4, none⟩), .int .u8 r] w (Turns b (Sound.enc (s.give r) p0 p1 p2 p3) 66 (.tuple #[]) w) := by
  have hf : ∀ i, w.frozen? ⟨b, i, none⟩ = false := h.frozen
  have c4 : _ = some (Value.int .u8 s.m.q0) := h.cell 4
  have c5 : _ = some (Value.int .u8 s.m.q1) := h.cell 5
  have c6 : _ = some (Value.int .u8 s.m.q2) := h.cell 6
  have c7 : _ = some (Value.int .u8 s.m.q3) := h.cell 7
  have c8 : _ = some (Value.int .u8 s.m.level) := h.cell 8
  have c9 : _ = some (Value.int .u8 s.m.next) := h.cell 9
  have c10 : _ = some (Value.bool s.m.waits) := h.cell 10
  have c11 : _ = some (Value.int .u8 s.m.row) := h.cell 11
  have c12 : _ = some (Value.int .u8 s.m.bits) := h.cell 12
  have c13 : _ = some (Value.bool s.m.speaks) := h.cell 13
  have c14 : _ = some (Value.int .u16 s.m.timer) := h.cell 14
  have c15 : _ = some (Value.int .u16 s.m.at_) := h.cell 15
  have c16 : _ = some (Value.int .i64 s.m.left) := h.cell 16
  have c17 : _ = some (Value.bool s.m.irq) := h.cell 17
  have wq0 := wf.q0
  have wq1 := wf.q1
  have wq2 := wf.q2
  have wq3 := wf.q3
  have wlevel := wf.level
  have wnext := wf.next
  have wrow := wf.row
  have wbits := wf.bits
  have wtimer := wf.timer
  have wat_ := wf.at_
  have wleft := wf.left
  have hg : s.give r = { s with m := { s.m with next := r, waits := true, at_ := s.m.at_ + 1, left := s.m.left - 1 } } := by
    unfold Sound.give Smp.give; rw [if_neg (by simp [ha]), if_pos hl]; simp only [hq, if_true, if_false]
  have Hg := Lib.hid hg
  clear hg
  have hw1 : s.m.at_ + 1 ≤ 65535 := by omega
  have hn0 : (s.m.at_ + 1 == 0) = false := by simp; omega
  have HA := smp_asks b p0 p1 p2 p3 s wf w h
  rw [ha] at HA
  have HAs := Lib.hid HA
  clear HA ha
  go_enter Tryd.func38, Tryd.ntmps38
  go_wp2_with fail
  refine HAs.out.mono ?_
  rintro e w1 ⟨rfl, n1, rfl⟩
  go_wp2
  all_goals first | go_end0 | refine bodyPost_ret (results_none rfl _ _ _) rfl ?_
  all_goals refine ⟨rfl, At.eq (by (repeat (first | with_reducible apply At.setCell | with_reducible apply At.drew | with_reducible apply At.drewN)); exact h) ?_, (by repeat (first | with_reducible exact Upd.refl _ _ | with_reducible refine Upd.drew ?_ | with_reducible refine Upd.drewN ?_ _ | (with_reducible refine Upd.setCell ?_ (by simp) _)))⟩
  all_goals clear hf
  all_goals (try dsimp only)
  all_goals rw [Hg.out]
  all_goals (repeat' split) <;> first | (exfalso; omega) | (exfalso; simp_all; done) | (simp only [Sound.enc, List.set_cons_zero, List.set_cons_succ]; done) | (simp only [Sound.enc, List.set_cons_zero, List.set_cons_succ]; congr; omega) | skip

set_option maxHeartbeats 1000000 in
theorem give_last1 (b p0 p1 p2 p3 : Nat) (s : Sound) (wf : s.m.WF) (r : Int) (wr : 0 ≤ r ∧ r ≤ 255) (w : World) (h : At w b (s.enc p0 p1 p2 p3) 66) (ha : s.m.asks = true) (hl : ¬ 1 < s.m.left) (h6 : ¬ s.m.q0 / 64 % 2 = 1) (h8 : 128 ≤ s.m.q0) (hq : s.m.at_ = 65535) :
    Calls Tryd.prog 38 #[.pointer (some ⟨b, 4, none⟩), .int .u8 r] w (Turns b (Sound.enc (s.give r) p0 p1 p2 p3) 66 (.tuple #[]) w) := by
  have hf : ∀ i, w.frozen? ⟨b, i, none⟩ = false := h.frozen
  have c4 : _ = some (Value.int .u8 s.m.q0) := h.cell 4
  have c5 : _ = some (Value.int .u8 s.m.q1) := h.cell 5
  have c6 : _ = some (Value.int .u8 s.m.q2) := h.cell 6
  have c7 : _ = some (Value.int .u8 s.m.q3) := h.cell 7
  have c8 : _ = some (Value.int .u8 s.m.level) := h.cell 8
  have c9 : _ = some (Value.int .u8 s.m.next) := h.cell 9
  have c10 : _ = some (Value.bool s.m.waits) := h.cell 10
  have c11 : _ = some (Value.int .u8 s.m.row) := h.cell 11
  have c12 : _ = some (Value.int .u8 s.m.bits) := h.cell 12
  have c13 : _ = some (Value.bool s.m.speaks) := h.cell 13
  have c14 : _ = some (Value.int .u16 s.m.timer) := h.cell 14
  have c15 : _ = some (Value.int .u16 s.m.at_) := h.cell 15
  have c16 : _ = some (Value.int .i64 s.m.left) := h.cell 16
  have c17 : _ = some (Value.bool s.m.irq) := h.cell 17
  have wq0 := wf.q0
  have wq1 := wf.q1
  have wq2 := wf.q2
  have wq3 := wf.q3
  have wlevel := wf.level
  have wnext := wf.next
  have wrow := wf.row
  have wbits := wf.bits
  have wtimer := wf.timer
  have wat_ := wf.at_
  have wleft := wf.left
  have hl1 : s.m.left = 1 := by simp [Smp.asks] at ha; omega
  have e64 := and64 s.m.q0 wq0.1 wq0.2
  have e128 := and128 s.m.q0 wq0.1 wq0.2
  have hg : s.give r = { s with m := { s.m with next := r, waits := true, at_ := 32768, left := 0, irq := true } } := by
    have : s.m.left - 1 = 0 := by omega
    unfold Sound.give Smp.give; rw [if_neg (by simp [ha]), if_neg (by omega), if_neg (by omega)]; simp only [hq, h8, if_true, if_false, this]
  have Hg := Lib.hid hg
  clear hg
  have h64 : (s.m.q0 / 64 % 2 * 64 != 0) = false := by simp; omega
  have h128 : (s.m.q0 / 128 * 128 != 0) = true := by simp; omega
  have HA := smp_asks b p0 p1 p2 p3 s wf w h
  rw [ha] at HA
  have HAs := Lib.hid HA
  clear HA ha
  go_enter Tryd.func38, Tryd.ntmps38
  go_wp2_with fail
  refine HAs.out.mono ?_
  rintro e w1 ⟨rfl, n1, rfl⟩
  clear hl
  go_wp2
  all_goals first | go_end0 | refine bodyPost_ret (results_none rfl _ _ _) rfl ?_
  all_goals refine ⟨rfl, At.eq (by (repeat (first | with_reducible apply At.setCell | with_reducible apply At.drew | with_reducible apply At.drewN)); exact h) ?_, (by repeat (first | with_reducible exact Upd.refl _ _ | with_reducible refine Upd.drew ?_ | with_reducible refine Upd.drewN ?_ _ | (with_reducible refine Upd.setCell ?_ (by simp) _)))⟩
  all_goals clear hf
  all_goals (try dsimp only)
  all_goals rw [Hg.out]
  all_goals (repeat' split) <;> first | (exfalso; omega) | (exfalso; simp_all; done) | (simp only [Sound.enc, List.set_cons_zero, List.set_cons_succ]; done) | (simp only [Sound.enc, List.set_cons_zero, List.set_cons_succ]; congr; omega) | skip

set_option maxHeartbeats 1000000 in
theorem give_last2 (b p0 p1 p2 p3 : Nat) (s : Sound) (wf : s.m.WF) (r : Int) (wr : 0 ≤ r ∧ r ≤ 255) (w : World) (h : At w b (s.enc p0 p1 p2 p3) 66) (ha : s.m.asks = true) (hl : ¬ 1 < s.m.left) (h6 : ¬ s.m.q0 / 64 % 2 = 1) (h8 : ¬ 128 ≤ s.m.q0) (hq : s.m.at_ = 65535) :
    Calls Tryd.prog 38 #[.pointer (some ⟨b, 4, none⟩), .int .u8 r] w (Turns b (Sound.enc (s.give r) p0 p1 p2 p3) 66 (.tuple #[]) w) := by
  have hf : ∀ i, w.frozen? ⟨b, i, none⟩ = false := h.frozen
  have c4 : _ = some (Value.int .u8 s.m.q0) := h.cell 4
  have c5 : _ = some (Value.int .u8 s.m.q1) := h.cell 5
  have c6 : _ = some (Value.int .u8 s.m.q2) := h.cell 6
  have c7 : _ = some (Value.int .u8 s.m.q3) := h.cell 7
  have c8 : _ = some (Value.int .u8 s.m.level) := h.cell 8
  have c9 : _ = some (Value.int .u8 s.m.next) := h.cell 9
  have c10 : _ = some (Value.bool s.m.waits) := h.cell 10
  have c11 : _ = some (Value.int .u8 s.m.row) := h.cell 11
  have c12 : _ = some (Value.int .u8 s.m.bits) := h.cell 12
  have c13 : _ = some (Value.bool s.m.speaks) := h.cell 13
  have c14 : _ = some (Value.int .u16 s.m.timer) := h.cell 14
  have c15 : _ = some (Value.int .u16 s.m.at_) := h.cell 15
  have c16 : _ = some (Value.int .i64 s.m.left) := h.cell 16
  have c17 : _ = some (Value.bool s.m.irq) := h.cell 17
  have wq0 := wf.q0
  have wq1 := wf.q1
  have wq2 := wf.q2
  have wq3 := wf.q3
  have wlevel := wf.level
  have wnext := wf.next
  have wrow := wf.row
  have wbits := wf.bits
  have wtimer := wf.timer
  have wat_ := wf.at_
  have wleft := wf.left
  have hl1 : s.m.left = 1 := by simp [Smp.asks] at ha; omega
  have e64 := and64 s.m.q0 wq0.1 wq0.2
  have e128 := and128 s.m.q0 wq0.1 wq0.2
  have hg : s.give r = { s with m := { s.m with next := r, waits := true, at_ := 32768, left := 0 } } := by
    have : s.m.left - 1 = 0 := by omega
    unfold Sound.give Smp.give; rw [if_neg (by simp [ha]), if_neg (by omega), if_neg (by omega)]; simp only [hq, h8, if_true, if_false, this]
  have Hg := Lib.hid hg
  clear hg
  have h64 : (s.m.q0 / 64 % 2 * 64 != 0) = false := by simp; omega
  have h128 : (s.m.q0 / 128 * 128 != 0) = false := by simp; omega
  have HA := smp_asks b p0 p1 p2 p3 s wf w h
  rw [ha] at HA
  have HAs := Lib.hid HA
  clear HA ha
  go_enter Tryd.func38, Tryd.ntmps38
  go_wp2_with fail
  refine HAs.out.mono ?_
  rintro e w1 ⟨rfl, n1, rfl⟩
  clear hl
  go_wp2
  all_goals first | go_end0 | refine bodyPost_ret (results_none rfl _ _ _) rfl ?_
  all_goals refine ⟨rfl, At.eq (by (repeat (first | with_reducible apply At.setCell | with_reducible apply At.drew | with_reducible apply At.drewN)); exact h) ?_, (by repeat (first | with_reducible exact Upd.refl _ _ | with_reducible refine Upd.drew ?_ | with_reducible refine Upd.drewN ?_ _ | (with_reducible refine Upd.setCell ?_ (by simp) _)))⟩
  all_goals clear hf
  all_goals (try dsimp only)
  all_goals rw [Hg.out]
  all_goals (repeat' split) <;> first | (exfalso; omega) | (exfalso; simp_all; done) | (simp only [Sound.enc, List.set_cons_zero, List.set_cons_succ]; done) | (simp only [Sound.enc, List.set_cons_zero, List.set_cons_succ]; congr; omega) | skip

set_option maxHeartbeats 1000000 in
theorem give_last3 (b p0 p1 p2 p3 : Nat) (s : Sound) (wf : s.m.WF) (r : Int) (wr : 0 ≤ r ∧ r ≤ 255) (w : World) (h : At w b (s.enc p0 p1 p2 p3) 66) (ha : s.m.asks = true) (hl : ¬ 1 < s.m.left) (h6 : ¬ s.m.q0 / 64 % 2 = 1) (h8 : 128 ≤ s.m.q0) (hq : ¬ s.m.at_ = 65535) :
    Calls Tryd.prog 38 #[.pointer (some ⟨b, 4, none⟩), .int .u8 r] w (Turns b (Sound.enc (s.give r) p0 p1 p2 p3) 66 (.tuple #[]) w) := by
  have hf : ∀ i, w.frozen? ⟨b, i, none⟩ = false := h.frozen
  have c4 : _ = some (Value.int .u8 s.m.q0) := h.cell 4
  have c5 : _ = some (Value.int .u8 s.m.q1) := h.cell 5
  have c6 : _ = some (Value.int .u8 s.m.q2) := h.cell 6
  have c7 : _ = some (Value.int .u8 s.m.q3) := h.cell 7
  have c8 : _ = some (Value.int .u8 s.m.level) := h.cell 8
  have c9 : _ = some (Value.int .u8 s.m.next) := h.cell 9
  have c10 : _ = some (Value.bool s.m.waits) := h.cell 10
  have c11 : _ = some (Value.int .u8 s.m.row) := h.cell 11
  have c12 : _ = some (Value.int .u8 s.m.bits) := h.cell 12
  have c13 : _ = some (Value.bool s.m.speaks) := h.cell 13
  have c14 : _ = some (Value.int .u16 s.m.timer) := h.cell 14
  have c15 : _ = some (Value.int .u16 s.m.at_) := h.cell 15
  have c16 : _ = some (Value.int .i64 s.m.left) := h.cell 16
  have c17 : _ = some (Value.bool s.m.irq) := h.cell 17
  have wq0 := wf.q0
  have wq1 := wf.q1
  have wq2 := wf.q2
  have wq3 := wf.q3
  have wlevel := wf.level
  have wnext := wf.next
  have wrow := wf.row
  have wbits := wf.bits
  have wtimer := wf.timer
  have wat_ := wf.at_
  have wleft := wf.left
  have hl1 : s.m.left = 1 := by simp [Smp.asks] at ha; omega
  have e64 := and64 s.m.q0 wq0.1 wq0.2
  have e128 := and128 s.m.q0 wq0.1 wq0.2
  have hg : s.give r = { s with m := { s.m with next := r, waits := true, at_ := s.m.at_ + 1, left := 0, irq := true } } := by
    have : s.m.left - 1 = 0 := by omega
    unfold Sound.give Smp.give; rw [if_neg (by simp [ha]), if_neg (by omega), if_neg (by omega)]; simp only [hq, h8, if_true, if_false, this]
  have Hg := Lib.hid hg
  clear hg
  have h64 : (s.m.q0 / 64 % 2 * 64 != 0) = false := by simp; omega
  have h128 : (s.m.q0 / 128 * 128 != 0) = true := by simp; omega
  have hw1 : s.m.at_ + 1 ≤ 65535 := by omega
  have hn0 : (s.m.at_ + 1 == 0) = false := by simp; omega
  have HA := smp_asks b p0 p1 p2 p3 s wf w h
  rw [ha] at HA
  have HAs := Lib.hid HA
  clear HA ha
  go_enter Tryd.func38, Tryd.ntmps38
  go_wp2_with fail
  refine HAs.out.mono ?_
  rintro e w1 ⟨rfl, n1, rfl⟩
  clear hl
  go_wp2
  all_goals first | go_end0 | refine bodyPost_ret (results_none rfl _ _ _) rfl ?_
  all_goals refine ⟨rfl, At.eq (by (repeat (first | with_reducible apply At.setCell | with_reducible apply At.drew | with_reducible apply At.drewN)); exact h) ?_, (by repeat (first | with_reducible exact Upd.refl _ _ | with_reducible refine Upd.drew ?_ | with_reducible refine Upd.drewN ?_ _ | (with_reducible refine Upd.setCell ?_ (by simp) _)))⟩
  all_goals clear hf
  all_goals (try dsimp only)
  all_goals rw [Hg.out]
  all_goals (repeat' split) <;> first | (exfalso; omega) | (exfalso; simp_all; done) | (simp only [Sound.enc, List.set_cons_zero, List.set_cons_succ]; done) | (simp only [Sound.enc, List.set_cons_zero, List.set_cons_succ]; congr; omega) | skip

set_option maxHeartbeats 1000000 in
theorem give_last4 (b p0 p1 p2 p3 : Nat) (s : Sound) (wf : s.m.WF) (r : Int) (wr : 0 ≤ r ∧ r ≤ 255) (w : World) (h : At w b (s.enc p0 p1 p2 p3) 66) (ha : s.m.asks = true) (hl : ¬ 1 < s.m.left) (h6 : ¬ s.m.q0 / 64 % 2 = 1) (h8 : ¬ 128 ≤ s.m.q0) (hq : ¬ s.m.at_ = 65535) :
    Calls Tryd.prog 38 #[.pointer (some ⟨b, 4, none⟩), .int .u8 r] w (Turns b (Sound.enc (s.give r) p0 p1 p2 p3) 66 (.tuple #[]) w) := by
  have hf : ∀ i, w.frozen? ⟨b, i, none⟩ = false := h.frozen
  have c4 : _ = some (Value.int .u8 s.m.q0) := h.cell 4
  have c5 : _ = some (Value.int .u8 s.m.q1) := h.cell 5
  have c6 : _ = some (Value.int .u8 s.m.q2) := h.cell 6
  have c7 : _ = some (Value.int .u8 s.m.q3) := h.cell 7
  have c8 : _ = some (Value.int .u8 s.m.level) := h.cell 8
  have c9 : _ = some (Value.int .u8 s.m.next) := h.cell 9
  have c10 : _ = some (Value.bool s.m.waits) := h.cell 10
  have c11 : _ = some (Value.int .u8 s.m.row) := h.cell 11
  have c12 : _ = some (Value.int .u8 s.m.bits) := h.cell 12
  have c13 : _ = some (Value.bool s.m.speaks) := h.cell 13
  have c14 : _ = some (Value.int .u16 s.m.timer) := h.cell 14
  have c15 : _ = some (Value.int .u16 s.m.at_) := h.cell 15
  have c16 : _ = some (Value.int .i64 s.m.left) := h.cell 16
  have c17 : _ = some (Value.bool s.m.irq) := h.cell 17
  have wq0 := wf.q0
  have wq1 := wf.q1
  have wq2 := wf.q2
  have wq3 := wf.q3
  have wlevel := wf.level
  have wnext := wf.next
  have wrow := wf.row
  have wbits := wf.bits
  have wtimer := wf.timer
  have wat_ := wf.at_
  have wleft := wf.left
  have hl1 : s.m.left = 1 := by simp [Smp.asks] at ha; omega
  have e64 := and64 s.m.q0 wq0.1 wq0.2
  have e128 := and128 s.m.q0 wq0.1 wq0.2
  have hg : s.give r = { s with m := { s.m with next := r, waits := true, at_ := s.m.at_ + 1, left := 0 } } := by
    have : s.m.left - 1 = 0 := by omega
    unfold Sound.give Smp.give; rw [if_neg (by simp [ha]), if_neg (by omega), if_neg (by omega)]; simp only [hq, h8, if_true, if_false, this]
  have Hg := Lib.hid hg
  clear hg
  have h64 : (s.m.q0 / 64 % 2 * 64 != 0) = false := by simp; omega
  have h128 : (s.m.q0 / 128 * 128 != 0) = false := by simp; omega
  have hw1 : s.m.at_ + 1 ≤ 65535 := by omega
  have hn0 : (s.m.at_ + 1 == 0) = false := by simp; omega
  have HA := smp_asks b p0 p1 p2 p3 s wf w h
  rw [ha] at HA
  have HAs := Lib.hid HA
  clear HA ha
  go_enter Tryd.func38, Tryd.ntmps38
  go_wp2_with fail
  refine HAs.out.mono ?_
  rintro e w1 ⟨rfl, n1, rfl⟩
  clear hl
  go_wp2
  all_goals first | go_end0 | refine bodyPost_ret (results_none rfl _ _ _) rfl ?_
  all_goals refine ⟨rfl, At.eq (by (repeat (first | with_reducible apply At.setCell | with_reducible apply At.drew | with_reducible apply At.drewN)); exact h) ?_, (by repeat (first | with_reducible exact Upd.refl _ _ | with_reducible refine Upd.drew ?_ | with_reducible refine Upd.drewN ?_ _ | (with_reducible refine Upd.setCell ?_ (by simp) _)))⟩
  all_goals clear hf
  all_goals (try dsimp only)
  all_goals rw [Hg.out]
  all_goals (repeat' split) <;> first | (exfalso; omega) | (exfalso; simp_all; done) | (simp only [Sound.enc, List.set_cons_zero, List.set_cons_succ]; done) | (simp only [Sound.enc, List.set_cons_zero, List.set_cons_succ]; congr; omega) | skip
end Go.Proofs.YtonhhjihmbcfnaaDoor

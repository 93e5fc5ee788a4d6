import Derived.Lib.Hide
import Derived.Test.YtonhhjihmbcfnaaDoorS3
namespace Go.Proofs.YtonhhjihmbcfnaaDoor
open Go.RowKit
set_option linter.unusedSimpArgs false
set_option linter.unusedVariables false

set_option maxHeartbeats 1000000 in
theorem give_loop1 (b p0 p1 p2 p3 : Nat) (s : Sound) (wf : s.m.WF) (r : Int) (wr : 0 ≤ r ∧ r ≤ 255) (w : World) (h : At w b (s.enc p0 p1 p2 p3) 66) (ha : s.m.asks = true) (hl : ¬ 1 < s.m.left) (h6 : s.m.q0 / 64 % 2 = 1) (hq : s.m.at_ = 65535) :
    Calls Tryd.prog 38 #[.pointer (some ⟨b, 4, none⟩), .int .u8 r] w (Turns b (Sound.enc (s.give r) p0 p1 p2 p3) 66 (.tuple #[]) w) := by
  have hf : ∀ i, w.frozen? ⟨b, i, none⟩ = false := h.frozen
  have c4 : _ = some (Value.int .u8 s.m.q0) := h.cell 4
  have c5 : _ = some (Value.int .u8 s.m.q1) := h.cell 5
  have c6 : _ = some (Value.int .u8 s.m.q2) := h.cell 6
  have c7 : _ = some (Value.int .u8 s.m.q3) := h.cell 7
  have c8 : _ = some (Value.int .u8 s.m.level) := h.cell 8
  have c9 : _ = some (Value.int .u8 s.m.next) := h.cell 9
  have c10 : _ = some (Value.bool s.m.waits) := h.cell 10
  have c11 : _ = some (Value.int .u8 s.m.row) := h.cell 11
  have c12 : _ = some (Value.int .u8 s.m.bits) := h.cell 12
  have c13 : _ = some (Value.bool s.m.speaks) := h.cell 13
  have c14 : _ = some (Value.int .u16 s.m.timer) := h.cell 14
  have c15 : _ = some (Value.int .u16 s.m.at_) := h.cell 15
  have c16 : _ = some (Value.int .i64 s.m.left) := h.cell 16
  have c17 : _ = some (Value.bool s.m.irq) := h.cell 17
  have wq0 := wf.q0
  have wq1 := wf.q1
  have wq2 := wf.q2
  have wq3 := wf.q3
  have wlevel := wf.level
  have wnext := wf.next
  have wrow := wf.row
  have wbits := wf.bits
  have wtimer := wf.timer
  have wat_ := wf.at_
  have wleft := wf.left
  have hl1 : s.m.left = 1 := by simp [Smp.asks] at ha; omega
  have e64 := and64 s.m.q0 wq0.1 wq0.2
  have e128 := and128 s.m.q0 wq0.1 wq0.2
  have hg : s.give r = { s with m := { s.m with next := r, waits := true, at_ := 49152 + 64 * s.m.q2, left := 16 * s.m.q3 + 1 } } := by
    unfold Sound.give Smp.give; rw [if_neg (by simp [ha]), if_neg (by omega), if_pos h6]
  have Hg := Lib.hid hg
  clear hg
  have h64 : (s.m.q0 / 64 % 2 * 64 != 0) = true := by simp; omega
  have HA := smp_asks b p0 p1 p2 p3 s wf w h
  rw [ha] at HA
  have HAs := Lib.hid HA
  clear HA ha
  go_enter Tryd.func38, Tryd.ntmps38
  go_wp2_with fail
  refine HAs.out.mono ?_
  rintro e w1 ⟨rfl, n1, rfl⟩
  clear hl
  go_wp2_with fail
  refine (smp_begin b p0 p1 p2 p3 { s with m := { s.m with next := r, waits := true, at_ := 32768, left := 0 } } ⟨wf.q0, wf.q1, wf.q2, wf.q3, wf.level, wr, wf.row, wf.bits, wf.timer, by dsimp only; omega, by dsimp only; omega⟩ _ (At.eq (by (repeat (first | with_reducible apply At.setCell | with_reducible apply At.drew | with_reducible apply At.drewN)); exact h) ?_)).mono ?_
  · simp only [Sound.enc, List.set_cons_zero, List.set_cons_succ]
  rintro e w2 ⟨rfl, hA, hU⟩
  go_wp2
  go_end0
  rw [Hg.out]
  exact ⟨rfl, hA, Upd.trans (by repeat (first | with_reducible exact Upd.refl _ _ | with_reducible refine Upd.drew ?_ | with_reducible refine Upd.drewN ?_ _ | (with_reducible refine Upd.setCell ?_ (by simp) _))) hU⟩

set_option maxHeartbeats 1000000 in
theorem give_loop2 (b p0 p1 p2 p3 : Nat) (s : Sound) (wf : s.m.WF) (r : Int) (wr : 0 ≤ r ∧ r ≤ 255) (w : World) (h : At w b (s.enc p0 p1 p2 p3) 66) (ha : s.m.asks = true) (hl : ¬ 1 < s.m.left) (h6 : s.m.q0 / 64 % 2 = 1) (hq : ¬ s.m.at_ = 65535) :
    Calls Tryd.prog 38 #[.pointer (some ⟨b, 4, none⟩), .int .u8 r] w (Turns b (Sound.enc (s.give r) p0 p1 p2 p3) 66 (.tuple #[]) w) := by
  have hf : ∀ i, w.frozen? ⟨b, i, none⟩ = false := h.frozen
  have c4 : _ = some (Value.int .u8 s.m.q0) := h.cell 4
  have c5 : _ = some (Value.int .u8 s.m.q1) := h.cell 5
  have c6 : _ = some (Value.int .u8 s.m.q2) := h.cell 6
  have c7 : _ = some (Value.int .u8 s.m.q3) := h.cell 7
  have c8 : _ = some (Value.int .u8 s.m.level) := h.cell 8
  have c9 : _ = some (Value.int .u8 s.m.next) := h.cell 9
  have c10 : _ = some (Value.bool s.m.waits) := h.cell 10
  have c11 : _ = some (Value.int .u8 s.m.row) := h.cell 11
  have c12 : _ = some (Value.int .u8 s.m.bits) := h.cell 12
  have c13 : _ = some (Value.bool s.m.speaks) := h.cell 13
  have c14 : _ = some (Value.int .u16 s.m.timer) := h.cell 14
  have c15 : _ = some (Value.int .u16 s.m.at_) := h.cell 15
  have c16 : _ = some (Value.int .i64 s.m.left) := h.cell 16
  have c17 : _ = some (Value.bool s.m.irq) := h.cell 17
  have wq0 := wf.q0
  have wq1 := wf.q1
  have wq2 := wf.q2
  have wq3 := wf.q3
  have wlevel := wf.level
  have wnext := wf.next
  have wrow := wf.row
  have wbits := wf.bits
  have wtimer := wf.timer
  have wat_ := wf.at_
  have wleft := wf.left
  have hl1 : s.m.left = 1 := by simp [Smp.asks] at ha; omega
  have e64 := and64 s.m.q0 wq0.1 wq0.2
  have e128 := and128 s.m.q0 wq0.1 wq0.2
  have hg : s.give r = { s with m := { s.m with next := r, waits := true, at_ := 49152 + 64 * s.m.q2, left := 16 * s.m.q3 + 1 } } := by
    unfold Sound.give Smp.give; rw [if_neg (by simp [ha]), if_neg (by omega), if_pos h6]
  have Hg := Lib.hid hg
  clear hg
  have h64 : (s.m.q0 / 64 % 2 * 64 != 0) = true := by simp; omega
  have hw1 : s.m.at_ + 1 ≤ 65535 := by omega
  have hn0 : (s.m.at_ + 1 == 0) = false := by simp; omega
  have HA := smp_asks b p0 p1 p2 p3 s wf w h
  rw [ha] at HA
  have HAs := Lib.hid HA
  clear HA ha
  go_enter Tryd.func38, Tryd.ntmps38
  go_wp2_with fail
  refine HAs.out.mono ?_
  rintro e w1 ⟨rfl, n1, rfl⟩
  clear hl
  go_wp2_with fail
  refine (smp_begin b p0 p1 p2 p3 { s with m := { s.m with next := r, waits := true, at_ := s.m.at_ + 1, left := 0 } } ⟨wf.q0, wf.q1, wf.q2, wf.q3, wf.level, wr, wf.row, wf.bits, wf.timer, by dsimp only; omega, by dsimp only; omega⟩ _ (At.eq (by (repeat (first | with_reducible apply At.setCell | with_reducible apply At.drew | with_reducible apply At.drewN)); exact h) ?_)).mono ?_
  · simp only [Sound.enc, List.set_cons_zero, List.set_cons_succ]
  rintro e w2 ⟨rfl, hA, hU⟩
  go_wp2
  go_end0
  rw [Hg.out]
  exact ⟨rfl, hA, Upd.trans (by repeat (first | with_reducible exact Upd.refl _ _ | with_reducible refine Upd.drew ?_ | with_reducible refine Upd.drewN ?_ _ | (with_reducible refine Upd.setCell ?_ (by simp) _))) hU⟩

theorem smp_give (b p0 p1 p2 p3 : Nat) (s : Sound) (wf : s.m.WF) (r : Int) (wr : 0 ≤ r ∧ r ≤ 255) (w : World) (h : At w b (s.enc p0 p1 p2 p3) 66) :
    Calls Tryd.prog 38 #[.pointer (some ⟨b, 4, none⟩), .int .u8 r] w (Turns b (Sound.enc (s.give r) p0 p1 p2 p3) 66 (.tuple #[]) w) := by
  cases ha : s.m.asks
  · exact give_no b p0 p1 p2 p3 s wf r wr w h ha
  by_cases hq : s.m.at_ = 65535
  · by_cases hl : 1 < s.m.left
    · exact give_more1 b p0 p1 p2 p3 s wf r wr w h ha hl hq
    by_cases h6 : s.m.q0 / 64 % 2 = 1
    · exact give_loop1 b p0 p1 p2 p3 s wf r wr w h ha hl h6 hq
    by_cases h8 : 128 ≤ s.m.q0
    · exact give_last1 b p0 p1 p2 p3 s wf r wr w h ha hl h6 h8 hq
    · exact give_last2 b p0 p1 p2 p3 s wf r wr w h ha hl h6 h8 hq
  · by_cases hl : 1 < s.m.left
    · exact give_more2 b p0 p1 p2 p3 s wf r wr w h ha hl hq
    by_cases h6 : s.m.q0 / 64 % 2 = 1
    · exact give_loop2 b p0 p1 p2 p3 s wf r wr w h ha hl h6 hq
    by_cases h8 : 128 ≤ s.m.q0
    · exact give_last3 b p0 p1 p2 p3 s wf r wr w h ha hl h6 h8 hq
    · exact give_last4 b p0 p1 p2 p3 s wf r wr w h ha hl h6 h8 hq
end Go.Proofs.YtonhhjihmbcfnaaDoor

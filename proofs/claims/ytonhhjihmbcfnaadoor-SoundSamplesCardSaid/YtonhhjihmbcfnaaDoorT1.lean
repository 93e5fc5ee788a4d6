import Derived.Test.YtonhhjihmbcfnaaDoorBase
import Derived.Test.YtonhhjihmbcfnaaDoorToneM
import Derived.Test.YtonhhjihmbcfnaaDoorBits
import Derived.Test.YtonhhjihmbcfnaaDoorTabs
namespace Go.Proofs.YtonhhjihmbcfnaaDoor
open Go.RowKit
set_option linter.unusedSimpArgs false
set_option linter.unusedVariables false
def Tone.enc (t : Tone) : List Value := [.int .u8 t.kind, .bool t.on, .int .u8 t.r0, .int .u8 t.r1, .int .u8 t.r2, .int .u8 t.r3, .int .u8 t.length, .int .u16 t.period, .int .u16 t.timer, .int .u8 t.step, .bool t.begins, .int .u8 t.level, .int .u8 t.count, .int .u8 t.sweep, .bool t.swept, .int .u8 t.line, .int .u16 t.row]

theorem encT (t : Tone) (i : Nat) : t.enc[i]? = t.enc[i]? := rfl

set_option maxHeartbeats 400000 in
theorem tone_volume (b : Nat) (t : Tone) (wf : t.WF) (w : World) (h : At w b t.enc 83) :
    Calls Tryd.prog 61 #[.pointer (some ⟨b, 0, none⟩)] w (Tells (.int .u8 t.volume) w) := by
  have c2 : _ = some (Value.int .u8 t.r0) := h.cell 2
  have c11 : _ = some (Value.int .u8 t.level) := h.cell 11
  have wkind := wf.kind
  have wr0 := wf.r0
  have wr1 := wf.r1
  have wr2 := wf.r2
  have wr3 := wf.r3
  have wlength := wf.length
  have wperiod := wf.period
  have wtimer := wf.timer
  have wstep := wf.step
  have wsmall := wf.small
  have wlevel := wf.level
  have wcount := wf.count
  have wsweep := wf.sweep
  have wline := wf.line
  have wrow := wf.row
  have er0_15 := and15 t.r0 wr0.1 wr0.2
  have er0_16 := and16 t.r0 wr0.1 wr0.2
  go_enter Tryd.func61, Tryd.ntmps61
  go_wp2
  all_goals go_ret
  all_goals refine ⟨?_, (by repeat (first | with_reducible exact Same.refl _ | with_reducible apply Same.drewN | with_reducible apply Same.drew))⟩
  all_goals (try simp only [bne_iff_ne, ne_eq, bne_eq_false_iff_eq, beq_iff_eq, beq_eq_false_iff_ne, decide_eq_true_eq, decide_eq_false_iff_not, Bool.and_eq_true, Bool.or_eq_true, Bool.and_eq_false_iff, Bool.or_eq_false_iff, Bool.not_eq_true', Bool.not_eq_false', Bool.not_eq_true, Bool.not_eq_false] at *)
  all_goals refine ret_int ?_
  all_goals unfold Tone.volume
  all_goals (repeat' split) <;> omega

set_option maxHeartbeats 400000 in
theorem tone_target (b : Nat) (t : Tone) (wf : t.WF) (w : World) (h : At w b t.enc 83) :
    Calls Tryd.prog 67 #[.pointer (some ⟨b, 0, none⟩)] w (Tells (.int .u16 t.target) w) := by
  have c0 : _ = some (Value.int .u8 t.kind) := h.cell 0
  have c3 : _ = some (Value.int .u8 t.r1) := h.cell 3
  have c7 : _ = some (Value.int .u16 t.period) := h.cell 7
  have wkind := wf.kind
  have wr0 := wf.r0
  have wr1 := wf.r1
  have wr2 := wf.r2
  have wr3 := wf.r3
  have wlength := wf.length
  have wperiod := wf.period
  have wtimer := wf.timer
  have wstep := wf.step
  have wsmall := wf.small
  have wlevel := wf.level
  have wcount := wf.count
  have wsweep := wf.sweep
  have wline := wf.line
  have wrow := wf.row
  have er1_7 := and7 t.r1 wr1.1 wr1.2
  have er1_8 := and8 t.r1 wr1.1 wr1.2
  go_enter Tryd.func67, Tryd.ntmps67
  have hb := halve_bd (t.r1 % 8).toNat t.period wperiod.1
  unfold halve at hb
  have hm0 : 0 ≤ t.r1 % 8 := by omega
  have hm1 : t.r1 % 8 ≤ 16 := by omega
  go_wp2
  go_quiet (fail)
  go_wp2
  all_goals (try go_quiet (fail))
  all_goals go_wp2
  all_goals go_ret
  all_goals refine ⟨?_, (by repeat (first | with_reducible exact Same.refl _ | with_reducible apply Same.drewN | with_reducible apply Same.drew))⟩
  all_goals (try simp only [bne_iff_ne, ne_eq, bne_eq_false_iff_eq, beq_iff_eq, beq_eq_false_iff_ne, decide_eq_true_eq, decide_eq_false_iff_not, Bool.and_eq_true, Bool.or_eq_true, Bool.and_eq_false_iff, Bool.or_eq_false_iff, Bool.not_eq_true', Bool.not_eq_false', Bool.not_eq_true, Bool.not_eq_false] at *)
  all_goals refine ret_int ?_
  all_goals unfold Tone.target halve
  all_goals (repeat' split) <;> omega


set_option maxHeartbeats 400000 in
theorem tone_mute (b : Nat) (t : Tone) (wf : t.WF) (w : World) (h : At w b t.enc 83) :
    Calls Tryd.prog 60 #[.pointer (some ⟨b, 0, none⟩)] w (Tells (.bool t.mute) w) := by
  have c7 : _ = some (Value.int .u16 t.period) := h.cell 7
  have wkind := wf.kind
  have wr0 := wf.r0
  have wr1 := wf.r1
  have wr2 := wf.r2
  have wr3 := wf.r3
  have wlength := wf.length
  have wperiod := wf.period
  have wtimer := wf.timer
  have wstep := wf.step
  have wsmall := wf.small
  have wlevel := wf.level
  have wcount := wf.count
  have wsweep := wf.sweep
  have wline := wf.line
  have wrow := wf.row
  go_enter Tryd.func60, Tryd.ntmps60
  have ht := Tone.target_bd wf
  by_cases h8 : t.period < 8
  · go_wp2
    all_goals go_ret
    all_goals refine ⟨?_, (by repeat (first | with_reducible exact Same.refl _ | with_reducible apply Same.drewN | with_reducible apply Same.drew))⟩
    all_goals (try simp only [bne_iff_ne, ne_eq, bne_eq_false_iff_eq, beq_iff_eq, beq_eq_false_iff_ne, decide_eq_true_eq, decide_eq_false_iff_not, Bool.and_eq_true, Bool.or_eq_true, Bool.and_eq_false_iff, Bool.or_eq_false_iff, Bool.not_eq_true', Bool.not_eq_false', Bool.not_eq_true, Bool.not_eq_false] at *)
    all_goals refine ret_bool ?_
    all_goals unfold Tone.mute
    all_goals simp [h8]
  · go_wp2_with fail
    refine (tone_target b t wf _ h).mono ?_
    rintro e w1 ⟨rfl, n1, rfl⟩
    go_wp2
    all_goals go_ret
    all_goals refine ⟨?_, (by repeat (first | with_reducible exact Same.refl _ | with_reducible apply Same.drewN | with_reducible apply Same.drew))⟩
    all_goals (try simp only [bne_iff_ne, ne_eq, bne_eq_false_iff_eq, beq_iff_eq, beq_eq_false_iff_ne, decide_eq_true_eq, decide_eq_false_iff_not, Bool.and_eq_true, Bool.or_eq_true, Bool.and_eq_false_iff, Bool.or_eq_false_iff, Bool.not_eq_true', Bool.not_eq_false', Bool.not_eq_true, Bool.not_eq_false] at *)
    all_goals refine ret_bool ?_
    all_goals unfold Tone.mute
    all_goals simp [h8]
    all_goals (intros; omega)


set_option maxHeartbeats 400000 in
theorem tone_live (b : Nat) (t : Tone) (wf : t.WF) (w : World) (h : At w b t.enc 83) :
    Calls Tryd.prog 34 #[.pointer (some ⟨b, 0, none⟩)] w (Tells (.bool (decide (0 < t.length))) w) := by
  have c6 : _ = some (Value.int .u8 t.length) := h.cell 6
  have wkind := wf.kind
  have wr0 := wf.r0
  have wr1 := wf.r1
  have wr2 := wf.r2
  have wr3 := wf.r3
  have wlength := wf.length
  have wperiod := wf.period
  have wtimer := wf.timer
  have wstep := wf.step
  have wsmall := wf.small
  have wlevel := wf.level
  have wcount := wf.count
  have wsweep := wf.sweep
  have wline := wf.line
  have wrow := wf.row
  go_enter Tryd.func34, Tryd.ntmps34
  go_wp2
  all_goals go_ret
  all_goals refine ⟨?_, (by repeat (first | with_reducible exact Same.refl _ | with_reducible apply Same.drewN | with_reducible apply Same.drew))⟩
  all_goals (try simp only [bne_iff_ne, ne_eq, bne_eq_false_iff_eq, beq_iff_eq, beq_eq_false_iff_ne, decide_eq_true_eq, decide_eq_false_iff_not, Bool.and_eq_true, Bool.or_eq_true, Bool.and_eq_false_iff, Bool.or_eq_false_iff, Bool.not_eq_true', Bool.not_eq_false', Bool.not_eq_true, Bool.not_eq_false] at *)
  all_goals refine ret_bool ?_
  all_goals simp

set_option maxHeartbeats 400000 in
theorem tone_enable (b : Nat) (t : Tone) (wf : t.WF) (on : Bool) (w : World) (h : At w b t.enc 83) :
    Calls Tryd.prog 31 #[.pointer (some ⟨b, 0, none⟩), .bool on] w (Turns b (t.enable on).enc 83 (.tuple #[]) w) := by
  have hf : ∀ i, w.frozen? ⟨b, i, none⟩ = false := h.frozen
  have c1 : _ = some (Value.bool t.on) := h.cell 1
  have c6 : _ = some (Value.int .u8 t.length) := h.cell 6
  have wkind := wf.kind
  have wr0 := wf.r0
  have wr1 := wf.r1
  have wr2 := wf.r2
  have wr3 := wf.r3
  have wlength := wf.length
  have wperiod := wf.period
  have wtimer := wf.timer
  have wstep := wf.step
  have wsmall := wf.small
  have wlevel := wf.level
  have wcount := wf.count
  have wsweep := wf.sweep
  have wline := wf.line
  have wrow := wf.row
  cases on <;> go_enter Tryd.func31, Tryd.ntmps31 <;> go_wp2
  all_goals first | go_end0 | refine bodyPost_ret (results_none rfl _ _ _) rfl ?_
  all_goals refine ⟨rfl, At.eq (by (repeat (first | with_reducible apply At.setCell | with_reducible apply At.drew | with_reducible apply At.drewN)); exact h) ?_, (by repeat (first | with_reducible exact Upd.refl _ _ | with_reducible refine Upd.drew ?_ | with_reducible refine Upd.drewN ?_ _ | (with_reducible refine Upd.setCell ?_ (by simp) _)))⟩
  all_goals clear hf
  all_goals unfold Tone.enable
  all_goals (try dsimp only)
  all_goals rfl

set_option maxHeartbeats 400000 in
theorem tone_high (b : Nat) (t : Tone) (wf : t.WF) (r : Int) (wr : 0 ≤ r ∧ r ≤ 255) (w : World) (hT : Tabs w) (h : At w b t.enc 83) :
    Calls Tryd.prog 54 #[.pointer (some ⟨b, 0, none⟩), .int .u8 r] w (Turns b (t.high r).enc 83 (.tuple #[]) w) := by
  have hf : ∀ i, w.frozen? ⟨b, i, none⟩ = false := h.frozen
  have c0 : _ = some (Value.int .u8 t.kind) := h.cell 0
  have c1 : _ = some (Value.bool t.on) := h.cell 1
  have c2 : _ = some (Value.int .u8 t.r0) := h.cell 2
  have c3 : _ = some (Value.int .u8 t.r1) := h.cell 3
  have c4 : _ = some (Value.int .u8 t.r2) := h.cell 4
  have c5 : _ = some (Value.int .u8 t.r3) := h.cell 5
  have c6 : _ = some (Value.int .u8 t.length) := h.cell 6
  have c7 : _ = some (Value.int .u16 t.period) := h.cell 7
  have c8 : _ = some (Value.int .u16 t.timer) := h.cell 8
  have c9 : _ = some (Value.int .u8 t.step) := h.cell 9
  have c10 : _ = some (Value.bool t.begins) := h.cell 10
  have c11 : _ = some (Value.int .u8 t.level) := h.cell 11
  have c12 : _ = some (Value.int .u8 t.count) := h.cell 12
  have c13 : _ = some (Value.int .u8 t.sweep) := h.cell 13
  have c14 : _ = some (Value.bool t.swept) := h.cell 14
  have c15 : _ = some (Value.int .u8 t.line) := h.cell 15
  have c16 : _ = some (Value.int .u16 t.row) := h.cell 16
  have wkind := wf.kind
  have wr0 := wf.r0
  have wr1 := wf.r1
  have wr2 := wf.r2
  have wr3 := wf.r3
  have wlength := wf.length
  have wperiod := wf.period
  have wtimer := wf.timer
  have wstep := wf.step
  have wsmall := wf.small
  have wlevel := wf.level
  have wcount := wf.count
  have wsweep := wf.sweep
  have wline := wf.line
  have wrow := wf.row
  have hl0 : 0 ≤ r / 8 := by omega
  have hl1 : r / 8 < 32 := by omega
  have hl2 : r / 8 ≤ 31 := by omega
  have c4l := hT.lens (r / 8) hl0 hl1
  have e255 := and255 t.period wperiod.1 wperiod.2
  have er7 := and7 r wr.1 wr.2
  have eor := or256 (t.period % 256) (r % 8) (by omega) (by omega) (by omega) (by omega)
  clear hT
  cases hon : t.on
  all_goals go_enter Tryd.func54, Tryd.ntmps54
  all_goals go_wp2
  all_goals first | go_end0 | refine bodyPost_ret (results_none rfl _ _ _) rfl ?_
  all_goals refine ⟨rfl, At.eq (by (repeat (first | with_reducible apply At.setCell | with_reducible apply At.drew | with_reducible apply At.drewN)); exact h) ?_, (by repeat (first | with_reducible exact Upd.refl _ _ | with_reducible refine Upd.drew ?_ | with_reducible refine Upd.drewN ?_ _ | (with_reducible refine Upd.setCell ?_ (by simp) _)))⟩
  all_goals clear hf
  all_goals unfold Tone.high
  all_goals (try dsimp only)
  all_goals (try simp only [bne_iff_ne, ne_eq, bne_eq_false_iff_eq, beq_iff_eq, beq_eq_false_iff_ne, decide_eq_true_eq, decide_eq_false_iff_not, Bool.and_eq_true, Bool.or_eq_true, Bool.and_eq_false_iff, Bool.or_eq_false_iff, Bool.not_eq_true', Bool.not_eq_false', Bool.not_eq_true, Bool.not_eq_false] at *)
  all_goals (repeat' split) <;> first | (exfalso; omega) | (exfalso; simp_all; done) | (simp only [Tone.enc, List.set_cons_zero, List.set_cons_succ]; done) | skip

set_option maxHeartbeats 400000 in
theorem tone_put0 (b : Nat) (t : Tone) (wf : t.WF) (r : Int) (wr : 0 ≤ r ∧ r ≤ 255) (w : World) (hT : Tabs w) (hb : 4 < b) (h : At w b t.enc 83) :
    Calls Tryd.prog 29 #[.pointer (some ⟨b, 0, none⟩), .int .u8 0, .int .u8 r] w (Turns b (t.put 0 r).enc 83 (.tuple #[]) w) := by
  have hf : ∀ i, w.frozen? ⟨b, i, none⟩ = false := h.frozen
  have c0 : _ = some (Value.int .u8 t.kind) := h.cell 0
  have c1 : _ = some (Value.bool t.on) := h.cell 1
  have c2 : _ = some (Value.int .u8 t.r0) := h.cell 2
  have c3 : _ = some (Value.int .u8 t.r1) := h.cell 3
  have c4 : _ = some (Value.int .u8 t.r2) := h.cell 4
  have c5 : _ = some (Value.int .u8 t.r3) := h.cell 5
  have c6 : _ = some (Value.int .u8 t.length) := h.cell 6
  have c7 : _ = some (Value.int .u16 t.period) := h.cell 7
  have c8 : _ = some (Value.int .u16 t.timer) := h.cell 8
  have c9 : _ = some (Value.int .u8 t.step) := h.cell 9
  have c10 : _ = some (Value.bool t.begins) := h.cell 10
  have c11 : _ = some (Value.int .u8 t.level) := h.cell 11
  have c12 : _ = some (Value.int .u8 t.count) := h.cell 12
  have c13 : _ = some (Value.int .u8 t.sweep) := h.cell 13
  have c14 : _ = some (Value.bool t.swept) := h.cell 14
  have c15 : _ = some (Value.int .u8 t.line) := h.cell 15
  have c16 : _ = some (Value.int .u16 t.row) := h.cell 16
  have wkind := wf.kind
  have wr0 := wf.r0
  have wr1 := wf.r1
  have wr2 := wf.r2
  have wr3 := wf.r3
  have wlength := wf.length
  have wperiod := wf.period
  have wtimer := wf.timer
  have wstep := wf.step
  have wsmall := wf.small
  have wlevel := wf.level
  have wcount := wf.count
  have wsweep := wf.sweep
  have wline := wf.line
  have wrow := wf.row
  clear hT
  go_enter Tryd.func29, Tryd.ntmps29
  go_wp2
  all_goals first | go_end0 | refine bodyPost_ret (results_none rfl _ _ _) rfl ?_
  all_goals refine ⟨rfl, At.eq (by (repeat (first | with_reducible apply At.setCell | with_reducible apply At.drew | with_reducible apply At.drewN)); exact h) ?_, (by repeat (first | with_reducible exact Upd.refl _ _ | with_reducible refine Upd.drew ?_ | with_reducible refine Upd.drewN ?_ _ | (with_reducible refine Upd.setCell ?_ (by simp) _)))⟩
  all_goals clear hf
  all_goals unfold Tone.put
  all_goals (try dsimp only)
  all_goals (try simp only [bne_iff_ne, ne_eq, bne_eq_false_iff_eq, beq_iff_eq, beq_eq_false_iff_ne, decide_eq_true_eq, decide_eq_false_iff_not, Bool.and_eq_true, Bool.or_eq_true, Bool.and_eq_false_iff, Bool.or_eq_false_iff, Bool.not_eq_true', Bool.not_eq_false', Bool.not_eq_true, Bool.not_eq_false] at *)
  all_goals simp only [Int.reduceEq, ↓reduceIte]
  all_goals (repeat' split) <;> first | (exfalso; omega) | (exfalso; simp_all; done) | (simp only [Tone.enc, List.set_cons_zero, List.set_cons_succ]; done) | skip

set_option maxHeartbeats 400000 in
theorem tone_put1 (b : Nat) (t : Tone) (wf : t.WF) (r : Int) (wr : 0 ≤ r ∧ r ≤ 255) (w : World) (hT : Tabs w) (hb : 4 < b) (h : At w b t.enc 83) :
    Calls Tryd.prog 29 #[.pointer (some ⟨b, 0, none⟩), .int .u8 1, .int .u8 r] w (Turns b (t.put 1 r).enc 83 (.tuple #[]) w) := by
  have hf : ∀ i, w.frozen? ⟨b, i, none⟩ = false := h.frozen
  have c0 : _ = some (Value.int .u8 t.kind) := h.cell 0
  have c1 : _ = some (Value.bool t.on) := h.cell 1
  have c2 : _ = some (Value.int .u8 t.r0) := h.cell 2
  have c3 : _ = some (Value.int .u8 t.r1) := h.cell 3
  have c4 : _ = some (Value.int .u8 t.r2) := h.cell 4
  have c5 : _ = some (Value.int .u8 t.r3) := h.cell 5
  have c6 : _ = some (Value.int .u8 t.length) := h.cell 6
  have c7 : _ = some (Value.int .u16 t.period) := h.cell 7
  have c8 : _ = some (Value.int .u16 t.timer) := h.cell 8
  have c9 : _ = some (Value.int .u8 t.step) := h.cell 9
  have c10 : _ = some (Value.bool t.begins) := h.cell 10
  have c11 : _ = some (Value.int .u8 t.level) := h.cell 11
  have c12 : _ = some (Value.int .u8 t.count) := h.cell 12
  have c13 : _ = some (Value.int .u8 t.sweep) := h.cell 13
  have c14 : _ = some (Value.bool t.swept) := h.cell 14
  have c15 : _ = some (Value.int .u8 t.line) := h.cell 15
  have c16 : _ = some (Value.int .u16 t.row) := h.cell 16
  have wkind := wf.kind
  have wr0 := wf.r0
  have wr1 := wf.r1
  have wr2 := wf.r2
  have wr3 := wf.r3
  have wlength := wf.length
  have wperiod := wf.period
  have wtimer := wf.timer
  have wstep := wf.step
  have wsmall := wf.small
  have wlevel := wf.level
  have wcount := wf.count
  have wsweep := wf.sweep
  have wline := wf.line
  have wrow := wf.row
  clear hT
  go_enter Tryd.func29, Tryd.ntmps29
  go_wp2
  all_goals first | go_end0 | refine bodyPost_ret (results_none rfl _ _ _) rfl ?_
  all_goals refine ⟨rfl, At.eq (by (repeat (first | with_reducible apply At.setCell | with_reducible apply At.drew | with_reducible apply At.drewN)); exact h) ?_, (by repeat (first | with_reducible exact Upd.refl _ _ | with_reducible refine Upd.drew ?_ | with_reducible refine Upd.drewN ?_ _ | (with_reducible refine Upd.setCell ?_ (by simp) _)))⟩
  all_goals clear hf
  all_goals unfold Tone.put
  all_goals (try dsimp only)
  all_goals (try simp only [bne_iff_ne, ne_eq, bne_eq_false_iff_eq, beq_iff_eq, beq_eq_false_iff_ne, decide_eq_true_eq, decide_eq_false_iff_not, Bool.and_eq_true, Bool.or_eq_true, Bool.and_eq_false_iff, Bool.or_eq_false_iff, Bool.not_eq_true', Bool.not_eq_false', Bool.not_eq_true, Bool.not_eq_false] at *)
  all_goals simp only [Int.reduceEq, ↓reduceIte]
  all_goals (repeat' split) <;> first | (exfalso; omega) | (exfalso; simp_all; done) | (simp only [Tone.enc, List.set_cons_zero, List.set_cons_succ]; done) | skip

set_option maxHeartbeats 400000 in
theorem tone_put2 (b : Nat) (t : Tone) (wf : t.WF) (r : Int) (wr : 0 ≤ r ∧ r ≤ 255) (w : World) (hT : Tabs w) (hb : 4 < b) (h : At w b t.enc 83) :
    Calls Tryd.prog 29 #[.pointer (some ⟨b, 0, none⟩), .int .u8 2, .int .u8 r] w (Turns b (t.put 2 r).enc 83 (.tuple #[]) w) := by
  have hf : ∀ i, w.frozen? ⟨b, i, none⟩ = false := h.frozen
  have c0 : _ = some (Value.int .u8 t.kind) := h.cell 0
  have c1 : _ = some (Value.bool t.on) := h.cell 1
  have c2 : _ = some (Value.int .u8 t.r0) := h.cell 2
  have c3 : _ = some (Value.int .u8 t.r1) := h.cell 3
  have c4 : _ = some (Value.int .u8 t.r2) := h.cell 4
  have c5 : _ = some (Value.int .u8 t.r3) := h.cell 5
  have c6 : _ = some (Value.int .u8 t.length) := h.cell 6
  have c7 : _ = some (Value.int .u16 t.period) := h.cell 7
  have c8 : _ = some (Value.int .u16 t.timer) := h.cell 8
  have c9 : _ = some (Value.int .u8 t.step) := h.cell 9
  have c10 : _ = some (Value.bool t.begins) := h.cell 10
  have c11 : _ = some (Value.int .u8 t.level) := h.cell 11
  have c12 : _ = some (Value.int .u8 t.count) := h.cell 12
  have c13 : _ = some (Value.int .u8 t.sweep) := h.cell 13
  have c14 : _ = some (Value.bool t.swept) := h.cell 14
  have c15 : _ = some (Value.int .u8 t.line) := h.cell 15
  have c16 : _ = some (Value.int .u16 t.row) := h.cell 16
  have wkind := wf.kind
  have wr0 := wf.r0
  have wr1 := wf.r1
  have wr2 := wf.r2
  have wr3 := wf.r3
  have wlength := wf.length
  have wperiod := wf.period
  have wtimer := wf.timer
  have wstep := wf.step
  have wsmall := wf.small
  have wlevel := wf.level
  have wcount := wf.count
  have wsweep := wf.sweep
  have wline := wf.line
  have wrow := wf.row
  have hb0 : ¬ b = 0 := by omega
  have hb1 : ¬ 0 = b := by omega
  have hn0 : 0 ≤ r % 16 := by omega
  have hn1 : r % 16 < 16 := by omega
  have hn2 : r % 16 ≤ 15 := by omega
  have c0n := hT.noises (r % 16) hn0 hn1
  have hnb := noiseOf_bd (r % 16) hn0 hn2
  have er15 := and15 r wr.1 wr.2
  have e255 := andNot255 t.period wperiod.1 (by omega)
  have eor := or_low t.period r wperiod.1 (by omega) wr.1 wr.2
  clear hT
  go_enter Tryd.func29, Tryd.ntmps29
  go_wp2
  all_goals first | go_end0 | refine bodyPost_ret (results_none rfl _ _ _) rfl ?_
  all_goals refine ⟨rfl, At.eq (by (repeat (first | with_reducible apply At.setCell | with_reducible apply At.drew | with_reducible apply At.drewN)); exact h) ?_, (by repeat (first | with_reducible exact Upd.refl _ _ | with_reducible refine Upd.drew ?_ | with_reducible refine Upd.drewN ?_ _ | (with_reducible refine Upd.setCell ?_ (by simp) _)))⟩
  all_goals clear hf
  all_goals unfold Tone.put
  all_goals (try dsimp only)
  all_goals (try simp only [bne_iff_ne, ne_eq, bne_eq_false_iff_eq, beq_iff_eq, beq_eq_false_iff_ne, decide_eq_true_eq, decide_eq_false_iff_not, Bool.and_eq_true, Bool.or_eq_true, Bool.and_eq_false_iff, Bool.or_eq_false_iff, Bool.not_eq_true', Bool.not_eq_false', Bool.not_eq_true, Bool.not_eq_false] at *)
  all_goals simp only [Int.reduceEq, ↓reduceIte]
  all_goals (repeat' split) <;> first | (exfalso; omega) | (exfalso; simp_all; done) | (simp only [Tone.enc, List.set_cons_zero, List.set_cons_succ]; done) | skip

set_option maxHeartbeats 400000 in
theorem tone_put3 (b : Nat) (t : Tone) (wf : t.WF) (r : Int) (wr : 0 ≤ r ∧ r ≤ 255) (w : World) (hT : Tabs w) (hb : 4 < b) (h : At w b t.enc 83) :
    Calls Tryd.prog 29 #[.pointer (some ⟨b, 0, none⟩), .int .u8 3, .int .u8 r] w (Turns b (t.put 3 r).enc 83 (.tuple #[]) w) := by
  have hT2 : ∀ u, Tabs (w.setCell ⟨b, 5, none⟩ u) := fun u => ⟨fun n h0 h1 => by rw [← hT.lens n h0 h1]; exact World.cell?_of_block (w := w) (Below.heap_setCell _ _ _ _ (by simp; omega)), fun n h0 h1 => by rw [← hT.noises n h0 h1]; exact World.cell?_of_block (w := w) (Below.heap_setCell _ _ _ _ (by simp; omega)), fun n h0 h1 => by rw [← hT.duties n h0 h1]; exact World.cell?_of_block (w := w) (Below.heap_setCell _ _ _ _ (by simp; omega))⟩
  have hf : ∀ i, w.frozen? ⟨b, i, none⟩ = false := h.frozen
  have c5 : _ = some (Value.int .u8 t.r3) := h.cell 5
  have wf' : Tone.WF { t with r3 := r } := ⟨wf.kind, wf.r0, wf.r1, wf.r2, wr, wf.length, wf.period, wf.timer, wf.step, wf.small, wf.level, wf.count, wf.sweep, wf.line, wf.row⟩
  go_enter Tryd.func29, Tryd.ntmps29
  go_wp2_with fail
  refine (tone_high b { t with r3 := r } wf' r wr _ (hT2 _) (At.eq (by (repeat (first | with_reducible apply At.setCell | with_reducible apply At.drew | with_reducible apply At.drewN)); exact h) ?_)).mono ?_
  · simp only [Tone.enc, List.set_cons_zero, List.set_cons_succ]
  rintro e w1 ⟨rfl, hA, hU⟩
  go_wp2
  go_end0
  exact ⟨rfl, hA, ((Upd.refl _ _).setCell (by simp) _).trans hU⟩
end Go.Proofs.YtonhhjihmbcfnaaDoor

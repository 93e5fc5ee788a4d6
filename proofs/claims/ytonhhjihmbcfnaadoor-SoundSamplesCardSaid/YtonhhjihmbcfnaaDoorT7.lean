import Derived.Lib.Hide
import Derived.Test.YtonhhjihmbcfnaaDoorT1
namespace Go.Proofs.YtonhhjihmbcfnaaDoor
open Go.RowKit
set_option linter.unusedSimpArgs false
set_option linter.unusedVariables false

set_option maxHeartbeats 1000000 in
theorem out_tri (b : Nat) (t : Tone) (wf : t.WF) (w : World) (h : At w b t.enc 83) (h2 : t.kind = 2) :
    Calls Tryd.prog 40 #[.pointer (some ⟨b, 0, none⟩)] w (Tells (.int .u8 t.out) w) := by
  have c0 : _ = some (Value.int .u8 t.kind) := h.cell 0
  have c6 : _ = some (Value.int .u8 t.length) := h.cell 6
  have c9 : _ = some (Value.int .u8 t.step) := h.cell 9
  have c16 : _ = some (Value.int .u16 t.row) := h.cell 16
  have wkind := wf.kind
  have wr0 := wf.r0
  have wr1 := wf.r1
  have wr2 := wf.r2
  have wr3 := wf.r3
  have wlength := wf.length
  have wperiod := wf.period
  have wtimer := wf.timer
  have wstep := wf.step
  have wsmall := wf.small
  have wlevel := wf.level
  have wcount := wf.count
  have wsweep := wf.sweep
  have wline := wf.line
  have wrow := wf.row
  go_enter Tryd.func40, Tryd.ntmps40
  go_wp2
  all_goals go_ret
  all_goals refine ⟨?_, (by repeat (first | with_reducible exact Same.refl _ | with_reducible apply Same.drewN | with_reducible apply Same.drew))⟩
  all_goals (try simp only [bne_iff_ne, ne_eq, bne_eq_false_iff_eq, beq_iff_eq, beq_eq_false_iff_ne, decide_eq_true_eq, decide_eq_false_iff_not, Bool.and_eq_true, Bool.or_eq_true, Bool.and_eq_false_iff, Bool.or_eq_false_iff, Bool.not_eq_true', Bool.not_eq_false', Bool.not_eq_true, Bool.not_eq_false] at *)
  all_goals refine ret_int ?_
  all_goals unfold Tone.out
  all_goals simp only [h2, if_true]
  all_goals (repeat' split) <;> first | rfl | omega

set_option maxHeartbeats 1000000 in
theorem out_still (b : Nat) (t : Tone) (wf : t.WF) (w : World) (h : At w b t.enc 83) (h2 : ¬ t.kind = 2) (h0 : t.length = 0) :
    Calls Tryd.prog 40 #[.pointer (some ⟨b, 0, none⟩)] w (Tells (.int .u8 t.out) w) := by
  have c0 : _ = some (Value.int .u8 t.kind) := h.cell 0
  have c6 : _ = some (Value.int .u8 t.length) := h.cell 6
  have c9 : _ = some (Value.int .u8 t.step) := h.cell 9
  have c16 : _ = some (Value.int .u16 t.row) := h.cell 16
  have wkind := wf.kind
  have wr0 := wf.r0
  have wr1 := wf.r1
  have wr2 := wf.r2
  have wr3 := wf.r3
  have wlength := wf.length
  have wperiod := wf.period
  have wtimer := wf.timer
  have wstep := wf.step
  have wsmall := wf.small
  have wlevel := wf.level
  have wcount := wf.count
  have wsweep := wf.sweep
  have wline := wf.line
  have wrow := wf.row
  go_enter Tryd.func40, Tryd.ntmps40
  go_wp2
  all_goals go_ret
  all_goals refine ⟨?_, (by repeat (first | with_reducible exact Same.refl _ | with_reducible apply Same.drewN | with_reducible apply Same.drew))⟩
  all_goals (try simp only [bne_iff_ne, ne_eq, bne_eq_false_iff_eq, beq_iff_eq, beq_eq_false_iff_ne, decide_eq_true_eq, decide_eq_false_iff_not, Bool.and_eq_true, Bool.or_eq_true, Bool.and_eq_false_iff, Bool.or_eq_false_iff, Bool.not_eq_true', Bool.not_eq_false', Bool.not_eq_true, Bool.not_eq_false] at *)
  all_goals refine ret_int ?_
  all_goals unfold Tone.out
  all_goals simp only [h2, h0, if_true, if_false]
  all_goals (repeat' split) <;> first | rfl | omega

set_option maxHeartbeats 1000000 in
theorem out_noise (b : Nat) (t : Tone) (wf : t.WF) (w : World) (h : At w b t.enc 83) (h2 : ¬ t.kind = 2) (h0 : ¬ t.length = 0) (h3 : t.kind = 3) (hr : t.row % 2 = 1) :
    Calls Tryd.prog 40 #[.pointer (some ⟨b, 0, none⟩)] w (Tells (.int .u8 t.out) w) := by
  have c0 : _ = some (Value.int .u8 t.kind) := h.cell 0
  have c6 : _ = some (Value.int .u8 t.length) := h.cell 6
  have c9 : _ = some (Value.int .u8 t.step) := h.cell 9
  have c16 : _ = some (Value.int .u16 t.row) := h.cell 16
  have wkind := wf.kind
  have wr0 := wf.r0
  have wr1 := wf.r1
  have wr2 := wf.r2
  have wr3 := wf.r3
  have wlength := wf.length
  have wperiod := wf.period
  have wtimer := wf.timer
  have wstep := wf.step
  have wsmall := wf.small
  have wlevel := wf.level
  have wcount := wf.count
  have wsweep := wf.sweep
  have wline := wf.line
  have wrow := wf.row
  have er : bits .and .u16 t.row 1 = t.row % 2 := and1w _ (by omega) (by omega)
  go_enter Tryd.func40, Tryd.ntmps40
  go_wp2
  all_goals go_ret
  all_goals refine ⟨?_, (by repeat (first | with_reducible exact Same.refl _ | with_reducible apply Same.drewN | with_reducible apply Same.drew))⟩
  all_goals (try simp only [bne_iff_ne, ne_eq, bne_eq_false_iff_eq, beq_iff_eq, beq_eq_false_iff_ne, decide_eq_true_eq, decide_eq_false_iff_not, Bool.and_eq_true, Bool.or_eq_true, Bool.and_eq_false_iff, Bool.or_eq_false_iff, Bool.not_eq_true', Bool.not_eq_false', Bool.not_eq_true, Bool.not_eq_false] at *)
  all_goals refine ret_int ?_
  all_goals unfold Tone.out
  all_goals simp only [h3, h0, hr, if_true, if_false, Int.reduceEq]
  all_goals (repeat' split) <;> first | rfl | omega

set_option maxHeartbeats 1000000 in
theorem out_noise2 (b : Nat) (t : Tone) (wf : t.WF) (w : World) (h : At w b t.enc 83) (h2 : ¬ t.kind = 2) (h0 : ¬ t.length = 0) (h3 : t.kind = 3) (hr : ¬ t.row % 2 = 1) :
    Calls Tryd.prog 40 #[.pointer (some ⟨b, 0, none⟩)] w (Tells (.int .u8 t.out) w) := by
  have c0 : _ = some (Value.int .u8 t.kind) := h.cell 0
  have c6 : _ = some (Value.int .u8 t.length) := h.cell 6
  have c9 : _ = some (Value.int .u8 t.step) := h.cell 9
  have c16 : _ = some (Value.int .u16 t.row) := h.cell 16
  have wkind := wf.kind
  have wr0 := wf.r0
  have wr1 := wf.r1
  have wr2 := wf.r2
  have wr3 := wf.r3
  have wlength := wf.length
  have wperiod := wf.period
  have wtimer := wf.timer
  have wstep := wf.step
  have wsmall := wf.small
  have wlevel := wf.level
  have wcount := wf.count
  have wsweep := wf.sweep
  have wline := wf.line
  have wrow := wf.row
  have er : bits .and .u16 t.row 1 = t.row % 2 := and1w _ (by omega) (by omega)
  have hr2 : t.row % 2 = 0 := by omega
  go_enter Tryd.func40, Tryd.ntmps40
  go_wp2_with fail
  all_goals (try go_quiet (fail))
  go_wp2_with fail
  refine (tone_volume b t wf _ (by exact h)).mono ?_
  rintro e w1 ⟨rfl, n1, rfl⟩
  go_wp2
  all_goals go_ret
  all_goals refine ⟨?_, (by repeat (first | with_reducible exact Same.refl _ | with_reducible apply Same.drewN | with_reducible apply Same.drew))⟩
  all_goals (try simp only [bne_iff_ne, ne_eq, bne_eq_false_iff_eq, beq_iff_eq, beq_eq_false_iff_ne, decide_eq_true_eq, decide_eq_false_iff_not, Bool.and_eq_true, Bool.or_eq_true, Bool.and_eq_false_iff, Bool.or_eq_false_iff, Bool.not_eq_true', Bool.not_eq_false', Bool.not_eq_true, Bool.not_eq_false] at *)
  all_goals refine ret_int ?_
  all_goals unfold Tone.out
  all_goals simp only [h3, h0, hr, if_true, if_false, Int.reduceEq]
  all_goals (repeat' split) <;> first | rfl | omega

set_option maxHeartbeats 1000000 in
theorem out_mute (b : Nat) (t : Tone) (wf : t.WF) (w : World) (h : At w b t.enc 83) (h2 : ¬ t.kind = 2) (h0 : ¬ t.length = 0) (h3 : ¬ t.kind = 3) (hm : t.mute = true) :
    Calls Tryd.prog 40 #[.pointer (some ⟨b, 0, none⟩)] w (Tells (.int .u8 t.out) w) := by
  have c0 : _ = some (Value.int .u8 t.kind) := h.cell 0
  have c6 : _ = some (Value.int .u8 t.length) := h.cell 6
  have c9 : _ = some (Value.int .u8 t.step) := h.cell 9
  have c16 : _ = some (Value.int .u16 t.row) := h.cell 16
  have wkind := wf.kind
  have wr0 := wf.r0
  have wr1 := wf.r1
  have wr2 := wf.r2
  have wr3 := wf.r3
  have wlength := wf.length
  have wperiod := wf.period
  have wtimer := wf.timer
  have wstep := wf.step
  have wsmall := wf.small
  have wlevel := wf.level
  have wcount := wf.count
  have wsweep := wf.sweep
  have wline := wf.line
  have wrow := wf.row
  have hn3 : (t.kind != 3) = true := by simp [h3]
  have HM2 : Hid (t.mute = true) := hm
  have HM : Hid (∀ W, At W b t.enc 83 → Calls Tryd.prog 60 #[.pointer (some ⟨b, 0, none⟩)] W (Tells (.bool true) W)) := by
    intro W hW; have := tone_mute b t wf W hW; rw [hm] at this; exact this
  clear hm
  go_enter Tryd.func40, Tryd.ntmps40
  go_wp2_with fail
  go_quiet ((go_at_call 60; exact Tells.quiet (HM.out _ h)))
  go_wp2
  all_goals go_ret
  all_goals refine ⟨?_, (by repeat (first | with_reducible exact Same.refl _ | with_reducible apply Same.drewN | with_reducible apply Same.drew))⟩
  all_goals (try simp only [bne_iff_ne, ne_eq, bne_eq_false_iff_eq, beq_iff_eq, beq_eq_false_iff_ne, decide_eq_true_eq, decide_eq_false_iff_not, Bool.and_eq_true, Bool.or_eq_true, Bool.and_eq_false_iff, Bool.or_eq_false_iff, Bool.not_eq_true', Bool.not_eq_false', Bool.not_eq_true, Bool.not_eq_false] at *)
  all_goals refine ret_int ?_
  all_goals unfold Tone.out
  all_goals simp only [h2, h3, h0, HM2.out, if_true, if_false, true_or]
  all_goals (repeat' split) <;> first | rfl | omega

set_option maxHeartbeats 1000000 in
theorem out_duty (b : Nat) (t : Tone) (wf : t.WF) (w : World) (h : At w b t.enc 83) (hT : Tabs w) (hb : 4 < b) (h2 : ¬ t.kind = 2) (h0 : ¬ t.length = 0) (h3 : ¬ t.kind = 3) (hm : t.mute = false) (hdu : t.duty = false) :
    Calls Tryd.prog 40 #[.pointer (some ⟨b, 0, none⟩)] w (Tells (.int .u8 t.out) w) := by
  have c0 : _ = some (Value.int .u8 t.kind) := h.cell 0
  have c2 : _ = some (Value.int .u8 t.r0) := h.cell 2
  have c6 : _ = some (Value.int .u8 t.length) := h.cell 6
  have c9 : _ = some (Value.int .u8 t.step) := h.cell 9
  have c16 : _ = some (Value.int .u16 t.row) := h.cell 16
  have wkind := wf.kind
  have wr0 := wf.r0
  have wr1 := wf.r1
  have wr2 := wf.r2
  have wr3 := wf.r3
  have wlength := wf.length
  have wperiod := wf.period
  have wtimer := wf.timer
  have wstep := wf.step
  have wsmall := wf.small
  have wlevel := wf.level
  have wcount := wf.count
  have wsweep := wf.sweep
  have wline := wf.line
  have wrow := wf.row
  have hn3 : (t.kind != 3) = true := by simp [h3]
  have hq0 : 0 ≤ t.r0 / 64 := by omega
  have hq1 : t.r0 / 64 < 4 := by omega
  have hs8 : t.step ≤ 8 := by have := wsmall (by omega); omega
  have c3d := hT.duties (t.r0 / 64) hq0 hq1
  have hd : (bits .and .u8 (IntKind.u8.wrap (dutyOf (t.r0 / 64) * 2 ^ t.step.toNat)) 128 == 0) = !t.duty := by
    have hw : IntKind.u8.wrap (dutyOf (t.r0 / 64) * 2 ^ t.step.toNat) = (dutyOf (t.r0 / 64) * 2 ^ t.step.toNat) % 256 := by simp [IntKind.wrap, IntKind.bits, IntKind.signed]
    rw [hw, and128 _ (by omega) (by omega), Tone.duty]
    generalize dutyOf (t.r0 / 64) * 2 ^ t.step.toNat = x
    rw [Bool.eq_iff_iff]
    simp only [beq_iff_eq, Bool.not_eq_true', decide_eq_false_iff_not]
    omega
  clear hT
  go_enter Tryd.func40, Tryd.ntmps40
  go_wp2_with fail
  go_quiet ((go_at_call 60; exact Tells.quiet (tone_mute b t wf _ h)))
  go_wp2
  all_goals go_ret
  all_goals refine ⟨?_, (by repeat (first | with_reducible exact Same.refl _ | with_reducible apply Same.drewN | with_reducible apply Same.drew))⟩
  all_goals (try simp only [bne_iff_ne, ne_eq, bne_eq_false_iff_eq, beq_iff_eq, beq_eq_false_iff_ne, decide_eq_true_eq, decide_eq_false_iff_not, Bool.and_eq_true, Bool.or_eq_true, Bool.and_eq_false_iff, Bool.or_eq_false_iff, Bool.not_eq_true', Bool.not_eq_false', Bool.not_eq_true, Bool.not_eq_false] at *)
  all_goals refine ret_int ?_
  all_goals unfold Tone.out
  all_goals simp only [h2, h3, h0, hdu, if_true, if_false, or_true]
  all_goals (repeat' split) <;> first | rfl | omega

set_option maxHeartbeats 1000000 in
theorem out_loud (b : Nat) (t : Tone) (wf : t.WF) (w : World) (h : At w b t.enc 83) (hT : Tabs w) (hb : 4 < b) (h2 : ¬ t.kind = 2) (h0 : ¬ t.length = 0) (h3 : ¬ t.kind = 3) (hm : t.mute = false) (hdu : t.duty = true) :
    Calls Tryd.prog 40 #[.pointer (some ⟨b, 0, none⟩)] w (Tells (.int .u8 t.out) w) := by
  have c0 : _ = some (Value.int .u8 t.kind) := h.cell 0
  have c2 : _ = some (Value.int .u8 t.r0) := h.cell 2
  have c6 : _ = some (Value.int .u8 t.length) := h.cell 6
  have c9 : _ = some (Value.int .u8 t.step) := h.cell 9
  have c16 : _ = some (Value.int .u16 t.row) := h.cell 16
  have wkind := wf.kind
  have wr0 := wf.r0
  have wr1 := wf.r1
  have wr2 := wf.r2
  have wr3 := wf.r3
  have wlength := wf.length
  have wperiod := wf.period
  have wtimer := wf.timer
  have wstep := wf.step
  have wsmall := wf.small
  have wlevel := wf.level
  have wcount := wf.count
  have wsweep := wf.sweep
  have wline := wf.line
  have wrow := wf.row
  have hn3 : (t.kind != 3) = true := by simp [h3]
  have hq0 : 0 ≤ t.r0 / 64 := by omega
  have hq1 : t.r0 / 64 < 4 := by omega
  have hs8 : t.step ≤ 8 := by have := wsmall (by omega); omega
  have c3d := hT.duties (t.r0 / 64) hq0 hq1
  have hd : (bits .and .u8 (IntKind.u8.wrap (dutyOf (t.r0 / 64) * 2 ^ t.step.toNat)) 128 == 0) = !t.duty := by
    have hw : IntKind.u8.wrap (dutyOf (t.r0 / 64) * 2 ^ t.step.toNat) = (dutyOf (t.r0 / 64) * 2 ^ t.step.toNat) % 256 := by simp [IntKind.wrap, IntKind.bits, IntKind.signed]
    rw [hw, and128 _ (by omega) (by omega), Tone.duty]
    generalize dutyOf (t.r0 / 64) * 2 ^ t.step.toNat = x
    rw [Bool.eq_iff_iff]
    simp only [beq_iff_eq, Bool.not_eq_true', decide_eq_false_iff_not]
    omega
  clear hT
  go_enter Tryd.func40, Tryd.ntmps40
  go_wp2_with fail
  go_quiet ((go_at_call 60; exact Tells.quiet (tone_mute b t wf _ h)))
  go_wp2_with fail
  refine (tone_volume b t wf _ (by exact h)).mono ?_
  rintro e w1 ⟨rfl, n1, rfl⟩
  go_wp2
  all_goals go_ret
  all_goals refine ⟨?_, (by repeat (first | with_reducible exact Same.refl _ | with_reducible apply Same.drewN | with_reducible apply Same.drew))⟩
  all_goals (try simp only [bne_iff_ne, ne_eq, bne_eq_false_iff_eq, beq_iff_eq, beq_eq_false_iff_ne, decide_eq_true_eq, decide_eq_false_iff_not, Bool.and_eq_true, Bool.or_eq_true, Bool.and_eq_false_iff, Bool.or_eq_false_iff, Bool.not_eq_true', Bool.not_eq_false', Bool.not_eq_true, Bool.not_eq_false] at *)
  all_goals refine ret_int ?_
  all_goals unfold Tone.out
  all_goals simp only [h2, h3, h0, hdu, hm, if_false, Bool.false_eq_true, reduceCtorEq, or_self]
  all_goals (repeat' split) <;> first | rfl | omega

theorem tone_out (b : Nat) (t : Tone) (wf : t.WF) (w : World) (hT : Tabs w) (hb : 4 < b) (h : At w b t.enc 83) :
    Calls Tryd.prog 40 #[.pointer (some ⟨b, 0, none⟩)] w (Tells (.int .u8 t.out) w) := by
  by_cases h2 : t.kind = 2
  · exact out_tri b t wf w h h2
  by_cases h0 : t.length = 0
  · exact out_still b t wf w h h2 h0
  by_cases h3 : t.kind = 3
  · by_cases hr : t.row % 2 = 1
    · exact out_noise b t wf w h h2 h0 h3 hr
    · exact out_noise2 b t wf w h h2 h0 h3 hr
  cases hm : t.mute
  · cases hd : t.duty
    · exact out_duty b t wf w h hT hb h2 h0 h3 hm hd
    · exact out_loud b t wf w h hT hb h2 h0 h3 hm hd
  · exact out_mute b t wf w h h2 h0 h3 hm
end Go.Proofs.YtonhhjihmbcfnaaDoor

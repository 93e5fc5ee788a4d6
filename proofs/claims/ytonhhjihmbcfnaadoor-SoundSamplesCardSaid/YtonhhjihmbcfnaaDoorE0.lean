import Derived.Lib.Hide
import Derived.Test.YtonhhjihmbcfnaaDoorD1
namespace Go.Proofs.YtonhhjihmbcfnaaDoor
open Go.RowKit
set_option linter.unusedSimpArgs false
set_option linter.unusedVariables false

theorem idx44 (a b c d : Value) (w : World) : (Instr.index 44 (.agg #[a, b, c, d]) (.int .i64 0)).run Tryd.prog w = .ok a w ∧ (Instr.index 44 (.agg #[a, b, c, d]) (.int .i64 1)).run Tryd.prog w = .ok b w
    ∧ (Instr.index 44 (.agg #[a, b, c, d]) (.int .i64 2)).run Tryd.prog w = .ok c w ∧ (Instr.index 44 (.agg #[a, b, c, d]) (.int .i64 3)).run Tryd.prog w = .ok d w := by
  refine ⟨?_, ?_, ?_, ?_⟩ <;> kernel_rfl

set_option maxHeartbeats 1000000 in
theorem tick_0_0 (k : Hd) (ha : k.Apart) (s : Sound) (wf : s.WF) (hi : s.In) (w : World) (hT : Tabs2 w) (h : SoundAt w k s) (hm : s.manner = 0) (hc : s.count + 1 = 7457) :
    Calls Tryd.prog 35 #[k.ptr] w (SndTurns k s.tick (.tuple #[]) w) := by
  have hf : ∀ i, w.frozen? ⟨k.b, i, none⟩ = false := h.snd.frozen
  have c18 : _ = some (Value.int .i64 s.count) := h.snd.cell 18
  have c19 : _ = some (Value.int .i64 s.manner) := h.snd.cell 19
  have c20 : _ = some (Value.bool s.bars) := h.snd.cell 20
  have c21 : _ = some (Value.bool s.irq) := h.snd.cell 21
  have wcount := wf.count
  have hb1 : ¬ k.b = 1 := by have := ha.gb; omega
  have hb2 : ¬ 1 = k.b := by have := ha.gb; omega
  have cw0 : w.cell? ⟨1, 0, none⟩ = some (.int .i64 7457) := hT.when0
  have cw1 : w.cell? ⟨1, 1, none⟩ = some (.int .i64 14913) := hT.when1
  have cw2 : w.cell? ⟨1, 2, none⟩ = some (.int .i64 22371) := hT.when2
  have cw3 : w.cell? ⟨1, 3, none⟩ = some (.int .i64 29829) := hT.when3
  have i0 := fun w => (idx44 (Value.int .i64 7457) (Value.int .i64 14913) (Value.int .i64 22371) (Value.int .i64 29829) w).1
  have i1 := fun w => (idx44 (Value.int .i64 7457) (Value.int .i64 14913) (Value.int .i64 22371) (Value.int .i64 29829) w).2.1
  have i2 := fun w => (idx44 (Value.int .i64 7457) (Value.int .i64 14913) (Value.int .i64 22371) (Value.int .i64 29829) w).2.2.1
  have i3 := fun w => (idx44 (Value.int .i64 7457) (Value.int .i64 14913) (Value.int .i64 22371) (Value.int .i64 29829) w).2.2.2
  have et : s.tick = Sound.quarter { s with count := s.count + 1 } := by
    have e : s.count = 7456 := by omega
    unfold Sound.tick lastOf
    simp [hm, e]
  have Ht := Lib.hid et
  clear et
  unfold Hd.ptr
  go_enter Tryd.func35, Tryd.ntmps35
  go_wp2_with fail
  refine wp_loop_rounds 5 ?_
  rw [rounds_succ]
  go_wp2_with fail
  refine (snd_all_quarter k ha { s with count := s.count + 1 } (wf.counted (n := s.count + 1) (by omega)) _ (SoundAt.setB ha h (At.eq (by (repeat (first | with_reducible apply At.setCell | with_reducible apply At.drew | with_reducible apply At.drewN)); exact h.snd) ?_) (by repeat (first | with_reducible exact Upd.refl _ _ | with_reducible refine Upd.drew ?_ | with_reducible refine Upd.drewN ?_ _ | (with_reducible refine Upd.setCell ?_ (by simp) _))) rfl rfl rfl rfl)).mono ?_
  · simp only [Sound.enc, List.set_cons_zero, List.set_cons_succ, hc]
  rintro e w1 ⟨rfl, hA, hU⟩
  have hU' : Upd k.blocks w w1 := Upd.trans (Upd.inB (by repeat (first | with_reducible exact Upd.refl _ _ | with_reducible refine Upd.drew ?_ | with_reducible refine Upd.drewN ?_ _ | (with_reducible refine Upd.setCell ?_ (by simp) _)))) hU
  clear hU
  clear hf c18 c19 c20 c21 cw0 cw1 cw2 cw3
  have hf : ∀ i, w1.frozen? ⟨k.b, i, none⟩ = false := hA.snd.frozen
  have d18 : w1.cell? ⟨k.b, 18, none⟩ = some (Value.int .i64 7457) := by rw [← hc]; exact hA.snd.cell 18
  have d19 : w1.cell? ⟨k.b, 19, none⟩ = some (Value.int .i64 0) := by rw [← hm]; exact hA.snd.cell 19
  have d20 : w1.cell? ⟨k.b, 20, none⟩ = some (Value.bool s.bars) := hA.snd.cell 20
  have d21 : w1.cell? ⟨k.b, 21, none⟩ = some (Value.bool s.irq) := hA.snd.cell 21
  have hT2 := hT.upd hU' (Hd.big ha)
  have dw0 : w1.cell? ⟨1, 0, none⟩ = some (.int .i64 7457) := hT2.when0
  have dw1 : w1.cell? ⟨1, 1, none⟩ = some (.int .i64 14913) := hT2.when1
  have dw2 : w1.cell? ⟨1, 2, none⟩ = some (.int .i64 22371) := hT2.when2
  have dw3 : w1.cell? ⟨1, 3, none⟩ = some (.int .i64 29829) := hT2.when3
  clear hT2 hT
  cases hi : s.irq
  all_goals go_wp2_with fail
  all_goals rw [rounds_succ]
  all_goals go_wp2_with fail
  all_goals rw [rounds_succ]
  all_goals go_wp2_with fail
  all_goals rw [rounds_succ]
  all_goals go_wp2_with fail
  all_goals rw [rounds_succ]
  all_goals go_wp2_with fail
  all_goals go_quiet (fail)
  all_goals go_wp2
  all_goals first | go_end0 | refine bodyPost_ret (results_none rfl _ _ _) rfl ?_
  all_goals rw [Ht.out]
  all_goals refine ⟨rfl, SoundAt.setB ha hA (At.eq (by (repeat (first | with_reducible apply At.setCell | with_reducible apply At.drew | with_reducible apply At.drewN)); exact hA.snd) ?_) (by repeat (first | with_reducible exact Upd.refl _ _ | with_reducible refine Upd.drew ?_ | with_reducible refine Upd.drewN ?_ _ | (with_reducible refine Upd.setCell ?_ (by simp) _))) rfl rfl rfl rfl, Upd.trans hU' (Upd.inB (by repeat (first | with_reducible exact Upd.refl _ _ | with_reducible refine Upd.drew ?_ | with_reducible refine Upd.drewN ?_ _ | (with_reducible refine Upd.setCell ?_ (by simp) _))))⟩
  all_goals simp only [Sound.enc, List.set_cons_zero, List.set_cons_succ, Sound.half, Sound.quarter, hi]

set_option maxHeartbeats 1000000 in
theorem tick_0_1 (k : Hd) (ha : k.Apart) (s : Sound) (wf : s.WF) (hi : s.In) (w : World) (hT : Tabs2 w) (h : SoundAt w k s) (hm : s.manner = 0) (hc : s.count + 1 = 14913) :
    Calls Tryd.prog 35 #[k.ptr] w (SndTurns k s.tick (.tuple #[]) w) := by
  have hf : ∀ i, w.frozen? ⟨k.b, i, none⟩ = false := h.snd.frozen
  have c18 : _ = some (Value.int .i64 s.count) := h.snd.cell 18
  have c19 : _ = some (Value.int .i64 s.manner) := h.snd.cell 19
  have c20 : _ = some (Value.bool s.bars) := h.snd.cell 20
  have c21 : _ = some (Value.bool s.irq) := h.snd.cell 21
  have wcount := wf.count
  have hb1 : ¬ k.b = 1 := by have := ha.gb; omega
  have hb2 : ¬ 1 = k.b := by have := ha.gb; omega
  have cw0 : w.cell? ⟨1, 0, none⟩ = some (.int .i64 7457) := hT.when0
  have cw1 : w.cell? ⟨1, 1, none⟩ = some (.int .i64 14913) := hT.when1
  have cw2 : w.cell? ⟨1, 2, none⟩ = some (.int .i64 22371) := hT.when2
  have cw3 : w.cell? ⟨1, 3, none⟩ = some (.int .i64 29829) := hT.when3
  have i0 := fun w => (idx44 (Value.int .i64 7457) (Value.int .i64 14913) (Value.int .i64 22371) (Value.int .i64 29829) w).1
  have i1 := fun w => (idx44 (Value.int .i64 7457) (Value.int .i64 14913) (Value.int .i64 22371) (Value.int .i64 29829) w).2.1
  have i2 := fun w => (idx44 (Value.int .i64 7457) (Value.int .i64 14913) (Value.int .i64 22371) (Value.int .i64 29829) w).2.2.1
  have i3 := fun w => (idx44 (Value.int .i64 7457) (Value.int .i64 14913) (Value.int .i64 22371) (Value.int .i64 29829) w).2.2.2
  have et : s.tick = Sound.half (Sound.quarter { s with count := s.count + 1 }) := by
    have e : s.count = 14912 := by omega
    unfold Sound.tick lastOf
    simp [hm, e]
  have Ht := Lib.hid et
  clear et
  unfold Hd.ptr
  go_enter Tryd.func35, Tryd.ntmps35
  go_wp2_with fail
  refine wp_loop_rounds 5 ?_
  rw [rounds_succ]
  go_wp2_with fail
  rw [rounds_succ]
  go_wp2_with fail
  refine (snd_all_quarter k ha { s with count := s.count + 1 } (wf.counted (n := s.count + 1) (by omega)) _ (SoundAt.setB ha h (At.eq (by (repeat (first | with_reducible apply At.setCell | with_reducible apply At.drew | with_reducible apply At.drewN)); exact h.snd) ?_) (by repeat (first | with_reducible exact Upd.refl _ _ | with_reducible refine Upd.drew ?_ | with_reducible refine Upd.drewN ?_ _ | (with_reducible refine Upd.setCell ?_ (by simp) _))) rfl rfl rfl rfl)).mono ?_
  · simp only [Sound.enc, List.set_cons_zero, List.set_cons_succ, hc]
  rintro e w1 ⟨rfl, hA, hU⟩
  have hU' : Upd k.blocks w w1 := Upd.trans (Upd.inB (by repeat (first | with_reducible exact Upd.refl _ _ | with_reducible refine Upd.drew ?_ | with_reducible refine Upd.drewN ?_ _ | (with_reducible refine Upd.setCell ?_ (by simp) _)))) hU
  clear hU
  go_wp2_with fail
  refine (snd_all_half k ha (Sound.quarter { s with count := s.count + 1 }) (wf.counted (n := s.count + 1) (by omega)).quarter _ hA).mono ?_
  rintro e w2 ⟨rfl, hA2, hU2⟩
  have hU2' : Upd k.blocks w w2 := Upd.trans hU' hU2
  clear hU2
  clear hf c18 c19 c20 c21 cw0 cw1 cw2 cw3
  have hf : ∀ i, w2.frozen? ⟨k.b, i, none⟩ = false := hA2.snd.frozen
  have d18 : w2.cell? ⟨k.b, 18, none⟩ = some (Value.int .i64 14913) := by rw [← hc]; exact hA2.snd.cell 18
  have d19 : w2.cell? ⟨k.b, 19, none⟩ = some (Value.int .i64 0) := by rw [← hm]; exact hA2.snd.cell 19
  have d20 : w2.cell? ⟨k.b, 20, none⟩ = some (Value.bool s.bars) := hA2.snd.cell 20
  have d21 : w2.cell? ⟨k.b, 21, none⟩ = some (Value.bool s.irq) := hA2.snd.cell 21
  have hT2 := hT.upd hU2' (Hd.big ha)
  have dw0 : w2.cell? ⟨1, 0, none⟩ = some (.int .i64 7457) := hT2.when0
  have dw1 : w2.cell? ⟨1, 1, none⟩ = some (.int .i64 14913) := hT2.when1
  have dw2 : w2.cell? ⟨1, 2, none⟩ = some (.int .i64 22371) := hT2.when2
  have dw3 : w2.cell? ⟨1, 3, none⟩ = some (.int .i64 29829) := hT2.when3
  clear hT2 hT
  cases hi : s.irq
  all_goals go_wp2_with fail
  all_goals rw [rounds_succ]
  all_goals go_wp2_with fail
  all_goals rw [rounds_succ]
  all_goals go_wp2_with fail
  all_goals rw [rounds_succ]
  all_goals go_wp2_with fail
  all_goals go_quiet (fail)
  all_goals go_wp2
  all_goals first | go_end0 | refine bodyPost_ret (results_none rfl _ _ _) rfl ?_
  all_goals rw [Ht.out]
  all_goals refine ⟨rfl, SoundAt.setB ha hA2 (At.eq (by (repeat (first | with_reducible apply At.setCell | with_reducible apply At.drew | with_reducible apply At.drewN)); exact hA2.snd) ?_) (by repeat (first | with_reducible exact Upd.refl _ _ | with_reducible refine Upd.drew ?_ | with_reducible refine Upd.drewN ?_ _ | (with_reducible refine Upd.setCell ?_ (by simp) _))) rfl rfl rfl rfl, Upd.trans hU2' (Upd.inB (by repeat (first | with_reducible exact Upd.refl _ _ | with_reducible refine Upd.drew ?_ | with_reducible refine Upd.drewN ?_ _ | (with_reducible refine Upd.setCell ?_ (by simp) _))))⟩
  all_goals simp only [Sound.enc, List.set_cons_zero, List.set_cons_succ, Sound.half, Sound.quarter, hi]

set_option maxHeartbeats 1000000 in
theorem tick_0_2 (k : Hd) (ha : k.Apart) (s : Sound) (wf : s.WF) (hi : s.In) (w : World) (hT : Tabs2 w) (h : SoundAt w k s) (hm : s.manner = 0) (hc : s.count + 1 = 22371) :
    Calls Tryd.prog 35 #[k.ptr] w (SndTurns k s.tick (.tuple #[]) w) := by
  have hf : ∀ i, w.frozen? ⟨k.b, i, none⟩ = false := h.snd.frozen
  have c18 : _ = some (Value.int .i64 s.count) := h.snd.cell 18
  have c19 : _ = some (Value.int .i64 s.manner) := h.snd.cell 19
  have c20 : _ = some (Value.bool s.bars) := h.snd.cell 20
  have c21 : _ = some (Value.bool s.irq) := h.snd.cell 21
  have wcount := wf.count
  have hb1 : ¬ k.b = 1 := by have := ha.gb; omega
  have hb2 : ¬ 1 = k.b := by have := ha.gb; omega
  have cw0 : w.cell? ⟨1, 0, none⟩ = some (.int .i64 7457) := hT.when0
  have cw1 : w.cell? ⟨1, 1, none⟩ = some (.int .i64 14913) := hT.when1
  have cw2 : w.cell? ⟨1, 2, none⟩ = some (.int .i64 22371) := hT.when2
  have cw3 : w.cell? ⟨1, 3, none⟩ = some (.int .i64 29829) := hT.when3
  have i0 := fun w => (idx44 (Value.int .i64 7457) (Value.int .i64 14913) (Value.int .i64 22371) (Value.int .i64 29829) w).1
  have i1 := fun w => (idx44 (Value.int .i64 7457) (Value.int .i64 14913) (Value.int .i64 22371) (Value.int .i64 29829) w).2.1
  have i2 := fun w => (idx44 (Value.int .i64 7457) (Value.int .i64 14913) (Value.int .i64 22371) (Value.int .i64 29829) w).2.2.1
  have i3 := fun w => (idx44 (Value.int .i64 7457) (Value.int .i64 14913) (Value.int .i64 22371) (Value.int .i64 29829) w).2.2.2
  have et : s.tick = Sound.quarter { s with count := s.count + 1 } := by
    have e : s.count = 22370 := by omega
    unfold Sound.tick lastOf
    simp [hm, e]
  have Ht := Lib.hid et
  clear et
  unfold Hd.ptr
  go_enter Tryd.func35, Tryd.ntmps35
  go_wp2_with fail
  refine wp_loop_rounds 5 ?_
  rw [rounds_succ]
  go_wp2_with fail
  rw [rounds_succ]
  go_wp2_with fail
  rw [rounds_succ]
  go_wp2_with fail
  refine (snd_all_quarter k ha { s with count := s.count + 1 } (wf.counted (n := s.count + 1) (by omega)) _ (SoundAt.setB ha h (At.eq (by (repeat (first | with_reducible apply At.setCell | with_reducible apply At.drew | with_reducible apply At.drewN)); exact h.snd) ?_) (by repeat (first | with_reducible exact Upd.refl _ _ | with_reducible refine Upd.drew ?_ | with_reducible refine Upd.drewN ?_ _ | (with_reducible refine Upd.setCell ?_ (by simp) _))) rfl rfl rfl rfl)).mono ?_
  · simp only [Sound.enc, List.set_cons_zero, List.set_cons_succ, hc]
  rintro e w1 ⟨rfl, hA, hU⟩
  have hU' : Upd k.blocks w w1 := Upd.trans (Upd.inB (by repeat (first | with_reducible exact Upd.refl _ _ | with_reducible refine Upd.drew ?_ | with_reducible refine Upd.drewN ?_ _ | (with_reducible refine Upd.setCell ?_ (by simp) _)))) hU
  clear hU
  clear hf c18 c19 c20 c21 cw0 cw1 cw2 cw3
  have hf : ∀ i, w1.frozen? ⟨k.b, i, none⟩ = false := hA.snd.frozen
  have d18 : w1.cell? ⟨k.b, 18, none⟩ = some (Value.int .i64 22371) := by rw [← hc]; exact hA.snd.cell 18
  have d19 : w1.cell? ⟨k.b, 19, none⟩ = some (Value.int .i64 0) := by rw [← hm]; exact hA.snd.cell 19
  have d20 : w1.cell? ⟨k.b, 20, none⟩ = some (Value.bool s.bars) := hA.snd.cell 20
  have d21 : w1.cell? ⟨k.b, 21, none⟩ = some (Value.bool s.irq) := hA.snd.cell 21
  have hT2 := hT.upd hU' (Hd.big ha)
  have dw0 : w1.cell? ⟨1, 0, none⟩ = some (.int .i64 7457) := hT2.when0
  have dw1 : w1.cell? ⟨1, 1, none⟩ = some (.int .i64 14913) := hT2.when1
  have dw2 : w1.cell? ⟨1, 2, none⟩ = some (.int .i64 22371) := hT2.when2
  have dw3 : w1.cell? ⟨1, 3, none⟩ = some (.int .i64 29829) := hT2.when3
  clear hT2 hT
  cases hi : s.irq
  all_goals go_wp2_with fail
  all_goals rw [rounds_succ]
  all_goals go_wp2_with fail
  all_goals rw [rounds_succ]
  all_goals go_wp2_with fail
  all_goals go_quiet (fail)
  all_goals go_wp2
  all_goals first | go_end0 | refine bodyPost_ret (results_none rfl _ _ _) rfl ?_
  all_goals rw [Ht.out]
  all_goals refine ⟨rfl, SoundAt.setB ha hA (At.eq (by (repeat (first | with_reducible apply At.setCell | with_reducible apply At.drew | with_reducible apply At.drewN)); exact hA.snd) ?_) (by repeat (first | with_reducible exact Upd.refl _ _ | with_reducible refine Upd.drew ?_ | with_reducible refine Upd.drewN ?_ _ | (with_reducible refine Upd.setCell ?_ (by simp) _))) rfl rfl rfl rfl, Upd.trans hU' (Upd.inB (by repeat (first | with_reducible exact Upd.refl _ _ | with_reducible refine Upd.drew ?_ | with_reducible refine Upd.drewN ?_ _ | (with_reducible refine Upd.setCell ?_ (by simp) _))))⟩
  all_goals simp only [Sound.enc, List.set_cons_zero, List.set_cons_succ, Sound.half, Sound.quarter, hi]

set_option maxHeartbeats 1000000 in
theorem tick_0_3 (k : Hd) (ha : k.Apart) (s : Sound) (wf : s.WF) (hi : s.In) (w : World) (hT : Tabs2 w) (h : SoundAt w k s) (hm : s.manner = 0) (hc : s.count + 1 = 29829) :
    Calls Tryd.prog 35 #[k.ptr] w (SndTurns k s.tick (.tuple #[]) w) := by
  have hf : ∀ i, w.frozen? ⟨k.b, i, none⟩ = false := h.snd.frozen
  have c18 : _ = some (Value.int .i64 s.count) := h.snd.cell 18
  have c19 : _ = some (Value.int .i64 s.manner) := h.snd.cell 19
  have c20 : _ = some (Value.bool s.bars) := h.snd.cell 20
  have c21 : _ = some (Value.bool s.irq) := h.snd.cell 21
  have wcount := wf.count
  have hb1 : ¬ k.b = 1 := by have := ha.gb; omega
  have hb2 : ¬ 1 = k.b := by have := ha.gb; omega
  have cw0 : w.cell? ⟨1, 0, none⟩ = some (.int .i64 7457) := hT.when0
  have cw1 : w.cell? ⟨1, 1, none⟩ = some (.int .i64 14913) := hT.when1
  have cw2 : w.cell? ⟨1, 2, none⟩ = some (.int .i64 22371) := hT.when2
  have cw3 : w.cell? ⟨1, 3, none⟩ = some (.int .i64 29829) := hT.when3
  have i0 := fun w => (idx44 (Value.int .i64 7457) (Value.int .i64 14913) (Value.int .i64 22371) (Value.int .i64 29829) w).1
  have i1 := fun w => (idx44 (Value.int .i64 7457) (Value.int .i64 14913) (Value.int .i64 22371) (Value.int .i64 29829) w).2.1
  have i2 := fun w => (idx44 (Value.int .i64 7457) (Value.int .i64 14913) (Value.int .i64 22371) (Value.int .i64 29829) w).2.2.1
  have i3 := fun w => (idx44 (Value.int .i64 7457) (Value.int .i64 14913) (Value.int .i64 22371) (Value.int .i64 29829) w).2.2.2
  have et : s.tick = { Sound.half (Sound.quarter { s with count := s.count + 1 }) with irq := s.irq || !s.bars } := by
    have e : s.count = 29828 := by omega
    unfold Sound.tick lastOf
    simp [hm, e]
  have Ht := Lib.hid et
  clear et
  unfold Hd.ptr
  go_enter Tryd.func35, Tryd.ntmps35
  go_wp2_with fail
  refine wp_loop_rounds 5 ?_
  rw [rounds_succ]
  go_wp2_with fail
  rw [rounds_succ]
  go_wp2_with fail
  rw [rounds_succ]
  go_wp2_with fail
  rw [rounds_succ]
  go_wp2_with fail
  refine (snd_all_quarter k ha { s with count := s.count + 1 } (wf.counted (n := s.count + 1) (by omega)) _ (SoundAt.setB ha h (At.eq (by (repeat (first | with_reducible apply At.setCell | with_reducible apply At.drew | with_reducible apply At.drewN)); exact h.snd) ?_) (by repeat (first | with_reducible exact Upd.refl _ _ | with_reducible refine Upd.drew ?_ | with_reducible refine Upd.drewN ?_ _ | (with_reducible refine Upd.setCell ?_ (by simp) _))) rfl rfl rfl rfl)).mono ?_
  · simp only [Sound.enc, List.set_cons_zero, List.set_cons_succ, hc]
  rintro e w1 ⟨rfl, hA, hU⟩
  have hU' : Upd k.blocks w w1 := Upd.trans (Upd.inB (by repeat (first | with_reducible exact Upd.refl _ _ | with_reducible refine Upd.drew ?_ | with_reducible refine Upd.drewN ?_ _ | (with_reducible refine Upd.setCell ?_ (by simp) _)))) hU
  clear hU
  go_wp2_with fail
  refine (snd_all_half k ha (Sound.quarter { s with count := s.count + 1 }) (wf.counted (n := s.count + 1) (by omega)).quarter _ hA).mono ?_
  rintro e w2 ⟨rfl, hA2, hU2⟩
  have hU2' : Upd k.blocks w w2 := Upd.trans hU' hU2
  clear hU2
  clear hf c18 c19 c20 c21 cw0 cw1 cw2 cw3
  have hf : ∀ i, w2.frozen? ⟨k.b, i, none⟩ = false := hA2.snd.frozen
  have d18 : w2.cell? ⟨k.b, 18, none⟩ = some (Value.int .i64 29829) := by rw [← hc]; exact hA2.snd.cell 18
  have d19 : w2.cell? ⟨k.b, 19, none⟩ = some (Value.int .i64 0) := by rw [← hm]; exact hA2.snd.cell 19
  have d20 : w2.cell? ⟨k.b, 20, none⟩ = some (Value.bool s.bars) := hA2.snd.cell 20
  have d21 : w2.cell? ⟨k.b, 21, none⟩ = some (Value.bool s.irq) := hA2.snd.cell 21
  have hT2 := hT.upd hU2' (Hd.big ha)
  have dw0 : w2.cell? ⟨1, 0, none⟩ = some (.int .i64 7457) := hT2.when0
  have dw1 : w2.cell? ⟨1, 1, none⟩ = some (.int .i64 14913) := hT2.when1
  have dw2 : w2.cell? ⟨1, 2, none⟩ = some (.int .i64 22371) := hT2.when2
  have dw3 : w2.cell? ⟨1, 3, none⟩ = some (.int .i64 29829) := hT2.when3
  clear hT2 hT
  cases hi : s.irq
  all_goals cases hba : s.bars
  all_goals go_wp2_with fail
  all_goals rw [rounds_succ]
  all_goals go_wp2_with fail
  all_goals go_quiet (fail)
  all_goals go_wp2
  all_goals first | go_end0 | refine bodyPost_ret (results_none rfl _ _ _) rfl ?_
  all_goals rw [Ht.out]
  all_goals refine ⟨rfl, SoundAt.setB ha hA2 (At.eq (by (repeat (first | with_reducible apply At.setCell | with_reducible apply At.drew | with_reducible apply At.drewN)); exact hA2.snd) ?_) (by repeat (first | with_reducible exact Upd.refl _ _ | with_reducible refine Upd.drew ?_ | with_reducible refine Upd.drewN ?_ _ | (with_reducible refine Upd.setCell ?_ (by simp) _))) rfl rfl rfl rfl, Upd.trans hU2' (Upd.inB (by repeat (first | with_reducible exact Upd.refl _ _ | with_reducible refine Upd.drew ?_ | with_reducible refine Upd.drewN ?_ _ | (with_reducible refine Upd.setCell ?_ (by simp) _))))⟩
  all_goals simp only [Sound.enc, List.set_cons_zero, List.set_cons_succ, Sound.half, Sound.quarter, hi, hba, Bool.not_true, Bool.not_false, Bool.or_true, Bool.or_false, Bool.true_or, Bool.false_or]

set_option maxHeartbeats 1000000 in
theorem tick_0_n (k : Hd) (ha : k.Apart) (s : Sound) (wf : s.WF) (hi : s.In) (w : World) (hT : Tabs2 w) (h : SoundAt w k s) (hm : s.manner = 0) (hn0 : ¬ s.count + 1 = 7457) (hn1 : ¬ s.count + 1 = 14913) (hn2 : ¬ s.count + 1 = 22371) (hn3 : ¬ s.count + 1 = 29829) (ho : ¬ 29829 < s.count + 1) :
    Calls Tryd.prog 35 #[k.ptr] w (SndTurns k s.tick (.tuple #[]) w) := by
  have hf : ∀ i, w.frozen? ⟨k.b, i, none⟩ = false := h.snd.frozen
  have c18 : _ = some (Value.int .i64 s.count) := h.snd.cell 18
  have c19 : _ = some (Value.int .i64 s.manner) := h.snd.cell 19
  have c20 : _ = some (Value.bool s.bars) := h.snd.cell 20
  have c21 : _ = some (Value.bool s.irq) := h.snd.cell 21
  have wcount := wf.count
  have hb1 : ¬ k.b = 1 := by have := ha.gb; omega
  have hb2 : ¬ 1 = k.b := by have := ha.gb; omega
  have cw0 : w.cell? ⟨1, 0, none⟩ = some (.int .i64 7457) := hT.when0
  have cw1 : w.cell? ⟨1, 1, none⟩ = some (.int .i64 14913) := hT.when1
  have cw2 : w.cell? ⟨1, 2, none⟩ = some (.int .i64 22371) := hT.when2
  have cw3 : w.cell? ⟨1, 3, none⟩ = some (.int .i64 29829) := hT.when3
  have i0 := fun w => (idx44 (Value.int .i64 7457) (Value.int .i64 14913) (Value.int .i64 22371) (Value.int .i64 29829) w).1
  have i1 := fun w => (idx44 (Value.int .i64 7457) (Value.int .i64 14913) (Value.int .i64 22371) (Value.int .i64 29829) w).2.1
  have i2 := fun w => (idx44 (Value.int .i64 7457) (Value.int .i64 14913) (Value.int .i64 22371) (Value.int .i64 29829) w).2.2.1
  have i3 := fun w => (idx44 (Value.int .i64 7457) (Value.int .i64 14913) (Value.int .i64 22371) (Value.int .i64 29829) w).2.2.2
  have hk0 : (s.count + 1 != 7457) = true := by simp; omega
  have hk1 : (s.count + 1 != 14913) = true := by simp; omega
  have hk2 : (s.count + 1 != 22371) = true := by simp; omega
  have hk3 : (s.count + 1 != 29829) = true := by simp; omega
  have hl : lastOf s.manner = 29829 := by rw [hm]; rfl
  have et : s.tick = { s with count := s.count + 1 } := by
    unfold Sound.tick
    dsimp only
    rw [hl, if_neg (by omega), if_neg (by omega), if_neg (by omega), if_neg ho]
  have Ht := Lib.hid et
  clear et
  clear hl
  clear hn0
  clear hn1
  clear hn2
  clear hn3
  have ho' : s.count + 1 ≤ 29829 := by omega
  unfold Hd.ptr
  go_enter Tryd.func35, Tryd.ntmps35
  go_wp2_with fail
  refine wp_loop_rounds 5 ?_
  rw [rounds_succ]
  go_wp2_with fail
  rw [rounds_succ]
  go_wp2_with fail
  rw [rounds_succ]
  go_wp2_with fail
  rw [rounds_succ]
  go_wp2_with fail
  rw [rounds_succ]
  go_wp2_with fail
  go_quiet (fail)
  go_wp2
  all_goals first | go_end0 | refine bodyPost_ret (results_none rfl _ _ _) rfl ?_
  all_goals rw [Ht.out]
  all_goals refine ⟨rfl, SoundAt.setB ha h (At.eq (by (repeat (first | with_reducible apply At.setCell | with_reducible apply At.drew | with_reducible apply At.drewN)); exact h.snd) ?_) (by repeat (first | with_reducible exact Upd.refl _ _ | with_reducible refine Upd.drew ?_ | with_reducible refine Upd.drewN ?_ _ | (with_reducible refine Upd.setCell ?_ (by simp) _))) rfl rfl rfl rfl, Upd.inB (by repeat (first | with_reducible exact Upd.refl _ _ | with_reducible refine Upd.drew ?_ | with_reducible refine Upd.drewN ?_ _ | (with_reducible refine Upd.setCell ?_ (by simp) _)))⟩
  all_goals simp only [Sound.enc, List.set_cons_zero, List.set_cons_succ]

set_option maxHeartbeats 1000000 in
theorem tick_0_o (k : Hd) (ha : k.Apart) (s : Sound) (wf : s.WF) (hi : s.In) (w : World) (hT : Tabs2 w) (h : SoundAt w k s) (hm : s.manner = 0) (hn0 : ¬ s.count + 1 = 7457) (hn1 : ¬ s.count + 1 = 14913) (hn2 : ¬ s.count + 1 = 22371) (hn3 : ¬ s.count + 1 = 29829) (ho : 29829 < s.count + 1) :
    Calls Tryd.prog 35 #[k.ptr] w (SndTurns k s.tick (.tuple #[]) w) := by
  have hf : ∀ i, w.frozen? ⟨k.b, i, none⟩ = false := h.snd.frozen
  have c18 : _ = some (Value.int .i64 s.count) := h.snd.cell 18
  have c19 : _ = some (Value.int .i64 s.manner) := h.snd.cell 19
  have c20 : _ = some (Value.bool s.bars) := h.snd.cell 20
  have c21 : _ = some (Value.bool s.irq) := h.snd.cell 21
  have wcount := wf.count
  have hb1 : ¬ k.b = 1 := by have := ha.gb; omega
  have hb2 : ¬ 1 = k.b := by have := ha.gb; omega
  have cw0 : w.cell? ⟨1, 0, none⟩ = some (.int .i64 7457) := hT.when0
  have cw1 : w.cell? ⟨1, 1, none⟩ = some (.int .i64 14913) := hT.when1
  have cw2 : w.cell? ⟨1, 2, none⟩ = some (.int .i64 22371) := hT.when2
  have cw3 : w.cell? ⟨1, 3, none⟩ = some (.int .i64 29829) := hT.when3
  have i0 := fun w => (idx44 (Value.int .i64 7457) (Value.int .i64 14913) (Value.int .i64 22371) (Value.int .i64 29829) w).1
  have i1 := fun w => (idx44 (Value.int .i64 7457) (Value.int .i64 14913) (Value.int .i64 22371) (Value.int .i64 29829) w).2.1
  have i2 := fun w => (idx44 (Value.int .i64 7457) (Value.int .i64 14913) (Value.int .i64 22371) (Value.int .i64 29829) w).2.2.1
  have i3 := fun w => (idx44 (Value.int .i64 7457) (Value.int .i64 14913) (Value.int .i64 22371) (Value.int .i64 29829) w).2.2.2
  have hk0 : (s.count + 1 != 7457) = true := by simp; omega
  have hk1 : (s.count + 1 != 14913) = true := by simp; omega
  have hk2 : (s.count + 1 != 22371) = true := by simp; omega
  have hk3 : (s.count + 1 != 29829) = true := by simp; omega
  have hl : lastOf s.manner = 29829 := by rw [hm]; rfl
  have et : s.tick = { s with count := 0 } := by
    unfold Sound.tick
    dsimp only
    rw [hl, if_neg (by omega), if_neg (by omega), if_neg (by omega), if_pos ho]
  have Ht := Lib.hid et
  clear et
  clear hl
  clear hn0
  clear hn1
  clear hn2
  clear hn3
  unfold Hd.ptr
  go_enter Tryd.func35, Tryd.ntmps35
  go_wp2_with fail
  refine wp_loop_rounds 5 ?_
  rw [rounds_succ]
  go_wp2_with fail
  rw [rounds_succ]
  go_wp2_with fail
  rw [rounds_succ]
  go_wp2_with fail
  rw [rounds_succ]
  go_wp2_with fail
  rw [rounds_succ]
  go_wp2_with fail
  go_quiet (fail)
  go_wp2
  all_goals first | go_end0 | refine bodyPost_ret (results_none rfl _ _ _) rfl ?_
  all_goals rw [Ht.out]
  all_goals refine ⟨rfl, SoundAt.setB ha h (At.eq (by (repeat (first | with_reducible apply At.setCell | with_reducible apply At.drew | with_reducible apply At.drewN)); exact h.snd) ?_) (by repeat (first | with_reducible exact Upd.refl _ _ | with_reducible refine Upd.drew ?_ | with_reducible refine Upd.drewN ?_ _ | (with_reducible refine Upd.setCell ?_ (by simp) _))) rfl rfl rfl rfl, Upd.inB (by repeat (first | with_reducible exact Upd.refl _ _ | with_reducible refine Upd.drew ?_ | with_reducible refine Upd.drewN ?_ _ | (with_reducible refine Upd.setCell ?_ (by simp) _)))⟩
  all_goals simp only [Sound.enc, List.set_cons_zero, List.set_cons_succ]
end Go.Proofs.YtonhhjihmbcfnaaDoor

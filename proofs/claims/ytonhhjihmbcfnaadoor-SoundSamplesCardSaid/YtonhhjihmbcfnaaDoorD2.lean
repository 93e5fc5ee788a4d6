import Derived.Lib.Hide
import Derived.Test.YtonhhjihmbcfnaaDoorD1
namespace Go.Proofs.YtonhhjihmbcfnaaDoor
open Go.RowKit
set_option linter.unusedSimpArgs false
set_option linter.unusedVariables false

set_option maxHeartbeats 1000000 in
theorem restart1 (k : Hd) (ha : k.Apart) (s : Sound) (wf : s.WF) (r : Int) (wr : 0 ≤ r ∧ r ≤ 255) (w : World) (h : SoundAt w k s) (h8 : 128 ≤ r) (h64 : r / 64 % 2 = 1) (hi : s.irq = true) :
    Calls Tryd.prog 33 #[k.ptr, .int .u8 r] w (SndTurns k (s.restart r) (.tuple #[]) w) := by
  have hf : ∀ i, w.frozen? ⟨k.b, i, none⟩ = false := h.snd.frozen
  have c18 : _ = some (Value.int .i64 s.count) := h.snd.cell 18
  have c19 : _ = some (Value.int .i64 s.manner) := h.snd.cell 19
  have c20 : _ = some (Value.bool s.bars) := h.snd.cell 20
  have c21 : _ = some (Value.bool s.irq) := h.snd.cell 21
  have e64 := and64 r wr.1 wr.2
  have e128 := and128 r wr.1 wr.2
  have hk64 : (r / 64 % 2 * 64 != 0) = true := by simp; omega
  have h64' := h64
  have hk128 : (r / 128 * 128 != 0) = true := by simp; omega
  unfold Hd.ptr
  go_enter Tryd.func33, Tryd.ntmps33
  go_wp2_with fail
  refine (snd_all_quarter k ha { s with count := 0, manner := 1, bars := true, irq := s.irq && !true } ⟨wf.t0, wf.t1, wf.t2, wf.t3, wf.k0, wf.k1, wf.k2, wf.k3, wf.m, by dsimp only; omega, .inr rfl⟩ _ (SoundAt.setB ha h (At.eq (by (repeat (first | with_reducible apply At.setCell | with_reducible apply At.drew | with_reducible apply At.drewN)); exact h.snd) ?_) (by repeat (first | with_reducible exact Upd.refl _ _ | with_reducible refine Upd.drew ?_ | with_reducible refine Upd.drewN ?_ _ | (with_reducible refine Upd.setCell ?_ (by simp) _))) rfl rfl rfl rfl)).mono ?_
  · simp only [hi, Bool.true_and, Bool.false_and, Bool.not_true, Bool.not_false, Sound.enc, List.set_cons_zero, List.set_cons_succ]
  rintro e w1 ⟨rfl, hA, hU⟩
  go_wp2_with fail
  refine (snd_all_half k ha (Sound.quarter { s with count := 0, manner := 1, bars := true, irq := s.irq && !true }) (Sound.WF.quarter ⟨wf.t0, wf.t1, wf.t2, wf.t3, wf.k0, wf.k1, wf.k2, wf.k3, wf.m, by dsimp only; omega, .inr rfl⟩) _ hA).mono ?_
  rintro e w2 ⟨rfl, hA2, hU2⟩
  go_wp2
  go_end0
  have e1 : s.restart r = ((Sound.quarter { s with count := 0, manner := 1, bars := true, irq := s.irq && !true }).half) := by
    unfold Sound.restart
    dsimp only
    rw [if_pos h8]
    simp only [h64', decide_true, decide_false]
  rw [e1]
  exact ⟨rfl, hA2, (Upd.trans (Upd.inB (by repeat (first | with_reducible exact Upd.refl _ _ | with_reducible refine Upd.drew ?_ | with_reducible refine Upd.drewN ?_ _ | (with_reducible refine Upd.setCell ?_ (by simp) _)))) hU).trans hU2⟩

set_option maxHeartbeats 1000000 in
theorem restart2 (k : Hd) (ha : k.Apart) (s : Sound) (wf : s.WF) (r : Int) (wr : 0 ≤ r ∧ r ≤ 255) (w : World) (h : SoundAt w k s) (h8 : 128 ≤ r) (h64 : r / 64 % 2 = 1) (hi : s.irq = false) :
    Calls Tryd.prog 33 #[k.ptr, .int .u8 r] w (SndTurns k (s.restart r) (.tuple #[]) w) := by
  have hf : ∀ i, w.frozen? ⟨k.b, i, none⟩ = false := h.snd.frozen
  have c18 : _ = some (Value.int .i64 s.count) := h.snd.cell 18
  have c19 : _ = some (Value.int .i64 s.manner) := h.snd.cell 19
  have c20 : _ = some (Value.bool s.bars) := h.snd.cell 20
  have c21 : _ = some (Value.bool s.irq) := h.snd.cell 21
  have e64 := and64 r wr.1 wr.2
  have e128 := and128 r wr.1 wr.2
  have hk64 : (r / 64 % 2 * 64 != 0) = true := by simp; omega
  have h64' := h64
  have hk128 : (r / 128 * 128 != 0) = true := by simp; omega
  unfold Hd.ptr
  go_enter Tryd.func33, Tryd.ntmps33
  go_wp2_with fail
  refine (snd_all_quarter k ha { s with count := 0, manner := 1, bars := true, irq := s.irq && !true } ⟨wf.t0, wf.t1, wf.t2, wf.t3, wf.k0, wf.k1, wf.k2, wf.k3, wf.m, by dsimp only; omega, .inr rfl⟩ _ (SoundAt.setB ha h (At.eq (by (repeat (first | with_reducible apply At.setCell | with_reducible apply At.drew | with_reducible apply At.drewN)); exact h.snd) ?_) (by repeat (first | with_reducible exact Upd.refl _ _ | with_reducible refine Upd.drew ?_ | with_reducible refine Upd.drewN ?_ _ | (with_reducible refine Upd.setCell ?_ (by simp) _))) rfl rfl rfl rfl)).mono ?_
  · simp only [hi, Bool.true_and, Bool.false_and, Bool.not_true, Bool.not_false, Sound.enc, List.set_cons_zero, List.set_cons_succ]
  rintro e w1 ⟨rfl, hA, hU⟩
  go_wp2_with fail
  refine (snd_all_half k ha (Sound.quarter { s with count := 0, manner := 1, bars := true, irq := s.irq && !true }) (Sound.WF.quarter ⟨wf.t0, wf.t1, wf.t2, wf.t3, wf.k0, wf.k1, wf.k2, wf.k3, wf.m, by dsimp only; omega, .inr rfl⟩) _ hA).mono ?_
  rintro e w2 ⟨rfl, hA2, hU2⟩
  go_wp2
  go_end0
  have e1 : s.restart r = ((Sound.quarter { s with count := 0, manner := 1, bars := true, irq := s.irq && !true }).half) := by
    unfold Sound.restart
    dsimp only
    rw [if_pos h8]
    simp only [h64', decide_true, decide_false]
  rw [e1]
  exact ⟨rfl, hA2, (Upd.trans (Upd.inB (by repeat (first | with_reducible exact Upd.refl _ _ | with_reducible refine Upd.drew ?_ | with_reducible refine Upd.drewN ?_ _ | (with_reducible refine Upd.setCell ?_ (by simp) _)))) hU).trans hU2⟩

set_option maxHeartbeats 1000000 in
theorem restart3 (k : Hd) (ha : k.Apart) (s : Sound) (wf : s.WF) (r : Int) (wr : 0 ≤ r ∧ r ≤ 255) (w : World) (h : SoundAt w k s) (h8 : 128 ≤ r) (h64 : ¬ r / 64 % 2 = 1) (hi : s.irq = true) :
    Calls Tryd.prog 33 #[k.ptr, .int .u8 r] w (SndTurns k (s.restart r) (.tuple #[]) w) := by
  have hf : ∀ i, w.frozen? ⟨k.b, i, none⟩ = false := h.snd.frozen
  have c18 : _ = some (Value.int .i64 s.count) := h.snd.cell 18
  have c19 : _ = some (Value.int .i64 s.manner) := h.snd.cell 19
  have c20 : _ = some (Value.bool s.bars) := h.snd.cell 20
  have c21 : _ = some (Value.bool s.irq) := h.snd.cell 21
  have e64 := and64 r wr.1 wr.2
  have e128 := and128 r wr.1 wr.2
  have hk64 : (r / 64 % 2 * 64 != 0) = false := by simp; omega
  have h64' := h64
  have hk128 : (r / 128 * 128 != 0) = true := by simp; omega
  unfold Hd.ptr
  go_enter Tryd.func33, Tryd.ntmps33
  go_wp2_with fail
  refine (snd_all_quarter k ha { s with count := 0, manner := 1, bars := false, irq := s.irq && !false } ⟨wf.t0, wf.t1, wf.t2, wf.t3, wf.k0, wf.k1, wf.k2, wf.k3, wf.m, by dsimp only; omega, .inr rfl⟩ _ (SoundAt.setB ha h (At.eq (by (repeat (first | with_reducible apply At.setCell | with_reducible apply At.drew | with_reducible apply At.drewN)); exact h.snd) ?_) (by repeat (first | with_reducible exact Upd.refl _ _ | with_reducible refine Upd.drew ?_ | with_reducible refine Upd.drewN ?_ _ | (with_reducible refine Upd.setCell ?_ (by simp) _))) rfl rfl rfl rfl)).mono ?_
  · simp only [hi, Bool.true_and, Bool.false_and, Bool.not_true, Bool.not_false, Sound.enc, List.set_cons_zero, List.set_cons_succ]
  rintro e w1 ⟨rfl, hA, hU⟩
  go_wp2_with fail
  refine (snd_all_half k ha (Sound.quarter { s with count := 0, manner := 1, bars := false, irq := s.irq && !false }) (Sound.WF.quarter ⟨wf.t0, wf.t1, wf.t2, wf.t3, wf.k0, wf.k1, wf.k2, wf.k3, wf.m, by dsimp only; omega, .inr rfl⟩) _ hA).mono ?_
  rintro e w2 ⟨rfl, hA2, hU2⟩
  go_wp2
  go_end0
  have e1 : s.restart r = ((Sound.quarter { s with count := 0, manner := 1, bars := false, irq := s.irq && !false }).half) := by
    unfold Sound.restart
    dsimp only
    rw [if_pos h8]
    simp only [h64', decide_true, decide_false]
  rw [e1]
  exact ⟨rfl, hA2, (Upd.trans (Upd.inB (by repeat (first | with_reducible exact Upd.refl _ _ | with_reducible refine Upd.drew ?_ | with_reducible refine Upd.drewN ?_ _ | (with_reducible refine Upd.setCell ?_ (by simp) _)))) hU).trans hU2⟩

set_option maxHeartbeats 1000000 in
theorem restart4 (k : Hd) (ha : k.Apart) (s : Sound) (wf : s.WF) (r : Int) (wr : 0 ≤ r ∧ r ≤ 255) (w : World) (h : SoundAt w k s) (h8 : 128 ≤ r) (h64 : ¬ r / 64 % 2 = 1) (hi : s.irq = false) :
    Calls Tryd.prog 33 #[k.ptr, .int .u8 r] w (SndTurns k (s.restart r) (.tuple #[]) w) := by
  have hf : ∀ i, w.frozen? ⟨k.b, i, none⟩ = false := h.snd.frozen
  have c18 : _ = some (Value.int .i64 s.count) := h.snd.cell 18
  have c19 : _ = some (Value.int .i64 s.manner) := h.snd.cell 19
  have c20 : _ = some (Value.bool s.bars) := h.snd.cell 20
  have c21 : _ = some (Value.bool s.irq) := h.snd.cell 21
  have e64 := and64 r wr.1 wr.2
  have e128 := and128 r wr.1 wr.2
  have hk64 : (r / 64 % 2 * 64 != 0) = false := by simp; omega
  have h64' := h64
  have hk128 : (r / 128 * 128 != 0) = true := by simp; omega
  unfold Hd.ptr
  go_enter Tryd.func33, Tryd.ntmps33
  go_wp2_with fail
  refine (snd_all_quarter k ha { s with count := 0, manner := 1, bars := false, irq := s.irq && !false } ⟨wf.t0, wf.t1, wf.t2, wf.t3, wf.k0, wf.k1, wf.k2, wf.k3, wf.m, by dsimp only; omega, .inr rfl⟩ _ (SoundAt.setB ha h (At.eq (by (repeat (first | with_reducible apply At.setCell | with_reducible apply At.drew | with_reducible apply At.drewN)); exact h.snd) ?_) (by repeat (first | with_reducible exact Upd.refl _ _ | with_reducible refine Upd.drew ?_ | with_reducible refine Upd.drewN ?_ _ | (with_reducible refine Upd.setCell ?_ (by simp) _))) rfl rfl rfl rfl)).mono ?_
  · simp only [hi, Bool.true_and, Bool.false_and, Bool.not_true, Bool.not_false, Sound.enc, List.set_cons_zero, List.set_cons_succ]
  rintro e w1 ⟨rfl, hA, hU⟩
  go_wp2_with fail
  refine (snd_all_half k ha (Sound.quarter { s with count := 0, manner := 1, bars := false, irq := s.irq && !false }) (Sound.WF.quarter ⟨wf.t0, wf.t1, wf.t2, wf.t3, wf.k0, wf.k1, wf.k2, wf.k3, wf.m, by dsimp only; omega, .inr rfl⟩) _ hA).mono ?_
  rintro e w2 ⟨rfl, hA2, hU2⟩
  go_wp2
  go_end0
  have e1 : s.restart r = ((Sound.quarter { s with count := 0, manner := 1, bars := false, irq := s.irq && !false }).half) := by
    unfold Sound.restart
    dsimp only
    rw [if_pos h8]
    simp only [h64', decide_true, decide_false]
  rw [e1]
  exact ⟨rfl, hA2, (Upd.trans (Upd.inB (by repeat (first | with_reducible exact Upd.refl _ _ | with_reducible refine Upd.drew ?_ | with_reducible refine Upd.drewN ?_ _ | (with_reducible refine Upd.setCell ?_ (by simp) _)))) hU).trans hU2⟩

set_option maxHeartbeats 1000000 in
theorem restart5 (k : Hd) (ha : k.Apart) (s : Sound) (wf : s.WF) (r : Int) (wr : 0 ≤ r ∧ r ≤ 255) (w : World) (h : SoundAt w k s) (h8 : ¬ 128 ≤ r) (h64 : r / 64 % 2 = 1) (hi : s.irq = true) :
    Calls Tryd.prog 33 #[k.ptr, .int .u8 r] w (SndTurns k (s.restart r) (.tuple #[]) w) := by
  have hf : ∀ i, w.frozen? ⟨k.b, i, none⟩ = false := h.snd.frozen
  have c18 : _ = some (Value.int .i64 s.count) := h.snd.cell 18
  have c19 : _ = some (Value.int .i64 s.manner) := h.snd.cell 19
  have c20 : _ = some (Value.bool s.bars) := h.snd.cell 20
  have c21 : _ = some (Value.bool s.irq) := h.snd.cell 21
  have e64 := and64 r wr.1 wr.2
  have e128 := and128 r wr.1 wr.2
  have hk64 : (r / 64 % 2 * 64 != 0) = true := by simp; omega
  have h64' := h64
  have hk128 : (r / 128 * 128 != 0) = false := by simp; omega
  unfold Hd.ptr
  go_enter Tryd.func33, Tryd.ntmps33
  go_wp2
  all_goals first | go_end0 | refine bodyPost_ret (results_none rfl _ _ _) rfl ?_
  all_goals refine ⟨rfl, SoundAt.setB (s' := s.restart r) ha h (At.eq (by (repeat (first | with_reducible apply At.setCell | with_reducible apply At.drew | with_reducible apply At.drewN)); exact h.snd) ?_) (by repeat (first | with_reducible exact Upd.refl _ _ | with_reducible refine Upd.drew ?_ | with_reducible refine Upd.drewN ?_ _ | (with_reducible refine Upd.setCell ?_ (by simp) _))) ?_ ?_ ?_ ?_, Upd.inB (by repeat (first | with_reducible exact Upd.refl _ _ | with_reducible refine Upd.drew ?_ | with_reducible refine Upd.drewN ?_ _ | (with_reducible refine Upd.setCell ?_ (by simp) _)))⟩
  all_goals unfold Sound.restart
  all_goals dsimp only
  all_goals rw [if_neg (by omega)]
  all_goals simp only [h64, hi, decide_true, decide_false, Bool.true_and, Bool.false_and, Bool.not_true, Bool.not_false, Sound.enc, List.set_cons_zero, List.set_cons_succ]

set_option maxHeartbeats 1000000 in
theorem restart6 (k : Hd) (ha : k.Apart) (s : Sound) (wf : s.WF) (r : Int) (wr : 0 ≤ r ∧ r ≤ 255) (w : World) (h : SoundAt w k s) (h8 : ¬ 128 ≤ r) (h64 : r / 64 % 2 = 1) (hi : s.irq = false) :
    Calls Tryd.prog 33 #[k.ptr, .int .u8 r] w (SndTurns k (s.restart r) (.tuple #[]) w) := by
  have hf : ∀ i, w.frozen? ⟨k.b, i, none⟩ = false := h.snd.frozen
  have c18 : _ = some (Value.int .i64 s.count) := h.snd.cell 18
  have c19 : _ = some (Value.int .i64 s.manner) := h.snd.cell 19
  have c20 : _ = some (Value.bool s.bars) := h.snd.cell 20
  have c21 : _ = some (Value.bool s.irq) := h.snd.cell 21
  have e64 := and64 r wr.1 wr.2
  have e128 := and128 r wr.1 wr.2
  have hk64 : (r / 64 % 2 * 64 != 0) = true := by simp; omega
  have h64' := h64
  have hk128 : (r / 128 * 128 != 0) = false := by simp; omega
  unfold Hd.ptr
  go_enter Tryd.func33, Tryd.ntmps33
  go_wp2
  all_goals first | go_end0 | refine bodyPost_ret (results_none rfl _ _ _) rfl ?_
  all_goals refine ⟨rfl, SoundAt.setB (s' := s.restart r) ha h (At.eq (by (repeat (first | with_reducible apply At.setCell | with_reducible apply At.drew | with_reducible apply At.drewN)); exact h.snd) ?_) (by repeat (first | with_reducible exact Upd.refl _ _ | with_reducible refine Upd.drew ?_ | with_reducible refine Upd.drewN ?_ _ | (with_reducible refine Upd.setCell ?_ (by simp) _))) ?_ ?_ ?_ ?_, Upd.inB (by repeat (first | with_reducible exact Upd.refl _ _ | with_reducible refine Upd.drew ?_ | with_reducible refine Upd.drewN ?_ _ | (with_reducible refine Upd.setCell ?_ (by simp) _)))⟩
  all_goals unfold Sound.restart
  all_goals dsimp only
  all_goals rw [if_neg (by omega)]
  all_goals simp only [h64, hi, decide_true, decide_false, Bool.true_and, Bool.false_and, Bool.not_true, Bool.not_false, Sound.enc, List.set_cons_zero, List.set_cons_succ]

set_option maxHeartbeats 1000000 in
theorem restart7 (k : Hd) (ha : k.Apart) (s : Sound) (wf : s.WF) (r : Int) (wr : 0 ≤ r ∧ r ≤ 255) (w : World) (h : SoundAt w k s) (h8 : ¬ 128 ≤ r) (h64 : ¬ r / 64 % 2 = 1) (hi : s.irq = true) :
    Calls Tryd.prog 33 #[k.ptr, .int .u8 r] w (SndTurns k (s.restart r) (.tuple #[]) w) := by
  have hf : ∀ i, w.frozen? ⟨k.b, i, none⟩ = false := h.snd.frozen
  have c18 : _ = some (Value.int .i64 s.count) := h.snd.cell 18
  have c19 : _ = some (Value.int .i64 s.manner) := h.snd.cell 19
  have c20 : _ = some (Value.bool s.bars) := h.snd.cell 20
  have c21 : _ = some (Value.bool s.irq) := h.snd.cell 21
  have e64 := and64 r wr.1 wr.2
  have e128 := and128 r wr.1 wr.2
  have hk64 : (r / 64 % 2 * 64 != 0) = false := by simp; omega
  have h64' := h64
  have hk128 : (r / 128 * 128 != 0) = false := by simp; omega
  unfold Hd.ptr
  go_enter Tryd.func33, Tryd.ntmps33
  go_wp2
  all_goals first | go_end0 | refine bodyPost_ret (results_none rfl _ _ _) rfl ?_
  all_goals refine ⟨rfl, SoundAt.setB (s' := s.restart r) ha h (At.eq (by (repeat (first | with_reducible apply At.setCell | with_reducible apply At.drew | with_reducible apply At.drewN)); exact h.snd) ?_) (by repeat (first | with_reducible exact Upd.refl _ _ | with_reducible refine Upd.drew ?_ | with_reducible refine Upd.drewN ?_ _ | (with_reducible refine Upd.setCell ?_ (by simp) _))) ?_ ?_ ?_ ?_, Upd.inB (by repeat (first | with_reducible exact Upd.refl _ _ | with_reducible refine Upd.drew ?_ | with_reducible refine Upd.drewN ?_ _ | (with_reducible refine Upd.setCell ?_ (by simp) _)))⟩
  all_goals unfold Sound.restart
  all_goals dsimp only
  all_goals rw [if_neg (by omega)]
  all_goals simp only [h64, hi, decide_true, decide_false, Bool.true_and, Bool.false_and, Bool.not_true, Bool.not_false, Sound.enc, List.set_cons_zero, List.set_cons_succ]

set_option maxHeartbeats 1000000 in
theorem restart8 (k : Hd) (ha : k.Apart) (s : Sound) (wf : s.WF) (r : Int) (wr : 0 ≤ r ∧ r ≤ 255) (w : World) (h : SoundAt w k s) (h8 : ¬ 128 ≤ r) (h64 : ¬ r / 64 % 2 = 1) (hi : s.irq = false) :
    Calls Tryd.prog 33 #[k.ptr, .int .u8 r] w (SndTurns k (s.restart r) (.tuple #[]) w) := by
  have hf : ∀ i, w.frozen? ⟨k.b, i, none⟩ = false := h.snd.frozen
  have c18 : _ = some (Value.int .i64 s.count) := h.snd.cell 18
  have c19 : _ = some (Value.int .i64 s.manner) := h.snd.cell 19
  have c20 : _ = some (Value.bool s.bars) := h.snd.cell 20
  have c21 : _ = some (Value.bool s.irq) := h.snd.cell 21
  have e64 := and64 r wr.1 wr.2
  have e128 := and128 r wr.1 wr.2
  have hk64 : (r / 64 % 2 * 64 != 0) = false := by simp; omega
  have h64' := h64
  have hk128 : (r / 128 * 128 != 0) = false := by simp; omega
  unfold Hd.ptr
  go_enter Tryd.func33, Tryd.ntmps33
  go_wp2
  all_goals first | go_end0 | refine bodyPost_ret (results_none rfl _ _ _) rfl ?_
  all_goals refine ⟨rfl, SoundAt.setB (s' := s.restart r) ha h (At.eq (by (repeat (first | with_reducible apply At.setCell | with_reducible apply At.drew | with_reducible apply At.drewN)); exact h.snd) ?_) (by repeat (first | with_reducible exact Upd.refl _ _ | with_reducible refine Upd.drew ?_ | with_reducible refine Upd.drewN ?_ _ | (with_reducible refine Upd.setCell ?_ (by simp) _))) ?_ ?_ ?_ ?_, Upd.inB (by repeat (first | with_reducible exact Upd.refl _ _ | with_reducible refine Upd.drew ?_ | with_reducible refine Upd.drewN ?_ _ | (with_reducible refine Upd.setCell ?_ (by simp) _)))⟩
  all_goals unfold Sound.restart
  all_goals dsimp only
  all_goals rw [if_neg (by omega)]
  all_goals simp only [h64, hi, decide_true, decide_false, Bool.true_and, Bool.false_and, Bool.not_true, Bool.not_false, Sound.enc, List.set_cons_zero, List.set_cons_succ]
end Go.Proofs.YtonhhjihmbcfnaaDoor

import Derived.Test.YtonhhjihmbcfnaaDoorF1
namespace Go.Proofs.YtonhhjihmbcfnaaDoor
open Go.RowKit
set_option linter.unusedSimpArgs false
set_option linter.unusedVariables false

theorem tone_put (b : Nat) (t : Tone) (wf : t.WF) (q r : Int) (h0 : 0 ≤ q) (h3 : q ≤ 3) (wr : 0 ≤ r ∧ r ≤ 255) (w : World) (hT : Tabs w) (hb : 4 < b) (h : At w b t.enc 83) :
    Calls Tryd.prog 29 #[.pointer (some ⟨b, 0, none⟩), .int .u8 q, .int .u8 r] w (Turns b (t.put q r).enc 83 (.tuple #[]) w) := by
  have : q = 0 ∨ q = 1 ∨ q = 2 ∨ q = 3 := by omega
  rcases this with rfl | rfl | rfl | rfl
  · exact tone_put0 b t wf r wr w hT hb h
  · exact tone_put1 b t wf r wr w hT hb h
  · exact tone_put2 b t wf r wr w hT hb h
  · exact tone_put3 b t wf r wr w hT hb h

set_option maxHeartbeats 1000000 in
theorem put_16384 (k : Hd) (ha : k.Apart) (s : Sound) (wf : s.WF) (r : Int) (wr : 0 ≤ r ∧ r ≤ 255) (w : World) (hT : Tabs w) (h : SoundAt w k s) :
    Calls Tryd.prog 12 #[k.ptr, .int .u16 16384, .int .u8 r] w (SndTurns k { s with t0 := s.t0.put 0 r } (.tuple #[]) w) := by
  have c0 : _ = some (Value.pointer (some ⟨k.p0, 0, none⟩)) := h.snd.cell 0
  unfold Hd.ptr
  go_enter Tryd.func12, Tryd.ntmps12
  go_wp2_with fail
  refine (tone_put k.p0 s.t0 wf.t0 0 r (by omega) (by omega) wr _ hT ha.g0 h.t0).mono ?_
  rintro e w1 ⟨rfl, hA, hU⟩
  go_wp2
  go_end0
  exact ⟨rfl, h.set0 ha hA hU, hU.in0⟩

set_option maxHeartbeats 1000000 in
theorem put_16385 (k : Hd) (ha : k.Apart) (s : Sound) (wf : s.WF) (r : Int) (wr : 0 ≤ r ∧ r ≤ 255) (w : World) (hT : Tabs w) (h : SoundAt w k s) :
    Calls Tryd.prog 12 #[k.ptr, .int .u16 16385, .int .u8 r] w (SndTurns k { s with t0 := s.t0.put 1 r } (.tuple #[]) w) := by
  have c0 : _ = some (Value.pointer (some ⟨k.p0, 0, none⟩)) := h.snd.cell 0
  unfold Hd.ptr
  go_enter Tryd.func12, Tryd.ntmps12
  go_wp2_with fail
  refine (tone_put k.p0 s.t0 wf.t0 1 r (by omega) (by omega) wr _ hT ha.g0 h.t0).mono ?_
  rintro e w1 ⟨rfl, hA, hU⟩
  go_wp2
  go_end0
  exact ⟨rfl, h.set0 ha hA hU, hU.in0⟩

set_option maxHeartbeats 1000000 in
theorem put_16386 (k : Hd) (ha : k.Apart) (s : Sound) (wf : s.WF) (r : Int) (wr : 0 ≤ r ∧ r ≤ 255) (w : World) (hT : Tabs w) (h : SoundAt w k s) :
    Calls Tryd.prog 12 #[k.ptr, .int .u16 16386, .int .u8 r] w (SndTurns k { s with t0 := s.t0.put 2 r } (.tuple #[]) w) := by
  have c0 : _ = some (Value.pointer (some ⟨k.p0, 0, none⟩)) := h.snd.cell 0
  unfold Hd.ptr
  go_enter Tryd.func12, Tryd.ntmps12
  go_wp2_with fail
  refine (tone_put k.p0 s.t0 wf.t0 2 r (by omega) (by omega) wr _ hT ha.g0 h.t0).mono ?_
  rintro e w1 ⟨rfl, hA, hU⟩
  go_wp2
  go_end0
  exact ⟨rfl, h.set0 ha hA hU, hU.in0⟩

set_option maxHeartbeats 1000000 in
theorem put_16387 (k : Hd) (ha : k.Apart) (s : Sound) (wf : s.WF) (r : Int) (wr : 0 ≤ r ∧ r ≤ 255) (w : World) (hT : Tabs w) (h : SoundAt w k s) :
    Calls Tryd.prog 12 #[k.ptr, .int .u16 16387, .int .u8 r] w (SndTurns k { s with t0 := s.t0.put 3 r } (.tuple #[]) w) := by
  have c0 : _ = some (Value.pointer (some ⟨k.p0, 0, none⟩)) := h.snd.cell 0
  unfold Hd.ptr
  go_enter Tryd.func12, Tryd.ntmps12
  go_wp2_with fail
  refine (tone_put k.p0 s.t0 wf.t0 3 r (by omega) (by omega) wr _ hT ha.g0 h.t0).mono ?_
  rintro e w1 ⟨rfl, hA, hU⟩
  go_wp2
  go_end0
  exact ⟨rfl, h.set0 ha hA hU, hU.in0⟩

set_option maxHeartbeats 1000000 in
theorem put_16388 (k : Hd) (ha : k.Apart) (s : Sound) (wf : s.WF) (r : Int) (wr : 0 ≤ r ∧ r ≤ 255) (w : World) (hT : Tabs w) (h : SoundAt w k s) :
    Calls Tryd.prog 12 #[k.ptr, .int .u16 16388, .int .u8 r] w (SndTurns k { s with t1 := s.t1.put 0 r } (.tuple #[]) w) := by
  have c1 : _ = some (Value.pointer (some ⟨k.p1, 0, none⟩)) := h.snd.cell 1
  unfold Hd.ptr
  go_enter Tryd.func12, Tryd.ntmps12
  go_wp2_with fail
  refine (tone_put k.p1 s.t1 wf.t1 0 r (by omega) (by omega) wr _ hT ha.g1 h.t1).mono ?_
  rintro e w1 ⟨rfl, hA, hU⟩
  go_wp2
  go_end0
  exact ⟨rfl, h.set1 ha hA hU, hU.in1⟩

set_option maxHeartbeats 1000000 in
theorem put_16389 (k : Hd) (ha : k.Apart) (s : Sound) (wf : s.WF) (r : Int) (wr : 0 ≤ r ∧ r ≤ 255) (w : World) (hT : Tabs w) (h : SoundAt w k s) :
    Calls Tryd.prog 12 #[k.ptr, .int .u16 16389, .int .u8 r] w (SndTurns k { s with t1 := s.t1.put 1 r } (.tuple #[]) w) := by
  have c1 : _ = some (Value.pointer (some ⟨k.p1, 0, none⟩)) := h.snd.cell 1
  unfold Hd.ptr
  go_enter Tryd.func12, Tryd.ntmps12
  go_wp2_with fail
  refine (tone_put k.p1 s.t1 wf.t1 1 r (by omega) (by omega) wr _ hT ha.g1 h.t1).mono ?_
  rintro e w1 ⟨rfl, hA, hU⟩
  go_wp2
  go_end0
  exact ⟨rfl, h.set1 ha hA hU, hU.in1⟩

set_option maxHeartbeats 1000000 in
theorem put_16390 (k : Hd) (ha : k.Apart) (s : Sound) (wf : s.WF) (r : Int) (wr : 0 ≤ r ∧ r ≤ 255) (w : World) (hT : Tabs w) (h : SoundAt w k s) :
    Calls Tryd.prog 12 #[k.ptr, .int .u16 16390, .int .u8 r] w (SndTurns k { s with t1 := s.t1.put 2 r } (.tuple #[]) w) := by
  have c1 : _ = some (Value.pointer (some ⟨k.p1, 0, none⟩)) := h.snd.cell 1
  unfold Hd.ptr
  go_enter Tryd.func12, Tryd.ntmps12
  go_wp2_with fail
  refine (tone_put k.p1 s.t1 wf.t1 2 r (by omega) (by omega) wr _ hT ha.g1 h.t1).mono ?_
  rintro e w1 ⟨rfl, hA, hU⟩
  go_wp2
  go_end0
  exact ⟨rfl, h.set1 ha hA hU, hU.in1⟩

set_option maxHeartbeats 1000000 in
theorem put_16391 (k : Hd) (ha : k.Apart) (s : Sound) (wf : s.WF) (r : Int) (wr : 0 ≤ r ∧ r ≤ 255) (w : World) (hT : Tabs w) (h : SoundAt w k s) :
    Calls Tryd.prog 12 #[k.ptr, .int .u16 16391, .int .u8 r] w (SndTurns k { s with t1 := s.t1.put 3 r } (.tuple #[]) w) := by
  have c1 : _ = some (Value.pointer (some ⟨k.p1, 0, none⟩)) := h.snd.cell 1
  unfold Hd.ptr
  go_enter Tryd.func12, Tryd.ntmps12
  go_wp2_with fail
  refine (tone_put k.p1 s.t1 wf.t1 3 r (by omega) (by omega) wr _ hT ha.g1 h.t1).mono ?_
  rintro e w1 ⟨rfl, hA, hU⟩
  go_wp2
  go_end0
  exact ⟨rfl, h.set1 ha hA hU, hU.in1⟩

set_option maxHeartbeats 1000000 in
theorem put_16392 (k : Hd) (ha : k.Apart) (s : Sound) (wf : s.WF) (r : Int) (wr : 0 ≤ r ∧ r ≤ 255) (w : World) (hT : Tabs w) (h : SoundAt w k s) :
    Calls Tryd.prog 12 #[k.ptr, .int .u16 16392, .int .u8 r] w (SndTurns k { s with t2 := s.t2.put 0 r } (.tuple #[]) w) := by
  have c2 : _ = some (Value.pointer (some ⟨k.p2, 0, none⟩)) := h.snd.cell 2
  unfold Hd.ptr
  go_enter Tryd.func12, Tryd.ntmps12
  go_wp2_with fail
  refine (tone_put k.p2 s.t2 wf.t2 0 r (by omega) (by omega) wr _ hT ha.g2 h.t2).mono ?_
  rintro e w1 ⟨rfl, hA, hU⟩
  go_wp2
  go_end0
  exact ⟨rfl, h.set2 ha hA hU, hU.in2⟩

set_option maxHeartbeats 1000000 in
theorem put_16393 (k : Hd) (ha : k.Apart) (s : Sound) (wf : s.WF) (r : Int) (wr : 0 ≤ r ∧ r ≤ 255) (w : World) (hT : Tabs w) (h : SoundAt w k s) :
    Calls Tryd.prog 12 #[k.ptr, .int .u16 16393, .int .u8 r] w (SndTurns k { s with t2 := s.t2.put 1 r } (.tuple #[]) w) := by
  have c2 : _ = some (Value.pointer (some ⟨k.p2, 0, none⟩)) := h.snd.cell 2
  unfold Hd.ptr
  go_enter Tryd.func12, Tryd.ntmps12
  go_wp2_with fail
  refine (tone_put k.p2 s.t2 wf.t2 1 r (by omega) (by omega) wr _ hT ha.g2 h.t2).mono ?_
  rintro e w1 ⟨rfl, hA, hU⟩
  go_wp2
  go_end0
  exact ⟨rfl, h.set2 ha hA hU, hU.in2⟩

set_option maxHeartbeats 1000000 in
theorem put_16394 (k : Hd) (ha : k.Apart) (s : Sound) (wf : s.WF) (r : Int) (wr : 0 ≤ r ∧ r ≤ 255) (w : World) (hT : Tabs w) (h : SoundAt w k s) :
    Calls Tryd.prog 12 #[k.ptr, .int .u16 16394, .int .u8 r] w (SndTurns k { s with t2 := s.t2.put 2 r } (.tuple #[]) w) := by
  have c2 : _ = some (Value.pointer (some ⟨k.p2, 0, none⟩)) := h.snd.cell 2
  unfold Hd.ptr
  go_enter Tryd.func12, Tryd.ntmps12
  go_wp2_with fail
  refine (tone_put k.p2 s.t2 wf.t2 2 r (by omega) (by omega) wr _ hT ha.g2 h.t2).mono ?_
  rintro e w1 ⟨rfl, hA, hU⟩
  go_wp2
  go_end0
  exact ⟨rfl, h.set2 ha hA hU, hU.in2⟩

set_option maxHeartbeats 1000000 in
theorem put_16395 (k : Hd) (ha : k.Apart) (s : Sound) (wf : s.WF) (r : Int) (wr : 0 ≤ r ∧ r ≤ 255) (w : World) (hT : Tabs w) (h : SoundAt w k s) :
    Calls Tryd.prog 12 #[k.ptr, .int .u16 16395, .int .u8 r] w (SndTurns k { s with t2 := s.t2.put 3 r } (.tuple #[]) w) := by
  have c2 : _ = some (Value.pointer (some ⟨k.p2, 0, none⟩)) := h.snd.cell 2
  unfold Hd.ptr
  go_enter Tryd.func12, Tryd.ntmps12
  go_wp2_with fail
  refine (tone_put k.p2 s.t2 wf.t2 3 r (by omega) (by omega) wr _ hT ha.g2 h.t2).mono ?_
  rintro e w1 ⟨rfl, hA, hU⟩
  go_wp2
  go_end0
  exact ⟨rfl, h.set2 ha hA hU, hU.in2⟩

set_option maxHeartbeats 1000000 in
theorem put_16396 (k : Hd) (ha : k.Apart) (s : Sound) (wf : s.WF) (r : Int) (wr : 0 ≤ r ∧ r ≤ 255) (w : World) (hT : Tabs w) (h : SoundAt w k s) :
    Calls Tryd.prog 12 #[k.ptr, .int .u16 16396, .int .u8 r] w (SndTurns k { s with t3 := s.t3.put 0 r } (.tuple #[]) w) := by
  have c3 : _ = some (Value.pointer (some ⟨k.p3, 0, none⟩)) := h.snd.cell 3
  unfold Hd.ptr
  go_enter Tryd.func12, Tryd.ntmps12
  go_wp2_with fail
  refine (tone_put k.p3 s.t3 wf.t3 0 r (by omega) (by omega) wr _ hT ha.g3 h.t3).mono ?_
  rintro e w1 ⟨rfl, hA, hU⟩
  go_wp2
  go_end0
  exact ⟨rfl, h.set3 ha hA hU, hU.in3⟩

set_option maxHeartbeats 1000000 in
theorem put_16397 (k : Hd) (ha : k.Apart) (s : Sound) (wf : s.WF) (r : Int) (wr : 0 ≤ r ∧ r ≤ 255) (w : World) (hT : Tabs w) (h : SoundAt w k s) :
    Calls Tryd.prog 12 #[k.ptr, .int .u16 16397, .int .u8 r] w (SndTurns k { s with t3 := s.t3.put 1 r } (.tuple #[]) w) := by
  have c3 : _ = some (Value.pointer (some ⟨k.p3, 0, none⟩)) := h.snd.cell 3
  unfold Hd.ptr
  go_enter Tryd.func12, Tryd.ntmps12
  go_wp2_with fail
  refine (tone_put k.p3 s.t3 wf.t3 1 r (by omega) (by omega) wr _ hT ha.g3 h.t3).mono ?_
  rintro e w1 ⟨rfl, hA, hU⟩
  go_wp2
  go_end0
  exact ⟨rfl, h.set3 ha hA hU, hU.in3⟩

set_option maxHeartbeats 1000000 in
theorem put_16398 (k : Hd) (ha : k.Apart) (s : Sound) (wf : s.WF) (r : Int) (wr : 0 ≤ r ∧ r ≤ 255) (w : World) (hT : Tabs w) (h : SoundAt w k s) :
    Calls Tryd.prog 12 #[k.ptr, .int .u16 16398, .int .u8 r] w (SndTurns k { s with t3 := s.t3.put 2 r } (.tuple #[]) w) := by
  have c3 : _ = some (Value.pointer (some ⟨k.p3, 0, none⟩)) := h.snd.cell 3
  unfold Hd.ptr
  go_enter Tryd.func12, Tryd.ntmps12
  go_wp2_with fail
  refine (tone_put k.p3 s.t3 wf.t3 2 r (by omega) (by omega) wr _ hT ha.g3 h.t3).mono ?_
  rintro e w1 ⟨rfl, hA, hU⟩
  go_wp2
  go_end0
  exact ⟨rfl, h.set3 ha hA hU, hU.in3⟩

set_option maxHeartbeats 1000000 in
theorem put_16399 (k : Hd) (ha : k.Apart) (s : Sound) (wf : s.WF) (r : Int) (wr : 0 ≤ r ∧ r ≤ 255) (w : World) (hT : Tabs w) (h : SoundAt w k s) :
    Calls Tryd.prog 12 #[k.ptr, .int .u16 16399, .int .u8 r] w (SndTurns k { s with t3 := s.t3.put 3 r } (.tuple #[]) w) := by
  have c3 : _ = some (Value.pointer (some ⟨k.p3, 0, none⟩)) := h.snd.cell 3
  unfold Hd.ptr
  go_enter Tryd.func12, Tryd.ntmps12
  go_wp2_with fail
  refine (tone_put k.p3 s.t3 wf.t3 3 r (by omega) (by omega) wr _ hT ha.g3 h.t3).mono ?_
  rintro e w1 ⟨rfl, hA, hU⟩
  go_wp2
  go_end0
  exact ⟨rfl, h.set3 ha hA hU, hU.in3⟩

set_option maxHeartbeats 1000000 in
theorem put_16400 (k : Hd) (ha : k.Apart) (s : Sound) (wf : s.WF) (r : Int) (wr : 0 ≤ r ∧ r ≤ 255) (w : World) (hT : Tabs w) (h : SoundAt w k s) :
    Calls Tryd.prog 12 #[k.ptr, .int .u16 16400, .int .u8 r] w (SndTurns k { s with m := s.m.put 0 r } (.tuple #[]) w) := by
  unfold Hd.ptr
  go_enter Tryd.func12, Tryd.ntmps12
  go_wp2_with fail
  refine (smp_put0 k.b k.p0 k.p1 k.p2 k.p3 s wf.m r wr _ h.snd).mono ?_
  rintro e w1 ⟨rfl, hA, hU⟩
  go_wp2
  go_end0
  exact ⟨rfl, SoundAt.setB ha h hA hU rfl rfl rfl rfl, hU.inB⟩

set_option maxHeartbeats 1000000 in
theorem put_16401 (k : Hd) (ha : k.Apart) (s : Sound) (wf : s.WF) (r : Int) (wr : 0 ≤ r ∧ r ≤ 255) (w : World) (hT : Tabs w) (h : SoundAt w k s) :
    Calls Tryd.prog 12 #[k.ptr, .int .u16 16401, .int .u8 r] w (SndTurns k { s with m := s.m.put 1 r } (.tuple #[]) w) := by
  unfold Hd.ptr
  go_enter Tryd.func12, Tryd.ntmps12
  go_wp2_with fail
  refine (smp_put1 k.b k.p0 k.p1 k.p2 k.p3 s wf.m r wr _ h.snd).mono ?_
  rintro e w1 ⟨rfl, hA, hU⟩
  go_wp2
  go_end0
  exact ⟨rfl, SoundAt.setB ha h hA hU rfl rfl rfl rfl, hU.inB⟩

set_option maxHeartbeats 1000000 in
theorem put_16402 (k : Hd) (ha : k.Apart) (s : Sound) (wf : s.WF) (r : Int) (wr : 0 ≤ r ∧ r ≤ 255) (w : World) (hT : Tabs w) (h : SoundAt w k s) :
    Calls Tryd.prog 12 #[k.ptr, .int .u16 16402, .int .u8 r] w (SndTurns k { s with m := s.m.put 2 r } (.tuple #[]) w) := by
  unfold Hd.ptr
  go_enter Tryd.func12, Tryd.ntmps12
  go_wp2_with fail
  refine (smp_put2 k.b k.p0 k.p1 k.p2 k.p3 s wf.m r wr _ h.snd).mono ?_
  rintro e w1 ⟨rfl, hA, hU⟩
  go_wp2
  go_end0
  exact ⟨rfl, SoundAt.setB ha h hA hU rfl rfl rfl rfl, hU.inB⟩

set_option maxHeartbeats 1000000 in
theorem put_16403 (k : Hd) (ha : k.Apart) (s : Sound) (wf : s.WF) (r : Int) (wr : 0 ≤ r ∧ r ≤ 255) (w : World) (hT : Tabs w) (h : SoundAt w k s) :
    Calls Tryd.prog 12 #[k.ptr, .int .u16 16403, .int .u8 r] w (SndTurns k { s with m := s.m.put 3 r } (.tuple #[]) w) := by
  unfold Hd.ptr
  go_enter Tryd.func12, Tryd.ntmps12
  go_wp2_with fail
  refine (smp_put3 k.b k.p0 k.p1 k.p2 k.p3 s wf.m r wr _ h.snd).mono ?_
  rintro e w1 ⟨rfl, hA, hU⟩
  go_wp2
  go_end0
  exact ⟨rfl, SoundAt.setB ha h hA hU rfl rfl rfl rfl, hU.inB⟩

set_option maxHeartbeats 1000000 in
theorem put_16407 (k : Hd) (ha : k.Apart) (s : Sound) (wf : s.WF) (r : Int) (wr : 0 ≤ r ∧ r ≤ 255) (w : World) (hT : Tabs w) (h : SoundAt w k s) :
    Calls Tryd.prog 12 #[k.ptr, .int .u16 16407, .int .u8 r] w (SndTurns k (s.restart r) (.tuple #[]) w) := by
  unfold Hd.ptr
  go_enter Tryd.func12, Tryd.ntmps12
  go_wp2_with fail
  refine (snd_restart k ha s wf r wr _ h).mono ?_
  rintro e w1 ⟨rfl, hA, hU⟩
  go_wp2
  go_end0
  exact ⟨rfl, hA, hU⟩

set_option maxHeartbeats 1000000 in
theorem put_none (k : Hd) (s : Sound) (a r : Int) (w : World) (h : SoundAt w k s) (hn : a < 16384 ∨ 16407 < a ∨ a = 16404 ∨ a = 16406) :
    Calls Tryd.prog 12 #[k.ptr, .int .u16 a, .int .u8 r] w (SndTurns k s (.tuple #[]) w) := by
  unfold Hd.ptr
  rcases hn with hn | hn | rfl | rfl
  · go_enter Tryd.func12, Tryd.ntmps12
    go_wp2
    all_goals first | go_end0 | refine bodyPost_ret (results_none rfl _ _ _) rfl ?_
    exact ⟨rfl, h, Upd.refl _ _⟩
  · have hn1 : ¬ a < 16384 := by omega
    go_enter Tryd.func12, Tryd.ntmps12
    go_wp2
    all_goals first | go_end0 | refine bodyPost_ret (results_none rfl _ _ _) rfl ?_
    exact ⟨rfl, h, Upd.refl _ _⟩
  · go_enter Tryd.func12, Tryd.ntmps12
    go_wp2
    all_goals first | go_end0 | refine bodyPost_ret (results_none rfl _ _ _) rfl ?_
    exact ⟨rfl, h, Upd.refl _ _⟩
  · go_enter Tryd.func12, Tryd.ntmps12
    go_wp2
    all_goals first | go_end0 | refine bodyPost_ret (results_none rfl _ _ _) rfl ?_
    exact ⟨rfl, h, Upd.refl _ _⟩

theorem snd_put (k : Hd) (ha : k.Apart) (s : Sound) (wf : s.WF) (a r : Int) (wr : 0 ≤ r ∧ r ≤ 255) (w : World) (hT : Tabs w) (h : SoundAt w k s) :
    Calls Tryd.prog 12 #[k.ptr, .int .u16 a, .int .u8 r] w (SndTurns k (s.put a r) (.tuple #[]) w) := by
  by_cases hn : a < 16384 ∨ 16407 < a ∨ a = 16404 ∨ a = 16406
  · have e : s.put a r = s := by
      unfold Sound.put
      by_cases h1 : a < 16384 ∨ 16407 < a
      · rw [if_pos h1]
      · rw [if_neg h1, if_neg (by omega), if_neg (by omega), if_neg (by omega), if_neg (by omega)]
    rw [e]; exact put_none k s a r w h hn
  · have : a = 16384 ∨ a = 16385 ∨ a = 16386 ∨ a = 16387 ∨ a = 16388 ∨ a = 16389 ∨ a = 16390 ∨ a = 16391 ∨ a = 16392 ∨ a = 16393 ∨ a = 16394 ∨ a = 16395 ∨ a = 16396 ∨ a = 16397 ∨ a = 16398 ∨ a = 16399 ∨ a = 16400 ∨ a = 16401 ∨ a = 16402 ∨ a = 16403 ∨ a = 16405 ∨ a = 16407 := by omega
    rcases this with rfl | rfl | rfl | rfl | rfl | rfl | rfl | rfl | rfl | rfl | rfl | rfl | rfl | rfl | rfl | rfl | rfl | rfl | rfl | rfl | rfl | rfl
    · exact put_16384 k ha s wf r wr w hT h
    · exact put_16385 k ha s wf r wr w hT h
    · exact put_16386 k ha s wf r wr w hT h
    · exact put_16387 k ha s wf r wr w hT h
    · exact put_16388 k ha s wf r wr w hT h
    · exact put_16389 k ha s wf r wr w hT h
    · exact put_16390 k ha s wf r wr w hT h
    · exact put_16391 k ha s wf r wr w hT h
    · exact put_16392 k ha s wf r wr w hT h
    · exact put_16393 k ha s wf r wr w hT h
    · exact put_16394 k ha s wf r wr w hT h
    · exact put_16395 k ha s wf r wr w hT h
    · exact put_16396 k ha s wf r wr w hT h
    · exact put_16397 k ha s wf r wr w hT h
    · exact put_16398 k ha s wf r wr w hT h
    · exact put_16399 k ha s wf r wr w hT h
    · exact put_16400 k ha s wf r wr w hT h
    · exact put_16401 k ha s wf r wr w hT h
    · exact put_16402 k ha s wf r wr w hT h
    · exact put_16403 k ha s wf r wr w hT h
    · exact put_enable k ha s wf r wr w hT h
    · exact put_16407 k ha s wf r wr w hT h
end Go.Proofs.YtonhhjihmbcfnaaDoor

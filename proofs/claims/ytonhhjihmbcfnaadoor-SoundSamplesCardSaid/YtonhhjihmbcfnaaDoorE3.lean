import Derived.Lib.Hide
import Derived.Test.YtonhhjihmbcfnaaDoorE2
namespace Go.Proofs.YtonhhjihmbcfnaaDoor
open Go.RowKit
set_option linter.unusedSimpArgs false
set_option linter.unusedVariables false

set_option maxHeartbeats 1000000 in
theorem clock_true (k : Hd) (ha : k.Apart) (s : Sound) (wf : s.WF) (hin : s.In) (w : World) (hT : Tabs2 w) (h : SoundAt w k s) (hev : s.even = true) :
    Calls Tryd.prog 15 #[k.ptr] w (SndTurns k s.clock (.tuple #[]) w) := by
  have hbig := Hd.big ha
  have hev' : s.tick.even = true := s.tick_kinds.1.trans hev
  have wt := wf.tick hin
  have Hc : Hid (s.clock = { s.tick with t2 := s.tick.t2.clock, t3 := s.tick.t3.clock, t0 := s.tick.t0.clock, t1 := s.tick.t1.clock, even := false, m := s.tick.m.clock }) := by
    unfold Hid Sound.clock
    simp only [hev', if_true, if_false, Bool.not_true, Bool.not_false, reduceCtorEq]
  have HT := snd_tick k ha s wf hin w hT h
  generalize s.tick = u at Hc HT hev' wt
  have HH := Lib.hid HT
  clear HT hev
  unfold Hd.ptr at *
  go_enter Tryd.func15, Tryd.ntmps15
  go_wp2_with fail
  refine HH.out.mono ?_
  rintro e w1 ⟨rfl, h1, U1⟩
  have T1 := hT.upd U1 hbig
  have q2 : w1.cell? ⟨k.b, 2, none⟩ = some (Value.pointer (some ⟨k.p2, 0, none⟩)) := h1.snd.cell 2
  go_wp2_with fail
  clear q2
  refine (tone_clock k.p2 u.t2 wt.t2 _ (by exact h1.t2)).mono ?_
  rintro e w2 ⟨rfl, hA, hU⟩
  have h2 := h1.set2 ha hA hU
  have U2 := Upd.trans U1 hU.in2
  clear hA hU U1
  have q3 : w2.cell? ⟨k.b, 3, none⟩ = some (Value.pointer (some ⟨k.p3, 0, none⟩)) := h2.snd.cell 3
  go_wp2_with fail
  clear q3
  refine (tone_clock k.p3 u.t3 wt.t3 _ (by exact h2.t3)).mono ?_
  rintro e w3 ⟨rfl, hA, hU⟩
  have h3 := h2.set3 ha hA hU
  have U3 := Upd.trans U2 hU.in3
  clear hA hU U2
  have d22 : w3.cell? ⟨k.b, 22, none⟩ = some (.bool true) := by rw [← hev']; exact h3.snd.cell 22
  have q0 : w3.cell? ⟨k.b, 0, none⟩ = some (Value.pointer (some ⟨k.p0, 0, none⟩)) := h3.snd.cell 0
  go_wp2_with fail
  clear q0 d22
  refine (tone_clock k.p0 u.t0 wt.t0 _ (by exact h3.t0)).mono ?_
  rintro e w4 ⟨rfl, hA, hU⟩
  have h4 := h3.set0 ha hA hU
  have U4 := Upd.trans U3 hU.in0
  clear hA hU U3
  have q1 : w4.cell? ⟨k.b, 1, none⟩ = some (Value.pointer (some ⟨k.p1, 0, none⟩)) := h4.snd.cell 1
  go_wp2_with fail
  clear q1
  refine (tone_clock k.p1 u.t1 wt.t1 _ (by exact h4.t1)).mono ?_
  rintro e w5 ⟨rfl, hA, hU⟩
  have h5 := h4.set1 ha hA hU
  have U5 := Upd.trans U4 hU.in1
  clear hA hU U4
  have d22 : w5.cell? ⟨k.b, 22, none⟩ = some (.bool true) := by rw [← hev']; exact h5.snd.cell 22
  have hf : ∀ i, w5.frozen? ⟨k.b, i, none⟩ = false := h5.snd.frozen
  go_wp2_with fail
  have T9 := hT.upd U5 hbig
  have UC : Upd [k.b] w5 (w5.setCell ⟨k.b, 22, none⟩ (.bool false)) := (Upd.refl _ _).setCell (by simp) _
  have h9 : SoundAt (w5.setCell ⟨k.b, 22, none⟩ (.bool false)) k { u with t2 := u.t2.clock, t3 := u.t3.clock, t0 := u.t0.clock, t1 := u.t1.clock, even := false } := by
    refine SoundAt.setB ha h5 (At.eq (h5.snd.setCell 22 _) ?_) UC rfl rfl rfl rfl
    simp only [Sound.enc, List.set_cons_zero, List.set_cons_succ]
  refine (smp_clock k.b k.p0 k.p1 k.p2 k.p3 ha.gb { u with t2 := u.t2.clock, t3 := u.t3.clock, t0 := u.t0.clock, t1 := u.t1.clock, even := false } wt.m _ (T9.upd UC (by simpa using ha.gb)) (by exact h9.snd)).mono ?_
  rintro e w10 ⟨rfl, hA, hU⟩
  have h10 := SoundAt.setB ha h9 hA hU rfl rfl rfl rfl
  go_wp2
  go_end0
  rw [Hc.out]
  exact ⟨rfl, h10, Upd.trans U5 (Upd.inB (UC.trans hU))⟩

set_option maxHeartbeats 1000000 in
theorem clock_false (k : Hd) (ha : k.Apart) (s : Sound) (wf : s.WF) (hin : s.In) (w : World) (hT : Tabs2 w) (h : SoundAt w k s) (hev : s.even = false) :
    Calls Tryd.prog 15 #[k.ptr] w (SndTurns k s.clock (.tuple #[]) w) := by
  have hbig := Hd.big ha
  have hev' : s.tick.even = false := s.tick_kinds.1.trans hev
  have wt := wf.tick hin
  have Hc : Hid (s.clock = { s.tick with t2 := s.tick.t2.clock, t3 := s.tick.t3.clock, t0 := s.tick.t0, t1 := s.tick.t1, even := true, m := s.tick.m.clock }) := by
    unfold Hid Sound.clock
    simp only [hev', if_true, if_false, Bool.not_true, Bool.not_false, reduceCtorEq]
  have HT := snd_tick k ha s wf hin w hT h
  generalize s.tick = u at Hc HT hev' wt
  have HH := Lib.hid HT
  clear HT hev
  unfold Hd.ptr at *
  go_enter Tryd.func15, Tryd.ntmps15
  go_wp2_with fail
  refine HH.out.mono ?_
  rintro e w1 ⟨rfl, h1, U1⟩
  have T1 := hT.upd U1 hbig
  have q2 : w1.cell? ⟨k.b, 2, none⟩ = some (Value.pointer (some ⟨k.p2, 0, none⟩)) := h1.snd.cell 2
  go_wp2_with fail
  clear q2
  refine (tone_clock k.p2 u.t2 wt.t2 _ (by exact h1.t2)).mono ?_
  rintro e w2 ⟨rfl, hA, hU⟩
  have h2 := h1.set2 ha hA hU
  have U2 := Upd.trans U1 hU.in2
  clear hA hU U1
  have q3 : w2.cell? ⟨k.b, 3, none⟩ = some (Value.pointer (some ⟨k.p3, 0, none⟩)) := h2.snd.cell 3
  go_wp2_with fail
  clear q3
  refine (tone_clock k.p3 u.t3 wt.t3 _ (by exact h2.t3)).mono ?_
  rintro e w3 ⟨rfl, hA, hU⟩
  have h3 := h2.set3 ha hA hU
  have U3 := Upd.trans U2 hU.in3
  clear hA hU U2
  have d22 : w3.cell? ⟨k.b, 22, none⟩ = some (.bool false) := by rw [← hev']; exact h3.snd.cell 22
  have hf : ∀ i, w3.frozen? ⟨k.b, i, none⟩ = false := h3.snd.frozen
  go_wp2_with fail
  have T9 := hT.upd U3 hbig
  have UC : Upd [k.b] w3 (w3.setCell ⟨k.b, 22, none⟩ (.bool true)) := (Upd.refl _ _).setCell (by simp) _
  have h9 : SoundAt (w3.setCell ⟨k.b, 22, none⟩ (.bool true)) k { u with t2 := u.t2.clock, t3 := u.t3.clock, even := true } := by
    refine SoundAt.setB ha h3 (At.eq (h3.snd.setCell 22 _) ?_) UC rfl rfl rfl rfl
    simp only [Sound.enc, List.set_cons_zero, List.set_cons_succ]
  refine (smp_clock k.b k.p0 k.p1 k.p2 k.p3 ha.gb { u with t2 := u.t2.clock, t3 := u.t3.clock, even := true } wt.m _ (T9.upd UC (by simpa using ha.gb)) (by exact h9.snd)).mono ?_
  rintro e w10 ⟨rfl, hA, hU⟩
  have h10 := SoundAt.setB ha h9 hA hU rfl rfl rfl rfl
  go_wp2
  go_end0
  rw [Hc.out]
  exact ⟨rfl, h10, Upd.trans U3 (Upd.inB (UC.trans hU))⟩

theorem snd_clock (k : Hd) (ha : k.Apart) (s : Sound) (wf : s.WF) (hin : s.In) (w : World) (hT : Tabs2 w) (h : SoundAt w k s) :
    Calls Tryd.prog 15 #[k.ptr] w (SndTurns k s.clock (.tuple #[]) w) := by
  cases hev : s.even
  · exact clock_false k ha s wf hin w hT h hev
  · exact clock_true k ha s wf hin w hT h hev
end Go.Proofs.YtonhhjihmbcfnaaDoor

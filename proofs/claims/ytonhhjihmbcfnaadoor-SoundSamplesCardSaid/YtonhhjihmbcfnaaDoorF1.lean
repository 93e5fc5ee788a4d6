import Derived.Lib.Hide
import Derived.Test.YtonhhjihmbcfnaaDoorD3
namespace Go.Proofs.YtonhhjihmbcfnaaDoor
open Go.RowKit
set_option linter.unusedSimpArgs false
set_option linter.unusedVariables false

set_option maxHeartbeats 1000000 in
theorem put_enable (k : Hd) (ha : k.Apart) (s : Sound) (wf : s.WF) (r : Int) (wr : 0 ≤ r ∧ r ≤ 255) (w : World) (hT : Tabs w) (h : SoundAt w k s) :
    Calls Tryd.prog 12 #[k.ptr, .int .u16 16405, .int .u8 r] w (SndTurns k (s.enable r) (.tuple #[]) w) := by
  have c0 : _ = some (Value.pointer (some ⟨k.p0, 0, none⟩)) := h.snd.cell 0
  have c1 : _ = some (Value.pointer (some ⟨k.p1, 0, none⟩)) := h.snd.cell 1
  have c2 : _ = some (Value.pointer (some ⟨k.p2, 0, none⟩)) := h.snd.cell 2
  have c3 : _ = some (Value.pointer (some ⟨k.p3, 0, none⟩)) := h.snd.cell 3
  have e0 : bits .and .u8 r 1 = r % 2 := and1 _ wr.1 wr.2
  have e1 : bits .and .u8 (r / 2) 1 = r / 2 % 2 := and1 _ (by omega) (by omega)
  have e2 : bits .and .u8 (r / 4) 1 = r / 4 % 2 := and1 _ (by omega) (by omega)
  have e3 : bits .and .u8 (r / 8) 1 = r / 8 % 2 := and1 _ (by omega) (by omega)
  have f0 : (r % 2 != 0) = decide (r % 2 = 1) := by rw [Bool.eq_iff_iff]; simp; omega
  have f1 : (r / 2 % 2 != 0) = decide (r / 2 % 2 = 1) := by rw [Bool.eq_iff_iff]; simp; omega
  have f2 : (r / 4 % 2 != 0) = decide (r / 4 % 2 = 1) := by rw [Bool.eq_iff_iff]; simp; omega
  have f3 : (r / 8 % 2 != 0) = decide (r / 8 % 2 = 1) := by rw [Bool.eq_iff_iff]; simp; omega
  have e16 : bits .and .u8 r 16 = r / 16 % 2 * 16 := and16 _ wr.1 wr.2
  have f16 : (r / 16 % 2 * 16 != 0) = decide (r / 16 % 2 = 1) := by rw [Bool.eq_iff_iff]; simp; omega
  have i0 := fun w => (idx64 (Value.pointer (some ⟨k.p0, 0, none⟩)) (Value.pointer (some ⟨k.p1, 0, none⟩)) (Value.pointer (some ⟨k.p2, 0, none⟩)) (Value.pointer (some ⟨k.p3, 0, none⟩)) w).1
  have i1 := fun w => (idx64 (Value.pointer (some ⟨k.p0, 0, none⟩)) (Value.pointer (some ⟨k.p1, 0, none⟩)) (Value.pointer (some ⟨k.p2, 0, none⟩)) (Value.pointer (some ⟨k.p3, 0, none⟩)) w).2.1
  have i2 := fun w => (idx64 (Value.pointer (some ⟨k.p0, 0, none⟩)) (Value.pointer (some ⟨k.p1, 0, none⟩)) (Value.pointer (some ⟨k.p2, 0, none⟩)) (Value.pointer (some ⟨k.p3, 0, none⟩)) w).2.2.1
  have i3 := fun w => (idx64 (Value.pointer (some ⟨k.p0, 0, none⟩)) (Value.pointer (some ⟨k.p1, 0, none⟩)) (Value.pointer (some ⟨k.p2, 0, none⟩)) (Value.pointer (some ⟨k.p3, 0, none⟩)) w).2.2.2
  unfold Hd.ptr
  go_enter Tryd.func12, Tryd.ntmps12
  go_wp2_with fail
  clear c0 c1 c2 c3
  refine wp_loop_rounds 5 ?_
  rw [rounds_succ]
  go_wp2_with fail
  refine (tone_enable k.p0 s.t0 wf.t0 (decide (r % 2 = 1)) _ (by exact h.t0)).mono ?_
  rintro e w1 ⟨rfl, hA, hU1⟩
  have h1 := h.set0 ha hA hU1
  clear hA
  go_wp2_with fail
  rw [rounds_succ]
  go_wp2_with fail
  refine (tone_enable k.p1 s.t1 wf.t1 (decide (r / 2 % 2 = 1)) _ (by exact h1.t1)).mono ?_
  rintro e w2 ⟨rfl, hA, hU2⟩
  have h2 := h1.set1 ha hA hU2
  clear hA
  go_wp2_with fail
  rw [rounds_succ]
  go_wp2_with fail
  refine (tone_enable k.p2 s.t2 wf.t2 (decide (r / 4 % 2 = 1)) _ (by exact h2.t2)).mono ?_
  rintro e w3 ⟨rfl, hA, hU3⟩
  have h3 := h2.set2 ha hA hU3
  clear hA
  go_wp2_with fail
  rw [rounds_succ]
  go_wp2_with fail
  refine (tone_enable k.p3 s.t3 wf.t3 (decide (r / 8 % 2 = 1)) _ (by exact h3.t3)).mono ?_
  rintro e w4 ⟨rfl, hA, hU4⟩
  have h4 := h3.set3 ha hA hU4
  clear hA
  go_wp2_with fail
  rw [rounds_succ]
  go_wp2_with fail
  refine (smp_enable k.b k.p0 k.p1 k.p2 k.p3 { s with t0 := s.t0.enable (decide (r % 2 = 1)), t1 := s.t1.enable (decide (r / 2 % 2 = 1)), t2 := s.t2.enable (decide (r / 4 % 2 = 1)), t3 := s.t3.enable (decide (r / 8 % 2 = 1)) } wf.m (decide (r / 16 % 2 = 1)) _ (by exact h4.snd)).mono ?_
  rintro e w5 ⟨rfl, hA, hU5⟩
  have h5 := SoundAt.setB ha h4 hA hU5 rfl rfl rfl rfl
  go_wp2
  go_end0
  exact ⟨rfl, h5, (((hU1.in0.trans hU2.in1).trans hU3.in2).trans hU4.in3).trans hU5.inB⟩
end Go.Proofs.YtonhhjihmbcfnaaDoor

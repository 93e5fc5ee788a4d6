import Derived.Lib.Hide
import Derived.Test.YtonhhjihmbcfnaaDoorT2
import Derived.Test.YtonhhjihmbcfnaaDoorT3
import Derived.Test.YtonhhjihmbcfnaaDoorT6
import Derived.Test.YtonhhjihmbcfnaaDoorT7
import Derived.Test.YtonhhjihmbcfnaaDoorT8
import Derived.Test.YtonhhjihmbcfnaaDoorS4
import Derived.Test.YtonhhjihmbcfnaaDoorS5
namespace Go.Proofs.YtonhhjihmbcfnaaDoor
open Go.RowKit
set_option linter.unusedSimpArgs false
set_option linter.unusedVariables false

/-- Where a sound lies: its own block, its four tones'. -/
structure Hd where
  b : Nat
  p0 : Nat
  p1 : Nat
  p2 : Nat
  p3 : Nat
def Hd.blocks (k : Hd) : List Nat := [k.b, k.p0, k.p1, k.p2, k.p3]
structure Hd.Apart (k : Hd) : Prop where
  gb : 4 < k.b
  g0 : 4 < k.p0
  g1 : 4 < k.p1
  g2 : 4 < k.p2
  g3 : 4 < k.p3
  b0 : k.b ≠ k.p0
  b1 : k.b ≠ k.p1
  b2 : k.b ≠ k.p2
  b3 : k.b ≠ k.p3
  a01 : k.p0 ≠ k.p1
  a02 : k.p0 ≠ k.p2
  a03 : k.p0 ≠ k.p3
  a12 : k.p1 ≠ k.p2
  a13 : k.p1 ≠ k.p3
  a23 : k.p2 ≠ k.p3
structure SoundAt (w : World) (k : Hd) (s : Sound) : Prop where
  snd : At w k.b (s.enc k.p0 k.p1 k.p2 k.p3) 66
  t0 : At w k.p0 s.t0.enc 83
  t1 : At w k.p1 s.t1.enc 83
  t2 : At w k.p2 s.t2.enc 83
  t3 : At w k.p3 s.t3.enc 83
def Hd.ptr (k : Hd) : Value := .pointer (some ⟨k.b, 0, none⟩)
theorem Hd.big {k : Hd} (ha : k.Apart) : ∀ x, x ∈ k.blocks → 4 < x := by
  intro x hx
  simp only [Hd.blocks, List.mem_cons, List.not_mem_nil, or_false] at hx
  obtain ⟨gb, g0, g1, g2, g3, _⟩ := ha
  omega
theorem SoundAt.upd {S : List Nat} {w w' : World} {k : Hd} {s : Sound} (h : SoundAt w k s) (hu : Upd S w w') (hS : ∀ x, x ∈ k.blocks → x ∉ S) : SoundAt w' k s :=
  ⟨h.snd.upd hu (hS _ (by simp [Hd.blocks])), h.t0.upd hu (hS _ (by simp [Hd.blocks])), h.t1.upd hu (hS _ (by simp [Hd.blocks])), h.t2.upd hu (hS _ (by simp [Hd.blocks])), h.t3.upd hu (hS _ (by simp [Hd.blocks]))⟩
theorem SoundAt.same {w w' : World} {k : Hd} {s : Sound} (h : SoundAt w k s) (hu : Same w w') : SoundAt w' k s :=
  ⟨h.snd.same hu, h.t0.same hu, h.t1.same hu, h.t2.same hu, h.t3.same hu⟩
theorem SoundAt.alloc {w : World} {k : Hd} {s : Sound} (h : SoundAt w k s) (o : Obj) : SoundAt (w.alloc o) k s := ⟨h.snd.alloc o, h.t0.alloc o, h.t1.alloc o, h.t2.alloc o, h.t3.alloc o⟩
theorem SoundAt.set0 {w w' : World} {k : Hd} {s : Sound} (ha : k.Apart) (h : SoundAt w k s) {t : Tone} (h' : At w' k.p0 t.enc 83) (hu : Upd [k.p0] w w') : SoundAt w' k { s with t0 := t } :=
  ⟨h.snd.upd hu (by simpa using ha.b0), h', h.t1.upd hu (by simpa using ha.a01.symm), h.t2.upd hu (by simpa using ha.a02.symm), h.t3.upd hu (by simpa using ha.a03.symm)⟩
theorem SoundAt.set1 {w w' : World} {k : Hd} {s : Sound} (ha : k.Apart) (h : SoundAt w k s) {t : Tone} (h' : At w' k.p1 t.enc 83) (hu : Upd [k.p1] w w') : SoundAt w' k { s with t1 := t } :=
  ⟨h.snd.upd hu (by simpa using ha.b1), h.t0.upd hu (by simpa using ha.a01), h', h.t2.upd hu (by simpa using ha.a12.symm), h.t3.upd hu (by simpa using ha.a13.symm)⟩
theorem SoundAt.set2 {w w' : World} {k : Hd} {s : Sound} (ha : k.Apart) (h : SoundAt w k s) {t : Tone} (h' : At w' k.p2 t.enc 83) (hu : Upd [k.p2] w w') : SoundAt w' k { s with t2 := t } :=
  ⟨h.snd.upd hu (by simpa using ha.b2), h.t0.upd hu (by simpa using ha.a02), h.t1.upd hu (by simpa using ha.a12), h', h.t3.upd hu (by simpa using ha.a23.symm)⟩
theorem SoundAt.set3 {w w' : World} {k : Hd} {s : Sound} (ha : k.Apart) (h : SoundAt w k s) {t : Tone} (h' : At w' k.p3 t.enc 83) (hu : Upd [k.p3] w w') : SoundAt w' k { s with t3 := t } :=
  ⟨h.snd.upd hu (by simpa using ha.b3), h.t0.upd hu (by simpa using ha.a03), h.t1.upd hu (by simpa using ha.a13), h.t2.upd hu (by simpa using ha.a23), h'⟩
theorem SoundAt.setB {w w' : World} {k : Hd} {s s' : Sound} (ha : k.Apart) (h : SoundAt w k s) (h' : At w' k.b (s'.enc k.p0 k.p1 k.p2 k.p3) 66) (hu : Upd [k.b] w w')
    (e0 : s'.t0 = s.t0) (e1 : s'.t1 = s.t1) (e2 : s'.t2 = s.t2) (e3 : s'.t3 = s.t3) : SoundAt w' k s' :=
  ⟨h', by rw [e0]; exact h.t0.upd hu (by simpa using ha.b0.symm), by rw [e1]; exact h.t1.upd hu (by simpa using ha.b1.symm), by rw [e2]; exact h.t2.upd hu (by simpa using ha.b2.symm), by rw [e3]; exact h.t3.upd hu (by simpa using ha.b3.symm)⟩
theorem Upd.in0 {k : Hd} {w w' : World} (h : Upd [k.p0] w w') : Upd k.blocks w w' := h.mono (by simp [Hd.blocks])
theorem Upd.in1 {k : Hd} {w w' : World} (h : Upd [k.p1] w w') : Upd k.blocks w w' := h.mono (by simp [Hd.blocks])
theorem Upd.in2 {k : Hd} {w w' : World} (h : Upd [k.p2] w w') : Upd k.blocks w w' := h.mono (by simp [Hd.blocks])
theorem Upd.in3 {k : Hd} {w w' : World} (h : Upd [k.p3] w w') : Upd k.blocks w w' := h.mono (by simp [Hd.blocks])
theorem Upd.inB {k : Hd} {w w' : World} (h : Upd [k.b] w w') : Upd k.blocks w w' := h.mono (by simp [Hd.blocks])
def SndTurns (k : Hd) (s : Sound) (v : Value) (w : World) (e : Ending) (w' : World) : Prop := e = .returned v ∧ SoundAt w' k s ∧ Upd k.blocks w w'

theorem idx64 (a b c d : Value) (w : World) : (Instr.index 64 (.agg #[a, b, c, d]) (.int .i64 0)).run Tryd.prog w = .ok a w ∧ (Instr.index 64 (.agg #[a, b, c, d]) (.int .i64 1)).run Tryd.prog w = .ok b w
    ∧ (Instr.index 64 (.agg #[a, b, c, d]) (.int .i64 2)).run Tryd.prog w = .ok c w ∧ (Instr.index 64 (.agg #[a, b, c, d]) (.int .i64 3)).run Tryd.prog w = .ok d w := by
  refine ⟨?_, ?_, ?_, ?_⟩ <;> kernel_rfl

set_option maxHeartbeats 1000000 in
theorem snd_all_quarter (k : Hd) (ha : k.Apart) (s : Sound) (wf : s.WF) (w : World) (h : SoundAt w k s) :
    Calls Tryd.prog 56 #[k.ptr, .func (.func 57) #[] #[]] w (SndTurns k s.quarter (.tuple #[]) w) := by
  have c0 : _ = some (Value.pointer (some ⟨k.p0, 0, none⟩)) := h.snd.cell 0
  have c1 : _ = some (Value.pointer (some ⟨k.p1, 0, none⟩)) := h.snd.cell 1
  have c2 : _ = some (Value.pointer (some ⟨k.p2, 0, none⟩)) := h.snd.cell 2
  have c3 : _ = some (Value.pointer (some ⟨k.p3, 0, none⟩)) := h.snd.cell 3
  have i0 := fun w => (idx64 (Value.pointer (some ⟨k.p0, 0, none⟩)) (Value.pointer (some ⟨k.p1, 0, none⟩)) (Value.pointer (some ⟨k.p2, 0, none⟩)) (Value.pointer (some ⟨k.p3, 0, none⟩)) w).1
  have i1 := fun w => (idx64 (Value.pointer (some ⟨k.p0, 0, none⟩)) (Value.pointer (some ⟨k.p1, 0, none⟩)) (Value.pointer (some ⟨k.p2, 0, none⟩)) (Value.pointer (some ⟨k.p3, 0, none⟩)) w).2.1
  have i2 := fun w => (idx64 (Value.pointer (some ⟨k.p0, 0, none⟩)) (Value.pointer (some ⟨k.p1, 0, none⟩)) (Value.pointer (some ⟨k.p2, 0, none⟩)) (Value.pointer (some ⟨k.p3, 0, none⟩)) w).2.2.1
  have i3 := fun w => (idx64 (Value.pointer (some ⟨k.p0, 0, none⟩)) (Value.pointer (some ⟨k.p1, 0, none⟩)) (Value.pointer (some ⟨k.p2, 0, none⟩)) (Value.pointer (some ⟨k.p3, 0, none⟩)) w).2.2.2
  unfold Hd.ptr
  go_enter Tryd.func56, Tryd.ntmps56
  go_wp2_with fail
  clear c0 c1 c2 c3
  refine wp_loop_rounds 5 ?_
  rw [rounds_succ]
  go_wp2_with fail
  refine (tone_quarter k.p0 s.t0 wf.t0 _ (by exact h.t0)).mono ?_
  rintro e w1 ⟨rfl, hA1, hU1⟩
  have h1 := h.set0 ha hA1 hU1
  go_wp2_with fail
  rw [rounds_succ]
  go_wp2_with fail
  refine (tone_quarter k.p1 s.t1 wf.t1 _ (by exact h1.t1)).mono ?_
  rintro e w2 ⟨rfl, hA2, hU2⟩
  have h2 := h1.set1 ha hA2 hU2
  go_wp2_with fail
  rw [rounds_succ]
  go_wp2_with fail
  refine (tone_quarter k.p2 s.t2 wf.t2 _ (by exact h2.t2)).mono ?_
  rintro e w3 ⟨rfl, hA3, hU3⟩
  have h3 := h2.set2 ha hA3 hU3
  go_wp2_with fail
  rw [rounds_succ]
  go_wp2_with fail
  refine (tone_quarter k.p3 s.t3 wf.t3 _ (by exact h3.t3)).mono ?_
  rintro e w4 ⟨rfl, hA4, hU4⟩
  have h4 := h3.set3 ha hA4 hU4
  go_wp2_with fail
  rw [rounds_succ]
  go_wp2_with fail
  go_end0
  exact ⟨rfl, h4, ((hU1.in0.trans hU2.in1).trans hU3.in2).trans hU4.in3⟩

set_option maxHeartbeats 1000000 in
theorem snd_all_half (k : Hd) (ha : k.Apart) (s : Sound) (wf : s.WF) (w : World) (h : SoundAt w k s) :
    Calls Tryd.prog 56 #[k.ptr, .func (.func 58) #[] #[]] w (SndTurns k s.half (.tuple #[]) w) := by
  have c0 : _ = some (Value.pointer (some ⟨k.p0, 0, none⟩)) := h.snd.cell 0
  have c1 : _ = some (Value.pointer (some ⟨k.p1, 0, none⟩)) := h.snd.cell 1
  have c2 : _ = some (Value.pointer (some ⟨k.p2, 0, none⟩)) := h.snd.cell 2
  have c3 : _ = some (Value.pointer (some ⟨k.p3, 0, none⟩)) := h.snd.cell 3
  have i0 := fun w => (idx64 (Value.pointer (some ⟨k.p0, 0, none⟩)) (Value.pointer (some ⟨k.p1, 0, none⟩)) (Value.pointer (some ⟨k.p2, 0, none⟩)) (Value.pointer (some ⟨k.p3, 0, none⟩)) w).1
  have i1 := fun w => (idx64 (Value.pointer (some ⟨k.p0, 0, none⟩)) (Value.pointer (some ⟨k.p1, 0, none⟩)) (Value.pointer (some ⟨k.p2, 0, none⟩)) (Value.pointer (some ⟨k.p3, 0, none⟩)) w).2.1
  have i2 := fun w => (idx64 (Value.pointer (some ⟨k.p0, 0, none⟩)) (Value.pointer (some ⟨k.p1, 0, none⟩)) (Value.pointer (some ⟨k.p2, 0, none⟩)) (Value.pointer (some ⟨k.p3, 0, none⟩)) w).2.2.1
  have i3 := fun w => (idx64 (Value.pointer (some ⟨k.p0, 0, none⟩)) (Value.pointer (some ⟨k.p1, 0, none⟩)) (Value.pointer (some ⟨k.p2, 0, none⟩)) (Value.pointer (some ⟨k.p3, 0, none⟩)) w).2.2.2
  unfold Hd.ptr
  go_enter Tryd.func56, Tryd.ntmps56
  go_wp2_with fail
  clear c0 c1 c2 c3
  refine wp_loop_rounds 5 ?_
  rw [rounds_succ]
  go_wp2_with fail
  refine (tone_half k.p0 s.t0 wf.t0 _ (by exact h.t0)).mono ?_
  rintro e w1 ⟨rfl, hA1, hU1⟩
  have h1 := h.set0 ha hA1 hU1
  go_wp2_with fail
  rw [rounds_succ]
  go_wp2_with fail
  refine (tone_half k.p1 s.t1 wf.t1 _ (by exact h1.t1)).mono ?_
  rintro e w2 ⟨rfl, hA2, hU2⟩
  have h2 := h1.set1 ha hA2 hU2
  go_wp2_with fail
  rw [rounds_succ]
  go_wp2_with fail
  refine (tone_half k.p2 s.t2 wf.t2 _ (by exact h2.t2)).mono ?_
  rintro e w3 ⟨rfl, hA3, hU3⟩
  have h3 := h2.set2 ha hA3 hU3
  go_wp2_with fail
  rw [rounds_succ]
  go_wp2_with fail
  refine (tone_half k.p3 s.t3 wf.t3 _ (by exact h3.t3)).mono ?_
  rintro e w4 ⟨rfl, hA4, hU4⟩
  have h4 := h3.set3 ha hA4 hU4
  go_wp2_with fail
  rw [rounds_succ]
  go_wp2_with fail
  go_end0
  exact ⟨rfl, h4, ((hU1.in0.trans hU2.in1).trans hU3.in2).trans hU4.in3⟩
end Go.Proofs.YtonhhjihmbcfnaaDoor

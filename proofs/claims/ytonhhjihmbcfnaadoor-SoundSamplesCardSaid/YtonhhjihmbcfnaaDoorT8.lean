import Derived.Test.YtonhhjihmbcfnaaDoorT1
namespace Go.Proofs.YtonhhjihmbcfnaaDoor
open Go.RowKit
set_option linter.unusedSimpArgs false
set_option linter.unusedVariables false

def Makes (P : Nat → World → Prop) (w : World) (e : Ending) (w' : World) : Prop :=
  ∃ b, e = .returned (.pointer (some ⟨b, 0, none⟩)) ∧ w.heap.size ≤ b ∧ P b w' ∧ Upd [] w w'

set_option maxHeartbeats 1000000 in
theorem tone_copy (b : Nat) (t : Tone) (w : World) (h : At w b t.enc 83) :
    Calls Tryd.prog 53 #[.pointer (some ⟨b, 0, none⟩)] w (Makes (fun b' w' => At w' b' t.enc 83) w) := by
  have c0 : _ = some (Value.int .u8 t.kind) := h.cell 0
  have c1 : _ = some (Value.bool t.on) := h.cell 1
  have c2 : _ = some (Value.int .u8 t.r0) := h.cell 2
  have c3 : _ = some (Value.int .u8 t.r1) := h.cell 3
  have c4 : _ = some (Value.int .u8 t.r2) := h.cell 4
  have c5 : _ = some (Value.int .u8 t.r3) := h.cell 5
  have c6 : _ = some (Value.int .u8 t.length) := h.cell 6
  have c7 : _ = some (Value.int .u16 t.period) := h.cell 7
  have c8 : _ = some (Value.int .u16 t.timer) := h.cell 8
  have c9 : _ = some (Value.int .u8 t.step) := h.cell 9
  have c10 : _ = some (Value.bool t.begins) := h.cell 10
  have c11 : _ = some (Value.int .u8 t.level) := h.cell 11
  have c12 : _ = some (Value.int .u8 t.count) := h.cell 12
  have c13 : _ = some (Value.int .u8 t.sweep) := h.cell 13
  have c14 : _ = some (Value.bool t.swept) := h.cell 14
  have c15 : _ = some (Value.int .u8 t.line) := h.cell 15
  have c16 : _ = some (Value.int .u16 t.row) := h.cell 16
  go_enter Tryd.func53, Tryd.ntmps53
  go_wp2
  all_goals go_ret
  exact ⟨w.heap.size, rfl, Nat.le_refl _, At.new w _ _, (Upd.refl _ _).alloc _⟩

set_option maxHeartbeats 1000000 in
theorem tone_new (k : Int) (hk : 0 ≤ k) (hk3 : k ≤ 3) (w : World) (hT : Tabs w) (hw : 4 < w.heap.size) :
    Calls Tryd.prog 28 #[.int .u8 k] w (Makes (fun b' w' => At w' b' (Tone.new k).enc 83) w) := by
  have hp : 0 < w.heap.size := by omega
  have c0 : w.cell? ⟨0, 0, none⟩ = some (.int .u16 4) := hT.noises 0 (by omega) (by omega)
  clear hT
  by_cases h3 : k = 3
  all_goals go_enter Tryd.func28, Tryd.ntmps28
  all_goals go_wp2
  all_goals go_ret
  · subst h3
    exact ⟨w.heap.size, rfl, Nat.le_refl _, At.new w _ _, (Upd.refl _ _).alloc _⟩
  · refine ⟨w.heap.size, rfl, Nat.le_refl _, At.eq (At.new w _ _) ?_, (Upd.refl _ _).alloc _⟩
    simp only [Tone.new, if_neg h3, Tone.enc]
end Go.Proofs.YtonhhjihmbcfnaaDoor

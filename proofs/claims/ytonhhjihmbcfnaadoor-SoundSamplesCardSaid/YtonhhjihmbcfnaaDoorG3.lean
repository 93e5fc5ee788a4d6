import Derived.Lib.Hide
import Derived.Deep.RegionWith
import Derived.Test.YtonhhjihmbcfnaaDoorD3
import Derived.Test.YtonhhjihmbcfnaaDoorG2
namespace Go.Proofs.YtonhhjihmbcfnaaDoor
open Go.RowKit
set_option linter.unusedSimpArgs false
set_option linter.unusedVariables false

def newL : List Value := [.pointer none, .pointer none, .pointer none, .pointer none, .int .u8 0, .int .u8 0, .int .u8 0, .int .u8 0, .int .u8 0, .int .u8 0, .bool false, .int .u8 0, .int .u8 8, .bool false, .int .u16 0, .int .u16 0, .int .i64 0, .bool false, .int .i64 0, .int .i64 0, .bool false, .bool false, .bool false]
def MakesSound (s : Sound) (w : World) (e : Ending) (w' : World) : Prop :=
  ∃ k : Hd, e = .returned k.ptr ∧ k.Apart ∧ (∀ x, x ∈ k.blocks → w.heap.size ≤ x) ∧ SoundAt w' k s ∧ Upd [] w w'

set_option maxHeartbeats 1000000 in
theorem snd_asks (k : Hd) (s : Sound) (wf : s.WF) (w : World) (h : SoundAt w k s) :
    Calls Tryd.prog 26 #[k.ptr] w (Tells (.tuple #[.int .u16 (if s.m.asks = true then s.m.at_ else 0), .bool s.m.asks]) w) := by
  have c15 : _ = some (Value.int .u16 s.m.at_) := h.snd.cell 15
  have HA := smp_asks k.b k.p0 k.p1 k.p2 k.p3 s wf.m w h.snd
  unfold Hd.ptr
  cases hb : s.m.asks
  all_goals rw [hb] at HA
  all_goals have HAs := Lib.hid HA
  all_goals clear HA
  all_goals go_enter Tryd.func26, Tryd.ntmps26
  all_goals go_wp2_with fail
  all_goals refine HAs.out.mono ?_
  all_goals rintro e w1 ⟨rfl, n1, rfl⟩
  all_goals go_wp2
  all_goals go_ret2
  all_goals refine ⟨?_, (by repeat (first | with_reducible exact Same.refl _ | with_reducible apply Same.drewN | with_reducible apply Same.drew))⟩
  all_goals simp

set_option maxHeartbeats 1000000 in
theorem snd_new (w : World) (hT : Tabs w) (hw : 4 < w.heap.size) :
    Calls Tryd.prog 11 #[] w (MakesSound Sound.new w) := by
  have hN : At (w.alloc (.cells newL.toArray 66)) w.heap.size newL 66 := At.new _ _ _
  have hU : Upd [] w (w.alloc (.cells newL.toArray 66)) := (Upd.refl _ _).alloc _
  have hS : (w.alloc (.cells newL.toArray 66)).heap.size = w.heap.size + 1 := by simp
  unfold newL at hN hU hS
  have hT0 := hT.upd hU (by simp)
  go_enter Tryd.func11, Tryd.ntmps11
  go_wp2_with fail
  generalize (w.alloc (Obj.cells _ 66)) = W0 at *
  have hS0 : 4 < w.heap.size ∧ w.heap.size < W0.heap.size := by omega
  clear hS
  refine wp_loop_rounds 5 ?_
  rw [rounds_succ]
  have g0 : W0.cell? ⟨w.heap.size, 0, none⟩ = some (.pointer none) := hN.cell 0
  have gf : ∀ i, W0.frozen? ⟨w.heap.size, i, none⟩ = false := hN.frozen
  have hw0 : IntKind.u8.wrap 0 = 0 := by rfl
  have HZ0 := Lib.hid hS0
  clear hS0
  go_wp2_with fail
  go_region_with ((go_at_call 28; refine (tone_new 0 (by omega) (by omega) _ (hT0.same (Same.refl _).drew) (by have := HZ0.out; simp; omega)).mono ?_; rintro e w1 ⟨p0, rfl, hp0, hA0, hU0⟩; have q0 : w1.cell? ⟨w.heap.size, 0, none⟩ = some (.pointer none) := (At.upd (w := W0.drew) hN hU0 (by simp)).cell 0; have qf : ∀ i, w1.frozen? ⟨w.heap.size, i, none⟩ = false := (At.upd (w := W0.drew) hN hU0 (by simp)).frozen))
  have hS0 := HZ0.out
  have hp0' : W0.heap.size ≤ p0 := hp0
  have hl0 := hA0.lt
  have hB1 : At (w1.setCell ⟨w.heap.size, 0, none⟩ (.pointer (some ⟨p0, 0, none⟩))) w.heap.size [Value.pointer (some ⟨p0, 0, none⟩), Value.pointer none, Value.pointer none, Value.pointer none, Value.int .u8 0, .int .u8 0, .int .u8 0, .int .u8 0, .int .u8 0, .int .u8 0, .bool false, .int .u8 0, .int .u8 8, .bool false, .int .u16 0, .int .u16 0, .int .i64 0, .bool false, .int .i64 0, .int .i64 0, .bool false, .bool false, .bool false] 66 := (At.upd (w := W0.drew) hN hU0 (by simp)).setCell 0 _
  have hA0' : At (w1.setCell ⟨w.heap.size, 0, none⟩ (.pointer (some ⟨p0, 0, none⟩))) p0 (Tone.new 0).enc 83 := hA0.setOther (by show w.heap.size ≠ p0; omega) _
  have hV1 : Upd [] w (w1.setCell ⟨w.heap.size, 0, none⟩ (.pointer (some ⟨p0, 0, none⟩))) := ((hU.drew).trans hU0).setCell (.inr (Nat.le_refl _)) _
  have hS1 : 4 < w.heap.size ∧ w.heap.size < p0 ∧ p0 < (w1.setCell ⟨w.heap.size, 0, none⟩ (.pointer (some ⟨p0, 0, none⟩))).heap.size := by simp only [World.setCell, Array.size_modify]; omega
  have hT1 : Tabs (w1.setCell ⟨w.heap.size, 0, none⟩ (.pointer (some ⟨p0, 0, none⟩))) := hT.upd hV1 (by simp)
  clear q0 qf g0 gf hw0 hN hU hT0 hS0 hU0 HZ0 hp0 hp0' hl0 hA0
  have HZ := Lib.hid hS1
  clear hS1
  go_wp2_with fail
  have hS1 := HZ.out
  clear HZ
  generalize (w1.setCell ⟨w.heap.size, 0, none⟩ (.pointer (some ⟨p0, 0, none⟩))) = V1 at *
  have hA0 := hA0'
  clear hA0'
  rw [rounds_succ]
  have g1 : V1.cell? ⟨w.heap.size, 1, none⟩ = some (.pointer none) := hB1.cell 1
  have gf : ∀ i, V1.frozen? ⟨w.heap.size, i, none⟩ = false := hB1.frozen
  have hw1 : IntKind.u8.wrap 1 = 1 := by rfl
  have HZ1 := Lib.hid hS1
  clear hS1
  go_wp2_with fail
  go_region_with ((go_at_call 28; refine (tone_new 1 (by omega) (by omega) _ (hT1.same (Same.refl _).drew) (by have := HZ1.out; simp; omega)).mono ?_; rintro e w1 ⟨p1, rfl, hp1, hA1, hU1⟩; have q1 : w1.cell? ⟨w.heap.size, 1, none⟩ = some (.pointer none) := (At.upd (w := V1.drew) hB1 hU1 (by simp)).cell 1; have qf : ∀ i, w1.frozen? ⟨w.heap.size, i, none⟩ = false := (At.upd (w := V1.drew) hB1 hU1 (by simp)).frozen))
  have hS1 := HZ1.out
  have hp1' : V1.heap.size ≤ p1 := hp1
  have hl1 := hA1.lt
  have hB2 : At (w1.setCell ⟨w.heap.size, 1, none⟩ (.pointer (some ⟨p1, 0, none⟩))) w.heap.size [Value.pointer (some ⟨p0, 0, none⟩), Value.pointer (some ⟨p1, 0, none⟩), Value.pointer none, Value.pointer none, Value.int .u8 0, .int .u8 0, .int .u8 0, .int .u8 0, .int .u8 0, .int .u8 0, .bool false, .int .u8 0, .int .u8 8, .bool false, .int .u16 0, .int .u16 0, .int .i64 0, .bool false, .int .i64 0, .int .i64 0, .bool false, .bool false, .bool false] 66 := (At.upd (w := V1.drew) hB1 hU1 (by simp)).setCell 1 _
  have hA0' : At (w1.setCell ⟨w.heap.size, 1, none⟩ (.pointer (some ⟨p1, 0, none⟩))) p0 (Tone.new 0).enc 83 := (At.upd (w := V1.drew) hA0 hU1 (by simp)).setOther (by show w.heap.size ≠ p0; omega) _
  have hA1' : At (w1.setCell ⟨w.heap.size, 1, none⟩ (.pointer (some ⟨p1, 0, none⟩))) p1 (Tone.new 1).enc 83 := hA1.setOther (by show w.heap.size ≠ p1; omega) _
  have hV2 : Upd [] w (w1.setCell ⟨w.heap.size, 1, none⟩ (.pointer (some ⟨p1, 0, none⟩))) := ((hV1.drew).trans hU1).setCell (.inr (Nat.le_refl _)) _
  have hS2 : 4 < w.heap.size ∧ w.heap.size < p0 ∧ p0 < p1 ∧ p1 < (w1.setCell ⟨w.heap.size, 1, none⟩ (.pointer (some ⟨p1, 0, none⟩))).heap.size := by simp only [World.setCell, Array.size_modify]; omega
  have hT2 : Tabs (w1.setCell ⟨w.heap.size, 1, none⟩ (.pointer (some ⟨p1, 0, none⟩))) := hT.upd hV2 (by simp)
  clear q1 qf g1 gf hw1 hB1 hV1 hT1 hS1 hU1 HZ1 hp1 hp1' hl1 hA0 hA1
  have HZ := Lib.hid hS2
  clear hS2
  go_wp2_with fail
  have hS2 := HZ.out
  clear HZ
  generalize (w1.setCell ⟨w.heap.size, 1, none⟩ (.pointer (some ⟨p1, 0, none⟩))) = V2 at *
  have hA0 := hA0'
  clear hA0'
  have hA1 := hA1'
  clear hA1'
  rw [rounds_succ]
  have g2 : V2.cell? ⟨w.heap.size, 2, none⟩ = some (.pointer none) := hB2.cell 2
  have gf : ∀ i, V2.frozen? ⟨w.heap.size, i, none⟩ = false := hB2.frozen
  have hw2 : IntKind.u8.wrap 2 = 2 := by rfl
  have HZ2 := Lib.hid hS2
  clear hS2
  go_wp2_with fail
  go_region_with ((go_at_call 28; refine (tone_new 2 (by omega) (by omega) _ (hT2.same (Same.refl _).drew) (by have := HZ2.out; simp; omega)).mono ?_; rintro e w1 ⟨p2, rfl, hp2, hA2, hU2⟩; have q2 : w1.cell? ⟨w.heap.size, 2, none⟩ = some (.pointer none) := (At.upd (w := V2.drew) hB2 hU2 (by simp)).cell 2; have qf : ∀ i, w1.frozen? ⟨w.heap.size, i, none⟩ = false := (At.upd (w := V2.drew) hB2 hU2 (by simp)).frozen))
  have hS2 := HZ2.out
  have hp2' : V2.heap.size ≤ p2 := hp2
  have hl2 := hA2.lt
  have hB3 : At (w1.setCell ⟨w.heap.size, 2, none⟩ (.pointer (some ⟨p2, 0, none⟩))) w.heap.size [Value.pointer (some ⟨p0, 0, none⟩), Value.pointer (some ⟨p1, 0, none⟩), Value.pointer (some ⟨p2, 0, none⟩), Value.pointer none, Value.int .u8 0, .int .u8 0, .int .u8 0, .int .u8 0, .int .u8 0, .int .u8 0, .bool false, .int .u8 0, .int .u8 8, .bool false, .int .u16 0, .int .u16 0, .int .i64 0, .bool false, .int .i64 0, .int .i64 0, .bool false, .bool false, .bool false] 66 := (At.upd (w := V2.drew) hB2 hU2 (by simp)).setCell 2 _
  have hA0' : At (w1.setCell ⟨w.heap.size, 2, none⟩ (.pointer (some ⟨p2, 0, none⟩))) p0 (Tone.new 0).enc 83 := (At.upd (w := V2.drew) hA0 hU2 (by simp)).setOther (by show w.heap.size ≠ p0; omega) _
  have hA1' : At (w1.setCell ⟨w.heap.size, 2, none⟩ (.pointer (some ⟨p2, 0, none⟩))) p1 (Tone.new 1).enc 83 := (At.upd (w := V2.drew) hA1 hU2 (by simp)).setOther (by show w.heap.size ≠ p1; omega) _
  have hA2' : At (w1.setCell ⟨w.heap.size, 2, none⟩ (.pointer (some ⟨p2, 0, none⟩))) p2 (Tone.new 2).enc 83 := hA2.setOther (by show w.heap.size ≠ p2; omega) _
  have hV3 : Upd [] w (w1.setCell ⟨w.heap.size, 2, none⟩ (.pointer (some ⟨p2, 0, none⟩))) := ((hV2.drew).trans hU2).setCell (.inr (Nat.le_refl _)) _
  have hS3 : 4 < w.heap.size ∧ w.heap.size < p0 ∧ p0 < p1 ∧ p1 < p2 ∧ p2 < (w1.setCell ⟨w.heap.size, 2, none⟩ (.pointer (some ⟨p2, 0, none⟩))).heap.size := by simp only [World.setCell, Array.size_modify]; omega
  have hT3 : Tabs (w1.setCell ⟨w.heap.size, 2, none⟩ (.pointer (some ⟨p2, 0, none⟩))) := hT.upd hV3 (by simp)
  clear q2 qf g2 gf hw2 hB2 hV2 hT2 hS2 hU2 HZ2 hp2 hp2' hl2 hA0 hA1 hA2
  have HZ := Lib.hid hS3
  clear hS3
  go_wp2_with fail
  have hS3 := HZ.out
  clear HZ
  generalize (w1.setCell ⟨w.heap.size, 2, none⟩ (.pointer (some ⟨p2, 0, none⟩))) = V3 at *
  have hA0 := hA0'
  clear hA0'
  have hA1 := hA1'
  clear hA1'
  have hA2 := hA2'
  clear hA2'
  rw [rounds_succ]
  have g3 : V3.cell? ⟨w.heap.size, 3, none⟩ = some (.pointer none) := hB3.cell 3
  have gf : ∀ i, V3.frozen? ⟨w.heap.size, i, none⟩ = false := hB3.frozen
  have hw3 : IntKind.u8.wrap 3 = 3 := by rfl
  have HZ3 := Lib.hid hS3
  clear hS3
  go_wp2_with fail
  go_region_with ((go_at_call 28; refine (tone_new 3 (by omega) (by omega) _ (hT3.same (Same.refl _).drew) (by have := HZ3.out; simp; omega)).mono ?_; rintro e w1 ⟨p3, rfl, hp3, hA3, hU3⟩; have q3 : w1.cell? ⟨w.heap.size, 3, none⟩ = some (.pointer none) := (At.upd (w := V3.drew) hB3 hU3 (by simp)).cell 3; have qf : ∀ i, w1.frozen? ⟨w.heap.size, i, none⟩ = false := (At.upd (w := V3.drew) hB3 hU3 (by simp)).frozen))
  have hS3 := HZ3.out
  have hp3' : V3.heap.size ≤ p3 := hp3
  have hl3 := hA3.lt
  have hB4 : At (w1.setCell ⟨w.heap.size, 3, none⟩ (.pointer (some ⟨p3, 0, none⟩))) w.heap.size [Value.pointer (some ⟨p0, 0, none⟩), Value.pointer (some ⟨p1, 0, none⟩), Value.pointer (some ⟨p2, 0, none⟩), Value.pointer (some ⟨p3, 0, none⟩), Value.int .u8 0, .int .u8 0, .int .u8 0, .int .u8 0, .int .u8 0, .int .u8 0, .bool false, .int .u8 0, .int .u8 8, .bool false, .int .u16 0, .int .u16 0, .int .i64 0, .bool false, .int .i64 0, .int .i64 0, .bool false, .bool false, .bool false] 66 := (At.upd (w := V3.drew) hB3 hU3 (by simp)).setCell 3 _
  have hA0' : At (w1.setCell ⟨w.heap.size, 3, none⟩ (.pointer (some ⟨p3, 0, none⟩))) p0 (Tone.new 0).enc 83 := (At.upd (w := V3.drew) hA0 hU3 (by simp)).setOther (by show w.heap.size ≠ p0; omega) _
  have hA1' : At (w1.setCell ⟨w.heap.size, 3, none⟩ (.pointer (some ⟨p3, 0, none⟩))) p1 (Tone.new 1).enc 83 := (At.upd (w := V3.drew) hA1 hU3 (by simp)).setOther (by show w.heap.size ≠ p1; omega) _
  have hA2' : At (w1.setCell ⟨w.heap.size, 3, none⟩ (.pointer (some ⟨p3, 0, none⟩))) p2 (Tone.new 2).enc 83 := (At.upd (w := V3.drew) hA2 hU3 (by simp)).setOther (by show w.heap.size ≠ p2; omega) _
  have hA3' : At (w1.setCell ⟨w.heap.size, 3, none⟩ (.pointer (some ⟨p3, 0, none⟩))) p3 (Tone.new 3).enc 83 := hA3.setOther (by show w.heap.size ≠ p3; omega) _
  have hV4 : Upd [] w (w1.setCell ⟨w.heap.size, 3, none⟩ (.pointer (some ⟨p3, 0, none⟩))) := ((hV3.drew).trans hU3).setCell (.inr (Nat.le_refl _)) _
  have hS4 : 4 < w.heap.size ∧ w.heap.size < p0 ∧ p0 < p1 ∧ p1 < p2 ∧ p2 < p3 ∧ p3 < (w1.setCell ⟨w.heap.size, 3, none⟩ (.pointer (some ⟨p3, 0, none⟩))).heap.size := by simp only [World.setCell, Array.size_modify]; omega
  have hT4 : Tabs (w1.setCell ⟨w.heap.size, 3, none⟩ (.pointer (some ⟨p3, 0, none⟩))) := hT.upd hV4 (by simp)
  clear q3 qf g3 gf hw3 hB3 hV3 hT3 hS3 hU3 HZ3 hp3 hp3' hl3 hA0 hA1 hA2 hA3
  have HZ := Lib.hid hS4
  clear hS4
  go_wp2_with fail
  have hS4 := HZ.out
  clear HZ
  generalize (w1.setCell ⟨w.heap.size, 3, none⟩ (.pointer (some ⟨p3, 0, none⟩))) = V4 at *
  have hA0 := hA0'
  clear hA0'
  have hA1 := hA1'
  clear hA1'
  have hA2 := hA2'
  clear hA2'
  have hA3 := hA3'
  clear hA3'
  rw [rounds_succ]
  have HZ := Lib.hid hS4
  clear hS4
  go_wp2_with fail
  go_ret
  have hS4 := HZ.out
  refine ⟨⟨w.heap.size, p0, p1, p2, p3⟩, rfl, ?_, ?_, ⟨hB4, hA0, hA1, hA2, hA3⟩, hV4⟩
  · constructor <;> dsimp only <;> omega
  · intro x hx
    simp only [Hd.blocks, List.mem_cons, List.not_mem_nil, or_false] at hx
    omega
end Go.Proofs.YtonhhjihmbcfnaaDoor

import Derived.Lib.Hide
import Derived.Deep.WholeRow
import Derived.Test.YtonhhjihmbcfnaaDoorG3
namespace Go.Proofs.YtonhhjihmbcfnaaDoor
open Go.RowKit
set_option linter.unusedSimpArgs false
set_option linter.unusedVariables false

theorem wpList_store_new {P : Program} {ops : Array Oper} {rest : List Oper} {o : Oper} {a : Act} {w : World} {Q : Exit → Act → World → Prop} (hgd : o.guard = none) (t : TypeId) (x y : Operand) (ho : o.op = .store t x y)
    {c : Array Value} (hx : a.eval x = .pointer (some ⟨w.heap.size, 0, none⟩)) (c' : Array Value) (hy : a.eval y = .agg c') (hi : (P.info? t).map (·.size) = some c'.size) (hc : c.size = c'.size) (h1 : c'.all (·.oneCell') = true)
    (h : wpList P ops Q rest (a.put o.dst undef) (w.alloc (.cells c' t))) : wpList P ops Q (o :: rest) a (w.alloc (.cells c t)) :=
  wpList_plain hgd fun K hK => by
    unfold Oper.wp execOp
    simp only [ho, hx, hy, Sem.run_bind, Sem.run_pure, Result.andThen_ok, run_storeAt_new w t c c' hi hc h1]
    exact hK _ _ h

set_option maxHeartbeats 2000000 in
theorem snd_copy (k : Hd) (s : Sound) (w : World) (h : SoundAt w k s) (hw : 4 < w.heap.size) :
    Calls Tryd.prog 27 #[k.ptr] w (MakesSound s w) := by
  have hN : At (w.alloc (.cells (s.enc k.p0 k.p1 k.p2 k.p3).toArray 66)) w.heap.size (s.enc k.p0 k.p1 k.p2 k.p3) 66 := At.new _ _ _
  have hU : Upd [] w (w.alloc (.cells (s.enc k.p0 k.p1 k.p2 k.p3).toArray 66)) := (Upd.refl _ _).alloc _
  have hS : (w.alloc (.cells (s.enc k.p0 k.p1 k.p2 k.p3).toArray 66)).heap.size = w.heap.size + 1 := by simp
  have hK' := h.alloc (.cells (s.enc k.p0 k.p1 k.p2 k.p3).toArray 66)
  have hlb := h.snd.lt
  have c0 : _ = some (Value.pointer (some ⟨k.p0, 0, none⟩)) := h.snd.cell 0
  have c1 : _ = some (Value.pointer (some ⟨k.p1, 0, none⟩)) := h.snd.cell 1
  have c2 : _ = some (Value.pointer (some ⟨k.p2, 0, none⟩)) := h.snd.cell 2
  have c3 : _ = some (Value.pointer (some ⟨k.p3, 0, none⟩)) := h.snd.cell 3
  have i0 := fun w => (idx64 (Value.pointer (some ⟨k.p0, 0, none⟩)) (Value.pointer (some ⟨k.p1, 0, none⟩)) (Value.pointer (some ⟨k.p2, 0, none⟩)) (Value.pointer (some ⟨k.p3, 0, none⟩)) w).1
  have i1 := fun w => (idx64 (Value.pointer (some ⟨k.p0, 0, none⟩)) (Value.pointer (some ⟨k.p1, 0, none⟩)) (Value.pointer (some ⟨k.p2, 0, none⟩)) (Value.pointer (some ⟨k.p3, 0, none⟩)) w).2.1
  have i2 := fun w => (idx64 (Value.pointer (some ⟨k.p0, 0, none⟩)) (Value.pointer (some ⟨k.p1, 0, none⟩)) (Value.pointer (some ⟨k.p2, 0, none⟩)) (Value.pointer (some ⟨k.p3, 0, none⟩)) w).2.2.1
  have i3 := fun w => (idx64 (Value.pointer (some ⟨k.p0, 0, none⟩)) (Value.pointer (some ⟨k.p1, 0, none⟩)) (Value.pointer (some ⟨k.p2, 0, none⟩)) (Value.pointer (some ⟨k.p3, 0, none⟩)) w).2.2.2
  unfold Hd.ptr
  go_enter Tryd.func27, Tryd.ntmps27
  have hz1 : (s.enc k.p0 k.p1 k.p2 k.p3).toArray.all (·.oneCell') = true := by simp [Sound.enc, Value.oneCell']
  have hz : (Tryd.prog.info? 66).map (·.size) = some 23 := by kernel_rfl
  go_wp2_with (first | (refine wpList_load_row rfl 66 (.tmp 9) rfl k.b rfl 66 (s.enc k.p0 k.p1 k.p2 k.p3).toArray (0, 0) _ h.snd Tryd.underlying66 rfl hz ?_) | (refine wpList_store_new rfl 66 (.tmp 3) (.tmp 10) rfl rfl (s.enc k.p0 k.p1 k.p2 k.p3).toArray rfl hz rfl hz1 ?_))
  clear hz1
  clear hz
  clear c0 c1 c2 c3
  generalize (w.alloc (Obj.cells (s.enc k.p0 k.p1 k.p2 k.p3).toArray 66)) = W0 at *
  unfold Sound.enc at hN
  have hS0 : 4 < w.heap.size ∧ k.b < w.heap.size ∧ w.heap.size < W0.heap.size := by omega
  clear hS hw hlb
  refine wp_loop_rounds 5 ?_
  as_aux_lemma =>
  rw [rounds_succ]
  have HZ0 := Lib.hid hS0
  clear hS0
  go_wp2_with fail
  refine (tone_copy k.p0 s.t0 _ hK'.t0).mono ?_
  rintro e w1 ⟨n0, rfl, hp0, hA0, hU0⟩
  have hS0 := HZ0.out
  have hl0 := hA0.lt
  have hB := At.upd hN hU0 (by simp)
  have q0 : w1.cell? ⟨w.heap.size, 0, none⟩ = some (.pointer (some ⟨k.p0, 0, none⟩)) := hB.cell 0
  have qf : ∀ i, w1.frozen? ⟨w.heap.size, i, none⟩ = false := hB.frozen
  have hB1 : At (w1.setCell ⟨w.heap.size, 0, none⟩ (.pointer (some ⟨n0, 0, none⟩))) w.heap.size [Value.pointer (some ⟨n0, 0, none⟩), Value.pointer (some ⟨k.p1, 0, none⟩), Value.pointer (some ⟨k.p2, 0, none⟩), Value.pointer (some ⟨k.p3, 0, none⟩), Value.int .u8 s.m.q0, Value.int .u8 s.m.q1, Value.int .u8 s.m.q2, Value.int .u8 s.m.q3, Value.int .u8 s.m.level, Value.int .u8 s.m.next, Value.bool s.m.waits, Value.int .u8 s.m.row, Value.int .u8 s.m.bits, Value.bool s.m.speaks, Value.int .u16 s.m.timer, Value.int .u16 s.m.at_, Value.int .i64 s.m.left, Value.bool s.m.irq, Value.int .i64 s.count, Value.int .i64 s.manner, Value.bool s.bars, Value.bool s.irq, Value.bool s.even] 66 := hB.setCell 0 _
  have hA0' : At (w1.setCell ⟨w.heap.size, 0, none⟩ (.pointer (some ⟨n0, 0, none⟩))) n0 s.t0.enc 83 := hA0.setOther (by show w.heap.size ≠ n0; omega) _
  have hV1 : Upd [] w (w1.setCell ⟨w.heap.size, 0, none⟩ (.pointer (some ⟨n0, 0, none⟩))) := (hU.trans hU0).setCell (.inr (Nat.le_refl _)) _
  have hK1 : SoundAt (w1.setCell ⟨w.heap.size, 0, none⟩ (.pointer (some ⟨n0, 0, none⟩))) k s := h.upd hV1 (by simp)
  have hS1 : 4 < w.heap.size ∧ k.b < w.heap.size ∧ w.heap.size < n0 ∧ n0 < (w1.setCell ⟨w.heap.size, 0, none⟩ (.pointer (some ⟨n0, 0, none⟩))).heap.size := by simp only [World.setCell, Array.size_modify]; omega
  clear hS0 hU0 HZ0 hp0 hl0 hB hN hU hK' hA0
  have HZ := Lib.hid hS1
  clear hS1
  go_wp2_with fail
  clear q0 qf
  have hS1 := HZ.out
  clear HZ
  generalize (w1.setCell ⟨w.heap.size, 0, none⟩ (.pointer (some ⟨n0, 0, none⟩))) = V1 at *
  have hA0 := hA0'
  clear hA0'
  as_aux_lemma =>
  rw [rounds_succ]
  have HZ1 := Lib.hid hS1
  clear hS1
  go_wp2_with fail
  refine (tone_copy k.p1 s.t1 _ hK1.t1).mono ?_
  rintro e w1 ⟨n1, rfl, hp1, hA1, hU1⟩
  have hS1 := HZ1.out
  have hl1 := hA1.lt
  have hB := At.upd hB1 hU1 (by simp)
  have q1 : w1.cell? ⟨w.heap.size, 1, none⟩ = some (.pointer (some ⟨k.p1, 0, none⟩)) := hB.cell 1
  have qf : ∀ i, w1.frozen? ⟨w.heap.size, i, none⟩ = false := hB.frozen
  have hB2 : At (w1.setCell ⟨w.heap.size, 1, none⟩ (.pointer (some ⟨n1, 0, none⟩))) w.heap.size [Value.pointer (some ⟨n0, 0, none⟩), Value.pointer (some ⟨n1, 0, none⟩), Value.pointer (some ⟨k.p2, 0, none⟩), Value.pointer (some ⟨k.p3, 0, none⟩), Value.int .u8 s.m.q0, Value.int .u8 s.m.q1, Value.int .u8 s.m.q2, Value.int .u8 s.m.q3, Value.int .u8 s.m.level, Value.int .u8 s.m.next, Value.bool s.m.waits, Value.int .u8 s.m.row, Value.int .u8 s.m.bits, Value.bool s.m.speaks, Value.int .u16 s.m.timer, Value.int .u16 s.m.at_, Value.int .i64 s.m.left, Value.bool s.m.irq, Value.int .i64 s.count, Value.int .i64 s.manner, Value.bool s.bars, Value.bool s.irq, Value.bool s.even] 66 := hB.setCell 1 _
  have hA0' : At (w1.setCell ⟨w.heap.size, 1, none⟩ (.pointer (some ⟨n1, 0, none⟩))) n0 s.t0.enc 83 := (At.upd hA0 hU1 (by simp)).setOther (by show w.heap.size ≠ n0; omega) _
  have hA1' : At (w1.setCell ⟨w.heap.size, 1, none⟩ (.pointer (some ⟨n1, 0, none⟩))) n1 s.t1.enc 83 := hA1.setOther (by show w.heap.size ≠ n1; omega) _
  have hV2 : Upd [] w (w1.setCell ⟨w.heap.size, 1, none⟩ (.pointer (some ⟨n1, 0, none⟩))) := (hV1.trans hU1).setCell (.inr (Nat.le_refl _)) _
  have hK2 : SoundAt (w1.setCell ⟨w.heap.size, 1, none⟩ (.pointer (some ⟨n1, 0, none⟩))) k s := h.upd hV2 (by simp)
  have hS2 : 4 < w.heap.size ∧ k.b < w.heap.size ∧ w.heap.size < n0 ∧ n0 < n1 ∧ n1 < (w1.setCell ⟨w.heap.size, 1, none⟩ (.pointer (some ⟨n1, 0, none⟩))).heap.size := by simp only [World.setCell, Array.size_modify]; omega
  clear hS1 hU1 HZ1 hp1 hl1 hB hB1 hV1 hK1 hA0 hA1
  have HZ := Lib.hid hS2
  clear hS2
  go_wp2_with fail
  clear q1 qf
  have hS2 := HZ.out
  clear HZ
  generalize (w1.setCell ⟨w.heap.size, 1, none⟩ (.pointer (some ⟨n1, 0, none⟩))) = V2 at *
  have hA0 := hA0'
  clear hA0'
  have hA1 := hA1'
  clear hA1'
  as_aux_lemma =>
  rw [rounds_succ]
  have HZ2 := Lib.hid hS2
  clear hS2
  go_wp2_with fail
  refine (tone_copy k.p2 s.t2 _ hK2.t2).mono ?_
  rintro e w1 ⟨n2, rfl, hp2, hA2, hU2⟩
  have hS2 := HZ2.out
  have hl2 := hA2.lt
  have hB := At.upd hB2 hU2 (by simp)
  have q2 : w1.cell? ⟨w.heap.size, 2, none⟩ = some (.pointer (some ⟨k.p2, 0, none⟩)) := hB.cell 2
  have qf : ∀ i, w1.frozen? ⟨w.heap.size, i, none⟩ = false := hB.frozen
  have hB3 : At (w1.setCell ⟨w.heap.size, 2, none⟩ (.pointer (some ⟨n2, 0, none⟩))) w.heap.size [Value.pointer (some ⟨n0, 0, none⟩), Value.pointer (some ⟨n1, 0, none⟩), Value.pointer (some ⟨n2, 0, none⟩), Value.pointer (some ⟨k.p3, 0, none⟩), Value.int .u8 s.m.q0, Value.int .u8 s.m.q1, Value.int .u8 s.m.q2, Value.int .u8 s.m.q3, Value.int .u8 s.m.level, Value.int .u8 s.m.next, Value.bool s.m.waits, Value.int .u8 s.m.row, Value.int .u8 s.m.bits, Value.bool s.m.speaks, Value.int .u16 s.m.timer, Value.int .u16 s.m.at_, Value.int .i64 s.m.left, Value.bool s.m.irq, Value.int .i64 s.count, Value.int .i64 s.manner, Value.bool s.bars, Value.bool s.irq, Value.bool s.even] 66 := hB.setCell 2 _
  have hA0' : At (w1.setCell ⟨w.heap.size, 2, none⟩ (.pointer (some ⟨n2, 0, none⟩))) n0 s.t0.enc 83 := (At.upd hA0 hU2 (by simp)).setOther (by show w.heap.size ≠ n0; omega) _
  have hA1' : At (w1.setCell ⟨w.heap.size, 2, none⟩ (.pointer (some ⟨n2, 0, none⟩))) n1 s.t1.enc 83 := (At.upd hA1 hU2 (by simp)).setOther (by show w.heap.size ≠ n1; omega) _
  have hA2' : At (w1.setCell ⟨w.heap.size, 2, none⟩ (.pointer (some ⟨n2, 0, none⟩))) n2 s.t2.enc 83 := hA2.setOther (by show w.heap.size ≠ n2; omega) _
  have hV3 : Upd [] w (w1.setCell ⟨w.heap.size, 2, none⟩ (.pointer (some ⟨n2, 0, none⟩))) := (hV2.trans hU2).setCell (.inr (Nat.le_refl _)) _
  have hK3 : SoundAt (w1.setCell ⟨w.heap.size, 2, none⟩ (.pointer (some ⟨n2, 0, none⟩))) k s := h.upd hV3 (by simp)
  have hS3 : 4 < w.heap.size ∧ k.b < w.heap.size ∧ w.heap.size < n0 ∧ n0 < n1 ∧ n1 < n2 ∧ n2 < (w1.setCell ⟨w.heap.size, 2, none⟩ (.pointer (some ⟨n2, 0, none⟩))).heap.size := by simp only [World.setCell, Array.size_modify]; omega
  clear hS2 hU2 HZ2 hp2 hl2 hB hB2 hV2 hK2 hA0 hA1 hA2
  have HZ := Lib.hid hS3
  clear hS3
  go_wp2_with fail
  clear q2 qf
  have hS3 := HZ.out
  clear HZ
  generalize (w1.setCell ⟨w.heap.size, 2, none⟩ (.pointer (some ⟨n2, 0, none⟩))) = V3 at *
  have hA0 := hA0'
  clear hA0'
  have hA1 := hA1'
  clear hA1'
  have hA2 := hA2'
  clear hA2'
  as_aux_lemma =>
  rw [rounds_succ]
  have HZ3 := Lib.hid hS3
  clear hS3
  go_wp2_with fail
  refine (tone_copy k.p3 s.t3 _ hK3.t3).mono ?_
  rintro e w1 ⟨n3, rfl, hp3, hA3, hU3⟩
  have hS3 := HZ3.out
  have hl3 := hA3.lt
  have hB := At.upd hB3 hU3 (by simp)
  have q3 : w1.cell? ⟨w.heap.size, 3, none⟩ = some (.pointer (some ⟨k.p3, 0, none⟩)) := hB.cell 3
  have qf : ∀ i, w1.frozen? ⟨w.heap.size, i, none⟩ = false := hB.frozen
  have hB4 : At (w1.setCell ⟨w.heap.size, 3, none⟩ (.pointer (some ⟨n3, 0, none⟩))) w.heap.size [Value.pointer (some ⟨n0, 0, none⟩), Value.pointer (some ⟨n1, 0, none⟩), Value.pointer (some ⟨n2, 0, none⟩), Value.pointer (some ⟨n3, 0, none⟩), Value.int .u8 s.m.q0, Value.int .u8 s.m.q1, Value.int .u8 s.m.q2, Value.int .u8 s.m.q3, Value.int .u8 s.m.level, Value.int .u8 s.m.next, Value.bool s.m.waits, Value.int .u8 s.m.row, Value.int .u8 s.m.bits, Value.bool s.m.speaks, Value.int .u16 s.m.timer, Value.int .u16 s.m.at_, Value.int .i64 s.m.left, Value.bool s.m.irq, Value.int .i64 s.count, Value.int .i64 s.manner, Value.bool s.bars, Value.bool s.irq, Value.bool s.even] 66 := hB.setCell 3 _
  have hA0' : At (w1.setCell ⟨w.heap.size, 3, none⟩ (.pointer (some ⟨n3, 0, none⟩))) n0 s.t0.enc 83 := (At.upd hA0 hU3 (by simp)).setOther (by show w.heap.size ≠ n0; omega) _
  have hA1' : At (w1.setCell ⟨w.heap.size, 3, none⟩ (.pointer (some ⟨n3, 0, none⟩))) n1 s.t1.enc 83 := (At.upd hA1 hU3 (by simp)).setOther (by show w.heap.size ≠ n1; omega) _
  have hA2' : At (w1.setCell ⟨w.heap.size, 3, none⟩ (.pointer (some ⟨n3, 0, none⟩))) n2 s.t2.enc 83 := (At.upd hA2 hU3 (by simp)).setOther (by show w.heap.size ≠ n2; omega) _
  have hA3' : At (w1.setCell ⟨w.heap.size, 3, none⟩ (.pointer (some ⟨n3, 0, none⟩))) n3 s.t3.enc 83 := hA3.setOther (by show w.heap.size ≠ n3; omega) _
  have hV4 : Upd [] w (w1.setCell ⟨w.heap.size, 3, none⟩ (.pointer (some ⟨n3, 0, none⟩))) := (hV3.trans hU3).setCell (.inr (Nat.le_refl _)) _
  have hK4 : SoundAt (w1.setCell ⟨w.heap.size, 3, none⟩ (.pointer (some ⟨n3, 0, none⟩))) k s := h.upd hV4 (by simp)
  have hS4 : 4 < w.heap.size ∧ k.b < w.heap.size ∧ w.heap.size < n0 ∧ n0 < n1 ∧ n1 < n2 ∧ n2 < n3 ∧ n3 < (w1.setCell ⟨w.heap.size, 3, none⟩ (.pointer (some ⟨n3, 0, none⟩))).heap.size := by simp only [World.setCell, Array.size_modify]; omega
  clear hS3 hU3 HZ3 hp3 hl3 hB hB3 hV3 hK3 hA0 hA1 hA2 hA3
  have HZ := Lib.hid hS4
  clear hS4
  go_wp2_with fail
  clear q3 qf
  have hS4 := HZ.out
  clear HZ
  generalize (w1.setCell ⟨w.heap.size, 3, none⟩ (.pointer (some ⟨n3, 0, none⟩))) = V4 at *
  have hA0 := hA0'
  clear hA0'
  have hA1 := hA1'
  clear hA1'
  have hA2 := hA2'
  clear hA2'
  have hA3 := hA3'
  clear hA3'
  as_aux_lemma =>
  rw [rounds_succ]
  have HZ := Lib.hid hS4
  clear hS4
  go_wp2_with fail
  go_ret
  have hS4 := HZ.out
  refine ⟨⟨w.heap.size, n0, n1, n2, n3⟩, rfl, ?_, ?_, ⟨hB4, hA0, hA1, hA2, hA3⟩, hV4⟩
  · constructor <;> dsimp only <;> omega
  · intro x hx
    simp only [Hd.blocks, List.mem_cons, List.not_mem_nil, or_false] at hx
    omega
end Go.Proofs.YtonhhjihmbcfnaaDoor

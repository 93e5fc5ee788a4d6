import Derived.Lib.Hide
import Derived.Test.YtonhhjihmbcfnaaDoorD3
namespace Go.Proofs.YtonhhjihmbcfnaaDoor
open Go.RowKit
set_option linter.unusedSimpArgs false
set_option linter.unusedVariables false

theorem tone_live_eq (b : Nat) (t : Tone) (w : World) (h : At w b t.enc 83) :
    Calls Tryd.prog 34 #[.pointer (some ⟨b, 0, none⟩)] w (fun e w' => e = .returned (.bool (decide (0 < t.length))) ∧ w' = w) := by
  have c6 : _ = some (Value.int .u8 t.length) := h.cell 6
  go_enter Tryd.func34, Tryd.ntmps34
  go_wp2
  all_goals go_ret
  all_goals refine ⟨?_, rfl⟩
  all_goals refine ret_bool ?_
  all_goals simp

def getL (s : Sound) : List Value := [.bool (decide (0 < s.t0.length)), .bool (decide (0 < s.t1.length)), .bool (decide (0 < s.t2.length)), .bool (decide (0 < s.t3.length)), .bool (decide (0 < s.m.left)), .bool false, .bool s.irq, .bool s.m.irq]
structure Bits8 where
  b0 : Bool
  b1 : Bool
  b2 : Bool
  b3 : Bool
  b4 : Bool
  b6 : Bool
  b7 : Bool
def getB (s : Sound) : Bits8 := ⟨decide (0 < s.t0.length), decide (0 < s.t1.length), decide (0 < s.t2.length), decide (0 < s.t3.length), decide (0 < s.m.left), s.irq, s.m.irq⟩
def accL (b : Bits8) : Nat → Int
  | 0 => 0
  | 1 => b2i b.b0 1
  | 2 => b2i b.b0 1 + b2i b.b1 2
  | 3 => b2i b.b0 1 + b2i b.b1 2 + b2i b.b2 4
  | 4 => b2i b.b0 1 + b2i b.b1 2 + b2i b.b2 4 + b2i b.b3 8
  | 5 => b2i b.b0 1 + b2i b.b1 2 + b2i b.b2 4 + b2i b.b3 8 + b2i b.b4 16
  | 6 => b2i b.b0 1 + b2i b.b1 2 + b2i b.b2 4 + b2i b.b3 8 + b2i b.b4 16
  | 7 => b2i b.b0 1 + b2i b.b1 2 + b2i b.b2 4 + b2i b.b3 8 + b2i b.b4 16 + b2i b.b6 64
  | _ => b2i b.b0 1 + b2i b.b1 2 + b2i b.b2 4 + b2i b.b3 8 + b2i b.b4 16 + b2i b.b6 64 + b2i b.b7 128
theorem accL_bd (b : Bits8) (n : Nat) (h : n ≤ 8) : 0 ≤ accL b n ∧ accL b n < 2 ^ n := by
  have hc : n = 0 ∨ n = 1 ∨ n = 2 ∨ n = 3 ∨ n = 4 ∨ n = 5 ∨ n = 6 ∨ n = 7 ∨ n = 8 := by omega
  have hb : ∀ (x : Bool) (m : Int), 0 ≤ m → 0 ≤ b2i x m ∧ b2i x m ≤ m := fun x m hm => by unfold b2i; split <;> omega
  have h0 := hb b.b0 1 (by omega)
  have h1 := hb b.b1 2 (by omega)
  have h2 := hb b.b2 4 (by omega)
  have h3 := hb b.b3 8 (by omega)
  have h4 := hb b.b4 16 (by omega)
  have h6 := hb b.b6 64 (by omega)
  have h7 := hb b.b7 128 (by omega)
  rcases hc with rfl | rfl | rfl | rfl | rfl | rfl | rfl | rfl | rfl <;> simp only [accL, Int.reducePow] <;> omega
theorem or_pow (n : Nat) (x : Int) (hn : n < 8) (h0 : 0 ≤ x) (h1 : x < 2 ^ n) : bits .or .u8 x (2 ^ n) = x + 2 ^ n := by
  have hc : n = 0 ∨ n = 1 ∨ n = 2 ∨ n = 3 ∨ n = 4 ∨ n = 5 ∨ n = 6 ∨ n = 7 := by omega
  rcases hc with rfl | rfl | rfl | rfl | rfl | rfl | rfl | rfl <;> simp only [Int.reducePow] at *
  · rw [or_comm, bits_join .u8 8 (by decide) wraps_u8 0 1 x (by omega) (by omega) (by omega) h0 (by omega) (by omega)]; omega
  · rw [or_comm, bits_join .u8 8 (by decide) wraps_u8 1 2 x (by omega) (by omega) (by omega) h0 (by omega) (by omega)]; omega
  · rw [or_comm, bits_join .u8 8 (by decide) wraps_u8 2 4 x (by omega) (by omega) (by omega) h0 (by omega) (by omega)]; omega
  · rw [or_comm, bits_join .u8 8 (by decide) wraps_u8 3 8 x (by omega) (by omega) (by omega) h0 (by omega) (by omega)]; omega
  · rw [or_comm, bits_join .u8 8 (by decide) wraps_u8 4 16 x (by omega) (by omega) (by omega) h0 (by omega) (by omega)]; omega
  · rw [or_comm, bits_join .u8 8 (by decide) wraps_u8 5 32 x (by omega) (by omega) (by omega) h0 (by omega) (by omega)]; omega
  · rw [or_comm, bits_join .u8 8 (by decide) wraps_u8 6 64 x (by omega) (by omega) (by omega) h0 (by omega) (by omega)]; omega
  · rw [or_comm, bits_join .u8 8 (by decide) wraps_u8 7 128 x (by omega) (by omega) (by omega) h0 (by omega) (by omega)]; omega
def GetS (k : Hd) (s : Sound) (w' : World) : Prop := SoundAt w' k s ∧ w'.cell? ⟨k.b, 0, none⟩ = some (Value.pointer (some ⟨k.p0, 0, none⟩)) ∧ w'.cell? ⟨k.b, 1, none⟩ = some (Value.pointer (some ⟨k.p1, 0, none⟩)) ∧ w'.cell? ⟨k.b, 2, none⟩ = some (Value.pointer (some ⟨k.p2, 0, none⟩)) ∧ w'.cell? ⟨k.b, 3, none⟩ = some (Value.pointer (some ⟨k.p3, 0, none⟩)) ∧ w'.cell? ⟨k.b, 16, none⟩ = some (Value.int .i64 s.m.left) ∧ w'.cell? ⟨k.b, 17, none⟩ = some (Value.bool s.m.irq) ∧ w'.cell? ⟨k.b, 21, none⟩ = some (Value.bool s.irq)
theorem getS {k : Hd} {s : Sound} {w : World} (h : SoundAt w k s) : GetS k s w :=
  ⟨h, h.snd.cell 0, h.snd.cell 1, h.snd.cell 2, h.snd.cell 3, h.snd.cell 16, h.snd.cell 17, h.snd.cell 21⟩
theorem getD {k : Hd} {s : Sound} {w : World} (h : GetS k s w) : GetS k s w.drew := getS (h.1.same (Same.refl w).drew)
theorem getA {k : Hd} {s : Sound} {w : World} (h : GetS k s w) (o : Obj) : GetS k s (w.alloc o) := getS (h.1.alloc o)
set_option maxHeartbeats 1000000 in
theorem snd_get (k : Hd) (ha : k.Apart) (s : Sound) (w : World) (h : SoundAt w k s) :
    Calls Tryd.prog 14 #[k.ptr] w (SndTurns k s.got (.int .u8 s.get) w) := by
  have hf : ∀ i, w.frozen? ⟨k.b, i, none⟩ = false := h.snd.frozen
  have c0 : _ = some (Value.pointer (some ⟨k.p0, 0, none⟩)) := h.snd.cell 0
  have c1 : _ = some (Value.pointer (some ⟨k.p1, 0, none⟩)) := h.snd.cell 1
  have c2 : _ = some (Value.pointer (some ⟨k.p2, 0, none⟩)) := h.snd.cell 2
  have c3 : _ = some (Value.pointer (some ⟨k.p3, 0, none⟩)) := h.snd.cell 3
  have c16 : _ = some (Value.int .i64 s.m.left) := h.snd.cell 16
  have c17 : _ = some (Value.bool s.m.irq) := h.snd.cell 17
  have c21 : _ = some (Value.bool s.irq) := h.snd.cell 21

  unfold Hd.ptr
  go_enter Tryd.func14, Tryd.ntmps14
  go_wp2
  go_region_held3 (fun w' => SoundAt w' k s ∧ w'.cell? ⟨k.b, 0, none⟩ = some (Value.pointer (some ⟨k.p0, 0, none⟩)) ∧ w'.cell? ⟨k.b, 1, none⟩ = some (Value.pointer (some ⟨k.p1, 0, none⟩)) ∧ w'.cell? ⟨k.b, 2, none⟩ = some (Value.pointer (some ⟨k.p2, 0, none⟩)) ∧ w'.cell? ⟨k.b, 3, none⟩ = some (Value.pointer (some ⟨k.p3, 0, none⟩)) ∧ w'.cell? ⟨k.b, 16, none⟩ = some (Value.int .i64 s.m.left) ∧ w'.cell? ⟨k.b, 17, none⟩ = some (Value.bool s.m.irq) ∧ w'.cell? ⟨k.b, 21, none⟩ = some (Value.bool s.irq)) (first | exact getD (getS h) | assumption | exact getD (getS (h.alloc _))) (first | ((with_reducible refine (tone_live_eq k.p0 s.t0 _ (by first | exact h.t0 | exact (‹SoundAt _ k s ∧ _›).1.t0)).mono ?_); rintro e w' ⟨rfl, rfl⟩) | ((with_reducible refine (tone_live_eq k.p1 s.t1 _ (by first | exact h.t1 | exact (‹SoundAt _ k s ∧ _›).1.t1)).mono ?_); rintro e w' ⟨rfl, rfl⟩) | ((with_reducible refine (tone_live_eq k.p2 s.t2 _ (by first | exact h.t2 | exact (‹SoundAt _ k s ∧ _›).1.t2)).mono ?_); rintro e w' ⟨rfl, rfl⟩) | ((with_reducible refine (tone_live_eq k.p3 s.t3 _ (by first | exact h.t3 | exact (‹SoundAt _ k s ∧ _›).1.t3)).mono ?_); rintro e w' ⟨rfl, rfl⟩))
  have hL : At (w.alloc (Obj.cells (getL s).toArray 4)).drew w.heap.size (getL s) 4 := At.new _ _ _
  have hS : SoundAt (w.alloc (Obj.cells (getL s).toArray 4)).drew k s := (h.alloc _).same (Same.refl _).drew
  have hU : Upd [] w (w.alloc (Obj.cells (getL s).toArray 4)).drew := ((Upd.refl _ _).alloc _).drew
  unfold getL at hL hS hU
  generalize (w.alloc (Obj.cells _ 4)).drew = W at *
  clear c0 c1 c2 c3 c16 c17 c21 hf
  have n0 : _ = some (Value.bool (decide (0 < s.t0.length))) := hL.cell 0
  have n1 : _ = some (Value.bool (decide (0 < s.t1.length))) := hL.cell 1
  have n2 : _ = some (Value.bool (decide (0 < s.t2.length))) := hL.cell 2
  have n3 : _ = some (Value.bool (decide (0 < s.t3.length))) := hL.cell 3
  have n4 : _ = some (Value.bool (decide (0 < s.m.left))) := hL.cell 4
  have n5 : _ = some (Value.bool false) := hL.cell 5
  have n6 : _ = some (Value.bool s.irq) := hL.cell 6
  have n7 : _ = some (Value.bool s.m.irq) := hL.cell 7
  clear ‹SoundAt W k s ∧ _›
  have hget : s.get = accL (getB s) 8 := by
    unfold Sound.get getB
    simp only [accL, b2i]
  have Hg := Lib.hid hget
  clear hget
  have hB : getB s = ⟨decide (0 < s.t0.length), decide (0 < s.t1.length), decide (0 < s.t2.length), decide (0 < s.t3.length), decide (0 < s.m.left), s.irq, s.m.irq⟩ := rfl
  generalize getB s = B at Hg hB
  have e0 : decide (0 < s.t0.length) = B.b0 := by rw [hB]
  have e1 : decide (0 < s.t1.length) = B.b1 := by rw [hB]
  have e2 : decide (0 < s.t2.length) = B.b2 := by rw [hB]
  have e3 : decide (0 < s.t3.length) = B.b3 := by rw [hB]
  have e4 : decide (0 < s.m.left) = B.b4 := by rw [hB]
  have e6 : s.irq = B.b6 := by rw [hB]
  have e7 : s.m.irq = B.b7 := by rw [hB]
  rw [e0] at n0
  rw [e1] at n1
  rw [e2] at n2
  rw [e3] at n3
  rw [e4] at n4
  rw [e6] at n6
  rw [e7] at n7
  clear e0 e1 e2 e3 e4 e6 e7 hB hL
  go_wp2
  go_loop [3, 49] (fun x i => ∃ n : Nat, n ≤ 8 ∧ i = .int .i64 n ∧ x = .int .u8 (accL B n)) (fun _ i => (8 - intOf i).toNat)
  case atStart => exact ⟨0, by omega, rfl, rfl⟩
  case round =>
    obtain ⟨n, hn, rfl, rfl⟩ := hrel
    have hcase : n = 0 ∨ n = 1 ∨ n = 2 ∨ n = 3 ∨ n = 4 ∨ n = 5 ∨ n = 6 ∨ n = 7 ∨ n = 8 := by omega
    rcases hcase with rfl | rfl | rfl | rfl | rfl | rfl | rfl | rfl | rfl
    · obtain ⟨hx0, hx1⟩ := accL_bd B 0 (by omega)
      have ho := or_pow 0 (accL B 0) (by omega) hx0 hx1
      simp only [Int.reducePow] at ho hx1
      have hy : Hid (accL B 1 = accL B 0 + b2i B.b0 1) := by unfold Hid; simp only [accL]; omega
      generalize accL B 0 = x at *
      cases hb : B.b0
      all_goals go_wp2
      all_goals go_round
      all_goals first | exact ⟨1, by omega, by go_num, by rw [hy.out]; simp [b2i, hb]⟩ | (simp [intOf]; done)
    · obtain ⟨hx0, hx1⟩ := accL_bd B 1 (by omega)
      have ho := or_pow 1 (accL B 1) (by omega) hx0 hx1
      simp only [Int.reducePow] at ho hx1
      have hy : Hid (accL B 2 = accL B 1 + b2i B.b1 2) := by unfold Hid; simp only [accL]
      generalize accL B 1 = x at *
      cases hb : B.b1
      all_goals go_wp2
      all_goals go_round
      all_goals first | exact ⟨2, by omega, by go_num, by rw [hy.out]; simp [b2i, hb]⟩ | (simp [intOf]; done)
    · obtain ⟨hx0, hx1⟩ := accL_bd B 2 (by omega)
      have ho := or_pow 2 (accL B 2) (by omega) hx0 hx1
      simp only [Int.reducePow] at ho hx1
      have hy : Hid (accL B 3 = accL B 2 + b2i B.b2 4) := by unfold Hid; simp only [accL]
      generalize accL B 2 = x at *
      cases hb : B.b2
      all_goals go_wp2
      all_goals go_round
      all_goals first | exact ⟨3, by omega, by go_num, by rw [hy.out]; simp [b2i, hb]⟩ | (simp [intOf]; done)
    · obtain ⟨hx0, hx1⟩ := accL_bd B 3 (by omega)
      have ho := or_pow 3 (accL B 3) (by omega) hx0 hx1
      simp only [Int.reducePow] at ho hx1
      have hy : Hid (accL B 4 = accL B 3 + b2i B.b3 8) := by unfold Hid; simp only [accL]
      generalize accL B 3 = x at *
      cases hb : B.b3
      all_goals go_wp2
      all_goals go_round
      all_goals first | exact ⟨4, by omega, by go_num, by rw [hy.out]; simp [b2i, hb]⟩ | (simp [intOf]; done)
    · obtain ⟨hx0, hx1⟩ := accL_bd B 4 (by omega)
      have ho := or_pow 4 (accL B 4) (by omega) hx0 hx1
      simp only [Int.reducePow] at ho hx1
      have hy : Hid (accL B 5 = accL B 4 + b2i B.b4 16) := by unfold Hid; simp only [accL]
      generalize accL B 4 = x at *
      cases hb : B.b4
      all_goals go_wp2
      all_goals go_round
      all_goals first | exact ⟨5, by omega, by go_num, by rw [hy.out]; simp [b2i, hb]⟩ | (simp [intOf]; done)
    · obtain ⟨hx0, hx1⟩ := accL_bd B 5 (by omega)
      have ho := or_pow 5 (accL B 5) (by omega) hx0 hx1
      simp only [Int.reducePow] at ho hx1
      have hy : Hid (accL B 6 = accL B 5 + 0) := by unfold Hid; simp only [accL]; omega
      generalize accL B 5 = x at *
      go_wp2
      go_round
      case rel => exact ⟨6, by omega, by go_num, by rw [hy.out]; simp⟩
      case measure => simp [intOf]
    · obtain ⟨hx0, hx1⟩ := accL_bd B 6 (by omega)
      have ho := or_pow 6 (accL B 6) (by omega) hx0 hx1
      simp only [Int.reducePow] at ho hx1
      have hy : Hid (accL B 7 = accL B 6 + b2i B.b6 64) := by unfold Hid; simp only [accL]
      generalize accL B 6 = x at *
      cases hb : B.b6
      all_goals go_wp2
      all_goals go_round
      all_goals first | exact ⟨7, by omega, by go_num, by rw [hy.out]; simp [b2i, hb]⟩ | (simp [intOf]; done)
    · obtain ⟨hx0, hx1⟩ := accL_bd B 7 (by omega)
      have ho := or_pow 7 (accL B 7) (by omega) hx0 hx1
      simp only [Int.reducePow] at ho hx1
      have hy : Hid (accL B 8 = accL B 7 + b2i B.b7 128) := by unfold Hid; simp only [accL]
      generalize accL B 7 = x at *
      cases hb : B.b7
      all_goals go_wp2
      all_goals go_round
      all_goals first | exact ⟨8, by omega, by go_num, by rw [hy.out]; simp [b2i, hb]⟩ | (simp [intOf]; done)
    · clear n0 n1 n2 n3 n4 n5 n6 n7
      have hf : ∀ i, W.frozen? ⟨k.b, i, none⟩ = false := hS.snd.frozen
      have c21 : _ = some (Value.bool s.irq) := hS.snd.cell 21
      rw [← Hg.out]
      go_wp2
      go_ret
      refine ⟨rfl, SoundAt.setB ha hS (At.eq (hS.snd.setCell 21 _) ?_) ((Upd.refl _ _).setCell (by simp) _) rfl rfl rfl rfl, Upd.trans (hU.mono (by simp)) (Upd.inB ((Upd.refl _ _).setCell (by simp) _))⟩
      simp only [Sound.got, Sound.enc, List.set_cons_zero, List.set_cons_succ]
end Go.Proofs.YtonhhjihmbcfnaaDoor

import Derived.Lib.Hide
import Derived.Test.YtonhhjihmbcfnaaDoorL0
import Derived.Test.YtonhhjihmbcfnaaDoorP1
import Derived.Test.YtonhhjihmbcfnaaDoorP2
namespace Go.Proofs.YtonhhjihmbcfnaaDoor
open Go.RowKit
set_option linter.unusedSimpArgs false
set_option linter.unusedVariables false

theorem and192 (x : Int) (h0 : 0 ≤ x) (h1 : x ≤ 255) : bits .and .u8 x 192 = x / 64 * 64 := all256 (p := fun x => bits .and .u8 x 192 = x / 64 * 64) (by decide +kernel) x h0 h1
theorem SRun.lay {full : Bool} {w w1 w2 : World} {k : Hd} {s : Sound} (hu : Upd [] w w1) (r0 : SRun full w1 w2 k s) : SRun full w w2 k s :=
  ⟨r0.at_, r0.wf, r0.inn, r0.apart, r0.tabs, hu.trans r0.upd, fun x hx => Nat.le_trans hu.size (r0.fresh x hx)⟩

set_option maxHeartbeats 2000000 in
theorem asks_walk_false (b n : Int) (h0 : 0 ≤ b ∧ b ≤ 255) (h1 : 0 ≤ n ∧ n ≤ 65535) (w : World) (hT : TabsF true w) :
    Calls Tryd.prog 4 #[.int .u8 b, .int .u16 n, .bool false] w fun e w' => e = .returned (.bool true) ∧ Below w.heap.size w w' := by
  have eb : bits .and .u8 b 192 = b / 64 * 64 := and192 b h0.1 h0.2
  have hround := Lib.hid (asks_round h0.1 h0.2 false)
  have hend := Lib.hid (asks_end h0.1 h0.2 false)
  have hgot := Lib.hid (asks_get h0.1 h0.2 false)
  have hstep : Hid (∀ s j, stA false s (j + 1) = if false = true ∧ (stA false s j).clock.asking = true then (stA false s j).clock.got else (stA false s j).clock) := fun _ _ => rfl
  have hlive : Hid (live b = decide (b < 64)) := rfl
  obtain ⟨c, rfl⟩ : ∃ c : Nat, n = c := ⟨n.toNat, by omega⟩
  have hc : c ≤ 65535 := by omega
  go_enter Tryd.func4, Tryd.ntmps4
  go_wp2_with fail
  refine (awake_w w hT).mono ?_
  rintro e w1 ⟨rfl, hU1, hT1⟩
  go_wp2_with fail
  refine (r_new w1 hT1).mono ?_
  rintro e w2 ⟨k, rfl, r0⟩
  have R := r0.lay hU1
  clear r0 hU1 hT1 hT
  go_wp2_with fail
  refine (r_put R _ _ h0).mono ?_
  clear R
  rintro e w3 ⟨rfl, R⟩
  clear h1
  go_wp2_with fail
  generalize hs : Sound.new.put 16407 b = s0 at *
  clear hs

  go_loopw [10] (fun i wr => ∃ j : Nat, j ≤ c + 1 ∧ i = .int .i64 ((j : Int) + 1) ∧ SRun true w wr k (stA false s0 j)) (fun i _ => c + 2 - (intOf i).toNat)
  case atStart => exact ⟨0, by omega, rfl, R⟩
  case round =>
    obtain ⟨j, hj, rfl, RJ⟩ := hrel
    clear R
    by_cases hlt : j < c + 1
    · go_wp2_with fail
      refine (r_clock RJ).mono ?_
      rintro e w6 ⟨rfl, R6⟩
      go_wp2_with fail
      go_roundw
      case rel => exact ⟨j + 1, by omega, by go_num, by rw [hstep.out, if_neg (by simp)]; exact R6⟩
      case measure => simp [intOf]; omega
    · have hjc : j = c + 1 := by omega
      have ha := hend.out j
      have HA : Hid ((stA false s0 j).asking = (live b && decide (29829 ≤ j))) := by unfold Hid; rw [ha]; simp
      clear ha
      by_cases hb : b < 64
      · have h64 : b / 64 * 64 = 0 := by omega
        have hl : live b = true := by rw [hlive.out]; simp [hb]
        go_wp2_with fail
        refine (r_irq RJ).mono ?_
        rw [HA.out, hl]
        rintro e w6 ⟨rfl, R6⟩
        go_wp2
        go_ret
        refine ⟨ret_bool ?_, R6.upd.below⟩
        rw [Bool.eq_iff_iff]
        simp
        omega
      · have h64 : ¬ b / 64 * 64 = 0 := by omega
        have hl : live b = false := by rw [hlive.out]; simp [hb]
        go_wp2_with fail
        refine (r_irq RJ).mono ?_
        rw [HA.out, hl]
        rintro e w6 ⟨rfl, R6⟩
        go_wp2
        go_ret
        refine ⟨ret_bool ?_, R6.upd.below⟩
        simp

set_option maxHeartbeats 2000000 in
theorem asks_walk_true (b n : Int) (h0 : 0 ≤ b ∧ b ≤ 255) (h1 : 0 ≤ n ∧ n ≤ 65535) (w : World) (hT : TabsF true w) :
    Calls Tryd.prog 4 #[.int .u8 b, .int .u16 n, .bool true] w fun e w' => e = .returned (.bool true) ∧ Below w.heap.size w w' := by
  have eb : bits .and .u8 b 192 = b / 64 * 64 := and192 b h0.1 h0.2
  have hround := Lib.hid (asks_round h0.1 h0.2 true)
  have hend := Lib.hid (asks_end h0.1 h0.2 true)
  have hgot := Lib.hid (asks_get h0.1 h0.2 true)
  have hstep : Hid (∀ s j, stA true s (j + 1) = if true = true ∧ (stA true s j).clock.asking = true then (stA true s j).clock.got else (stA true s j).clock) := fun _ _ => rfl
  have hlive : Hid (live b = decide (b < 64)) := rfl
  obtain ⟨c, rfl⟩ : ∃ c : Nat, n = c := ⟨n.toNat, by omega⟩
  have hc : c ≤ 65535 := by omega
  go_enter Tryd.func4, Tryd.ntmps4
  go_wp2_with fail
  refine (awake_w w hT).mono ?_
  rintro e w1 ⟨rfl, hU1, hT1⟩
  go_wp2_with fail
  refine (r_new w1 hT1).mono ?_
  rintro e w2 ⟨k, rfl, r0⟩
  have R := r0.lay hU1
  clear r0 hU1 hT1 hT
  go_wp2_with fail
  refine (r_put R _ _ h0).mono ?_
  clear R
  rintro e w3 ⟨rfl, R⟩
  clear h1
  go_wp2_with fail
  generalize hs : Sound.new.put 16407 b = s0 at *
  clear hs

  go_loopw [9, 10] (fun a i wr => ∃ j : Nat, j ≤ c + 1 ∧ i = .int .i64 ((j : Int) + 1) ∧ a = .int .i64 (askN (live b) j) ∧ SRun true w wr k (stA true s0 j)) (fun _ i _ => c + 2 - (intOf i).toNat)
  case atStart => exact ⟨0, by omega, rfl, by rw [askN_zero], R⟩
  case round =>
    obtain ⟨j, hj, rfl, rfl, RJ⟩ := hrel
    clear R
    have hN := askN_bd (live b) j
    have hS : Hid (askN (live b) (j + 1) = askN (live b) j + if live b = true ∧ (j + 1) % 29830 = 29829 then 1 else 0) := askN_succ _ _
    by_cases hlt : j < c + 1
    · generalize hx : askN (live b) j = x at hN hS ⊢
      clear hx
      have HR : Hid ((stA true s0 j).clock.asking = (live b && decide ((j + 1) % 29830 = 29829))) := by unfold Hid; rw [hround.out j]; simp
      go_wp2_with fail
      refine (r_clock RJ).mono ?_
      rintro e w6 ⟨rfl, R6⟩
      go_wp2_with fail
      refine (r_irq R6).mono ?_
      by_cases hq : (stA true s0 j).clock.asking = true
      · have HQ := Lib.hid hq
        clear hq
        rw [HQ.out]
        rintro e w7 ⟨rfl, R7⟩
        go_wp2_with fail
        refine (r_get R7).mono ?_
        rintro e w8 ⟨rfl, R8⟩
        have hg := get_bd (stA true s0 j).clock
        have hg1 := hgot.out j HQ.out
        have e64 : bits .and .u8 (stA true s0 j).clock.get 64 = 64 := by rw [and64 _ hg.1 hg.2, hg1]; rfl
        have hmod : ((j : Int) + 1) % 29830 = 29829 := by
          have := HR.out
          rw [HQ.out] at this
          simp at this
          omega
        have hl : Hid (live b = true) := by
          have := HR.out
          rw [HQ.out] at this
          simp at this
          exact this.1
        clear hg hg1
        go_wp2_with fail
        go_roundw
        case rel => exact ⟨j + 1, by omega, by go_num, by rw [hS.out, if_pos ⟨hl.out, by omega⟩], by rw [hstep.out, if_pos ⟨trivial, HQ.out⟩]; exact R8⟩
        case measure => simp [intOf]; omega
      · have hq : (stA true s0 j).clock.asking = false := by simpa using hq
        have HQ := Lib.hid hq
        clear hq
        rw [HQ.out]
        rintro e w7 ⟨rfl, R7⟩
        go_wp2_with fail
        go_roundw
        case rel => exact ⟨j + 1, by omega, by go_num, by rw [hS.out, if_neg (fun h => by have := HR.out; rw [HQ.out, h.1] at this; simp [h.2] at this), Int.add_zero], by rw [hstep.out, if_neg (fun h => by rw [HQ.out] at h; cases h.2)]; exact R7⟩
        case measure => simp [intOf]; omega
    · have hjc : j = c + 1 := by omega
      have ha := hend.out j
      have HA : Hid ((stA true s0 j).asking = false) := by unfold Hid; rw [ha]; simp
      clear ha hS
      by_cases hb : b < 64
      · have h64 : b / 64 * 64 = 0 := by omega
        have hl : live b = true := by rw [hlive.out]; simp [hb]
        have hx : askN (live b) j = ((c : Int) + 1 + 1) / 29830 := by rw [hl]; unfold askN; simp; omega
        have HX := Lib.hid hx
        clear hx
        rw [HX.out] at hN ⊢
        clear hl
        go_wp2_with fail
        refine (r_irq RJ).mono ?_
        rw [HA.out]
        rintro e w6 ⟨rfl, R6⟩
        go_wp2
        go_ret
        exact ⟨ret_bool (by simp), R6.upd.below⟩
      · have h64 : ¬ b / 64 * 64 = 0 := by omega
        have hl : live b = false := by rw [hlive.out]; simp [hb]
        have hx : askN (live b) j = 0 := by rw [hl]; rfl
        have HX := Lib.hid hx
        clear hx
        rw [HX.out] at hN ⊢
        clear hl
        go_wp2_with fail
        refine (r_irq RJ).mono ?_
        rw [HA.out]
        rintro e w6 ⟨rfl, R6⟩
        go_wp2
        go_ret
        exact ⟨ret_bool (by simp), R6.upd.below⟩

theorem asks_walk (b n : Int) (look : Bool) (h0 : 0 ≤ b ∧ b ≤ 255) (h1 : 0 ≤ n ∧ n ≤ 65535) (w : World) (hT : TabsF true w) :
    Calls Tryd.prog 4 #[.int .u8 b, .int .u16 n, .bool look] w fun e w' => e = .returned (.bool true) ∧ Below w.heap.size w w' := by
  cases look
  · exact asks_walk_false b n h0 h1 w hT
  · exact asks_walk_true b n h0 h1 w hT
end Go.Proofs.YtonhhjihmbcfnaaDoor

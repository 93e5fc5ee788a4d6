import Derived.Lib.Hide
import Derived.Test.YtonhhjihmbcfnaaDoorL1
import Derived.Test.YtonhhjihmbcfnaaDoorP1
namespace Go.Proofs.YtonhhjihmbcfnaaDoor
open Go.RowKit
set_option linter.unusedSimpArgs false
set_option linter.unusedVariables false

set_option maxHeartbeats 2000000 in
theorem lengths_walk (on number frames : Int) (h0 : 0 ≤ on ∧ on ≤ 255) (h1 : 0 ≤ number ∧ number ≤ 255) (h2 : 0 ≤ frames ∧ frames ≤ 255) (w : World) (hT : TabsF false w) :
    Calls Tryd.prog 3 #[.int .u8 on, .int .u8 number, .int .u8 frames] w fun e w' => e = .returned (.bool true) ∧ Below w.heap.size w w' := by
  have hv : IntKind.u8.wrap (number * 8) = number * 8 % 256 := by simp [IntKind.wrap, IntKind.bits, IntKind.signed]
  have hV : 0 ≤ number * 8 % 256 ∧ number * 8 % 256 ≤ 255 := by omega
  have hV8 : number * 8 % 256 / 8 = number % 32 := by omega
  have hL : lengthOf (number * 8 % 256 / 8) = lengthOf (number % 32) := by rw [hV8]
  have hbd := lengthOf_bd (number % 32) (by omega) (by omega)
  have hlaw := fun n : Nat => lengths_law on (number * 8 % 256) n (lengthOf (number % 32)) hL hbd.1
  have HL := Lib.hid hlaw
  clear hlaw hL hV8
  have eo15 : bits .and .u8 on 15 = on % 16 := and15 _ h0.1 h0.2
  go_enter Tryd.func3, Tryd.ntmps3
  go_wp2_with fail
  refine (awake_w w hT).mono ?_
  rintro e w1 ⟨rfl, hU1, hT1⟩
  go_wp2_with fail
  refine (r_new w1 hT1).mono ?_
  rintro e w2 ⟨k, rfl, r0⟩
  have R := (⟨r0.at_, r0.wf, r0.inn, r0.apart, r0.tabs, hU1.trans r0.upd, fun x hx => Nat.le_trans hU1.size (r0.fresh x hx)⟩ : SRun false w w2 k Sound.new)
  clear r0 hU1 hT1
  go_wp2_with fail
  refine (r_put R _ _ h0).mono ?_
  rintro e w3 ⟨rfl, R⟩
  go_wp2_with fail
  refine wp_loop_rounds 5 ?_
  rw [rounds_succ]
  go_wp2_with fail
  refine (r_put R 16387 (number * 8 % 256) hV).mono ?_
  rintro e w4 ⟨rfl, R⟩
  go_wp2_with fail
  rw [rounds_succ]
  go_wp2_with fail
  refine (r_put R 16391 (number * 8 % 256) hV).mono ?_
  rintro e w4 ⟨rfl, R⟩
  go_wp2_with fail
  rw [rounds_succ]
  go_wp2_with fail
  refine (r_put R 16395 (number * 8 % 256) hV).mono ?_
  rintro e w4 ⟨rfl, R⟩
  go_wp2_with fail
  rw [rounds_succ]
  go_wp2_with fail
  refine (r_put R 16399 (number * 8 % 256) hV).mono ?_
  rintro e w4 ⟨rfl, R⟩
  go_wp2_with fail
  rw [rounds_succ]
  go_wp2_with fail
  refine (len_any (number % 32) (by omega) (by omega) _).mono ?_
  rintro e w5 ⟨rfl, hU⟩
  have R := R.more hU
  change SRun false w w5 k (stL on (number * 8 % 256)) at R
  clear hU
  obtain ⟨n, hn⟩ : ∃ n : Nat, frames % 20 = n := ⟨(frames % 20).toNat, by omega⟩
  have hn20 : n < 20 := by omega
  go_wp2_with fail
  clear hn hv
  have hne := hT.size
  clear hT
  go_loopw [37] (fun i wr => ∃ j : Nat, j ≤ n ∧ i = .int .i64 j ∧ SRun false w wr k (itL j (stL on (number * 8 % 256)))) (fun i _ => n - (intOf i).toNat)
  case atStart => exact ⟨0, by omega, rfl, R⟩
  case round =>
    obtain ⟨j, hj, rfl, RJ⟩ := hrel
    clear R
    by_cases hlt : j < n
    · go_wp2_with fail
      refine (r_put RJ _ _ (by omega)).mono ?_
      rintro e w6 ⟨rfl, R6⟩
      go_wp2_with fail
      go_roundw
      case rel => exact ⟨j + 1, by omega, by go_num, R6⟩
      case measure => simp [intOf]; omega
    · have : j = n := by omega
      subst this
      clear hj
      go_wp2_with fail
      refine (r_get RJ).mono ?_
      rintro e w6 ⟨rfl, R6⟩
      have hg := get_bd (itL j (stL on (number * 8 % 256)))
      have e15 : bits .and .u8 (itL j (stL on (number * 8 % 256))).get 15 = (itL j (stL on (number * 8 % 256))).get % 16 := and15 _ hg.1 hg.2
      have hl := HL.out j
      rw [hl] at e15
      clear hl
      generalize (itL j (stL on (number * 8 % 256))).get = G at *
      by_cases hw : (j : Int) < lengthOf (number % 32)
      · rw [if_pos hw] at e15
        go_wp2
        go_ret
        exact ⟨ret_bool (by simp), R6.upd.below⟩
      · rw [if_neg hw] at e15
        go_wp2
        go_ret
        exact ⟨ret_bool (by simp), R6.upd.below⟩
end Go.Proofs.YtonhhjihmbcfnaaDoor

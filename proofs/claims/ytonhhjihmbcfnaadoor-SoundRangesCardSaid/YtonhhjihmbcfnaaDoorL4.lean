import Derived.Lib.Hide
import Derived.Test.YtonhhjihmbcfnaaDoorL0
import Derived.Test.YtonhhjihmbcfnaaDoorActs
import Derived.Test.YtonhhjihmbcfnaaDoorL3
namespace Go.Proofs.YtonhhjihmbcfnaaDoor
open Go.RowKit
set_option linter.unusedSimpArgs false
set_option linter.unusedVariables false

set_option maxHeartbeats 2000000 in
theorem ranges_walk (b o : Nat) (a : Option Addr) (l : List Act) (cap : Nat) (w : World) (hA : ActsAt w (.slice a l.length cap) b o a l cap) (hT : TabsF true w) :
    Calls Tryd.prog 5 #[.slice a l.length cap] w fun e w' => e = .returned (.bool true) ∧ Below w.heap.size w w' := by
  have hlen := hA.len
  unfold maxLen at hlen
  go_enter Tryd.func5, Tryd.ntmps5
  go_wp2_with fail
  refine (awake_w w hT).mono ?_
  rintro e w1 ⟨rfl, hU1, hT1⟩
  go_wp2_with fail
  refine (r_new w1 hT1).mono ?_
  rintro e w2 ⟨k, rfl, r0⟩
  have R := r0.lay hU1
  clear r0 hU1 hT1 hT
  go_wp2_with fail
  go_loopw [12] (fun i wr => ∃ j : Nat, j ≤ l.length ∧ i = .int .i64 j ∧ ∃ s, SRun true w wr k s) (fun i _ => l.length - (intOf i).toNat)
  case atStart => exact ⟨0, by omega, rfl, _, R⟩
  case round =>
    obtain ⟨j, hj, rfl, s, RJ⟩ := hrel
    clear R
    have hB := hA.upd RJ.upd
    by_cases hlt : j < l.length
    · obtain ⟨x, hx⟩ : ∃ x, l[j]? = some x := ⟨_, List.getElem?_eq_getElem hlt⟩
      obtain ⟨c0, c1, c2, c3⟩ := hB.cells j x hx
      have hwf := hB.wf x (List.mem_of_getElem? hx)
      obtain ⟨⟨d0, d1⟩, ⟨e0, e1⟩, hb, ⟨n0, n1⟩⟩ := hwf
      obtain ⟨ha, hbl⟩ := hB.addr (by omega)
      subst ha
      clear hB hA hx
      have R0 := RJ.more ((Upd.refl [] wr).alloc (Obj.cells [Value.int .u8 x.do_, .int .u16 x.at_, .int .u8 x.b, .int .u16 x.n].toArray 34))
      have hN : At (wr.alloc (Obj.cells [Value.int .u8 x.do_, .int .u16 x.at_, .int .u8 x.b, .int .u16 x.n].toArray 34)) wr.heap.size [Value.int .u8 x.do_, .int .u16 x.at_, .int .u8 x.b, .int .u16 x.n] 34 := At.new _ _ _
      by_cases h30 : 30 ≤ j
      · have h30' : (30 : Int) ≤ (j : Int) := by omega
        go_wp2
        go_ret
        exact ⟨rfl, R0.upd.below⟩
      · have h30' : (j : Int) < 30 := by omega
        by_cases h4 : x.do_ % 8 = 4
        · have k4 : (x.do_ % 8 == 4) = true := by simp [h4]
          clear h4
          go_wp2_with fail
          generalize (wr.alloc (Obj.cells _ 34)) = W0 at *
          go_loopw [36] (fun i wq => ∃ q : Nat, (q : Int) ≤ x.n % 500 ∧ i = .int .u16 q ∧ ∃ s, SRun true w wq k s) (fun i _ => (x.n % 500).toNat - (intOf i).toNat)
          case atStart => exact ⟨0, by omega, rfl, _, R0⟩
          case round =>
            obtain ⟨q, hq, rfl, s', RQ⟩ := hrel
            clear R0 RJ
            by_cases hlq : (q : Int) < x.n % 500
            · go_wp2_with fail
              refine (r_clock RQ).mono ?_
              rintro e w6 ⟨rfl, R6⟩
              go_wp2_with fail
              go_roundw
              case rel => exact ⟨q + 1, by omega, by go_num, _, R6⟩
              case measure => simp [intOf]; omega
            · have R9 := RQ
              have hO := Sound.out_bd R9.wf
              go_wp2_with fail
              refine (r_out R9).mono ?_
              rintro e w9 ⟨rfl, R10⟩
              have hO1 := hO.1
              have hO2 := hO.2
              go_wp2_with fail
              go_roundw
              case rel => exact ⟨j + 1, by omega, by go_num, _, R10⟩
              case measure => simp [intOf]; omega
        · have k4 : (x.do_ % 8 == 4) = false := by simp [h4]
          clear h4
          by_cases h5 : x.do_ % 8 = 5
          · have k5 : (x.do_ % 8 == 5) = true := by simp [h5]
            clear h5
            go_wp2_with fail
            generalize (wr.alloc (Obj.cells _ 34)) = W0 at *
            go_loopw [36] (fun i wq => ∃ q : Nat, (q : Int) ≤ x.n % 500 ∧ i = .int .u16 q ∧ ∃ s, SRun true w wq k s) (fun i _ => (x.n % 500).toNat - (intOf i).toNat)
            case atStart => exact ⟨0, by omega, rfl, _, R0⟩
            case round =>
              obtain ⟨q, hq, rfl, s', RQ⟩ := hrel
              clear R0 RJ
              by_cases hlq : (q : Int) < x.n % 500
              · go_wp2_with fail
                refine (r_clock RQ).mono ?_
                rintro e w6 ⟨rfl, R6⟩
                go_wp2_with fail
                go_roundw
                case rel => exact ⟨q + 1, by omega, by go_num, _, R6⟩
                case measure => simp [intOf]; omega
              · have R9 := RQ
                have hO := Sound.out_bd R9.wf
                go_wp2_with fail
                refine (r_out R9).mono ?_
                rintro e w9 ⟨rfl, R10⟩
                have hO1 := hO.1
                have hO2 := hO.2
                go_wp2_with fail
                go_roundw
                case rel => exact ⟨j + 1, by omega, by go_num, _, R10⟩
                case measure => simp [intOf]; omega
          · have k5 : (x.do_ % 8 == 5) = false := by simp [h5]
            clear h5
            by_cases h7 : x.do_ % 8 = 7
            · have k7 : (x.do_ % 8 == 7) = true := by simp [h7]
              clear h7
              go_wp2_with fail
              refine (r_give R0 x.b hb).mono ?_
              rintro e w6 ⟨rfl, R9⟩
              clear R0 RJ hN
              have hO := Sound.out_bd R9.wf
              go_wp2_with fail
              refine (r_out R9).mono ?_
              rintro e w9 ⟨rfl, R10⟩
              have hO1 := hO.1
              have hO2 := hO.2
              go_wp2_with fail
              go_roundw
              case rel => exact ⟨j + 1, by omega, by go_num, _, R10⟩
              case measure => simp [intOf]; omega
            · have k7 : (x.do_ % 8 == 7) = false := by simp [h7]
              clear h7
              go_wp2_with fail
              refine (r_put R0 _ x.b hb).mono ?_
              rintro e w6 ⟨rfl, R9⟩
              clear R0 RJ hN
              have hO := Sound.out_bd R9.wf
              go_wp2_with fail
              refine (r_out R9).mono ?_
              rintro e w9 ⟨rfl, R10⟩
              have hO1 := hO.1
              have hO2 := hO.2
              go_wp2_with fail
              go_roundw
              case rel => exact ⟨j + 1, by omega, by go_num, _, R10⟩
              case measure => simp [intOf]; omega
    · go_wp2
      go_ret
      exact ⟨rfl, RJ.upd.below⟩
end Go.Proofs.YtonhhjihmbcfnaaDoor

import Derived.Lib.Hide
import Derived.Test.YtonhhjihmbcfnaaDoorL3
import Derived.Test.YtonhhjihmbcfnaaDoorP4
import Derived.Test.YtonhhjihmbcfnaaDoorBytes
namespace Go.Proofs.YtonhhjihmbcfnaaDoor
open Go.RowKit
set_option linter.unusedSimpArgs false
set_option linter.unusedVariables false

theorem or_re (x y : Int) (h0 : 0 ≤ x) (h1 : x ≤ 255) (h2 : 0 ≤ y) (h3 : y ≤ 255) : bits .or .u8 (x % 16) (y / 64 * 64) = x % 16 + y / 64 * 64 := by
  have key : ∀ (a : Fin 16) (b : Fin 4), bits .or .u8 (a.val : Int) ((b.val : Int) * 64) = (a.val : Int) + (b.val : Int) * 64 := by decide +kernel
  have := key ⟨(x % 16).toNat, by omega⟩ ⟨(y / 64).toNat, by omega⟩
  simpa [Int.toNat_of_nonneg (show 0 ≤ x % 16 by omega), Int.toNat_of_nonneg (show 0 ≤ y / 64 by omega)] using this
theorem per_cell (w : World) (r : Int) (h0 : 0 ≤ r) (h1 : r ≤ 15) (cs : Array Value) (ty : TypeId) (b : Nat) (hc : cs = (rates.map (Value.int .i64)).toArray) (hb : b = w.heap.size) :
    (w.alloc (.cells cs ty)).cell? ⟨b, r.toNat, none⟩ = some (.int .i64 (rateOf r)) := by
  subst hc hb
  have := At.new w (rates.map (Value.int .i64)) ty
  rw [this.cell]
  unfold rateOf
  rw [List.getElem?_map]
  have hl : r.toNat < rates.length := by simp [rates]; omega
  rw [List.getElem?_eq_getElem hl, List.getD_eq_getElem?_getD, List.getElem?_eq_getElem hl]
  rfl

theorem per_list (r : Int) (h0 : 0 ≤ r) (h1 : r ≤ 15) : [Value.int .i64 428, Value.int .i64 380, Value.int .i64 340, Value.int .i64 320, Value.int .i64 286, Value.int .i64 254, Value.int .i64 226, Value.int .i64 214, Value.int .i64 190, Value.int .i64 160, Value.int .i64 142, Value.int .i64 128, Value.int .i64 106, Value.int .i64 84, Value.int .i64 72, Value.int .i64 54][r.toNat]? = some (Value.int .i64 (rateOf r)) := by
  show (rates.map (Value.int .i64))[r.toNat]? = _
  unfold rateOf
  rw [List.getElem?_map]
  have hl : r.toNat < rates.length := by simp [rates]; omega
  rw [List.getElem?_eq_getElem hl, List.getD_eq_getElem?_getD, List.getElem?_eq_getElem hl]
  rfl

set_option maxRecDepth 4000 in
set_option maxHeartbeats 4000000 in
theorem samples_none (r p v e : Int) (b o : Nat) (a : Option Addr) (l : List Int) (cap : Nat) (h0 : 0 ≤ r ∧ r ≤ 255) (h1 : 0 ≤ p ∧ p ≤ 255) (h2 : 0 ≤ v ∧ v ≤ 255) (h3 : 0 ≤ e ∧ e ≤ 255) (w : World) (hA : BytesAt w (.slice a l.length cap) b o a l cap) (hT : TabsF true w) (hl : l.length = 0) :
    Calls Tryd.prog 8 #[.int .u8 r, .int .u8 p, .int .u8 v, .int .u8 e, .slice a l.length cap] w fun e w' => e = .returned (.bool true) ∧ Below w.heap.size w w' := by
  have hlen := hA.len
  unfold maxLen at hlen
  have er : bits .and .u8 r 15 = r % 16 := and15 r h0.1 h0.2
  have ee : bits .and .u8 e 192 = e / 64 * 64 := and192 e h3.1 h3.2
  have e6 : bits .and .u8 e 64 = e / 64 % 2 * 64 := and64 e h3.1 h3.2
  have ev : bits .and .u8 v 127 = v % 128 := and127 v h2.1 h2.2
  have eo : bits .or .u8 (r % 16) (e / 64 * 64) = r % 16 + e / 64 * 64 := or_re r e h0.1 h0.2 h3.1 h3.2
  go_enter Tryd.func8, Tryd.ntmps8
  go_wp2_with fail
  refine (awake_w w hT).mono ?_
  rintro _ w1 ⟨rfl, hU1, hT1⟩
  go_wp2_with fail
  refine (r_new w1 hT1).mono ?_
  rintro _ w2 ⟨k, rfl, r0⟩
  have R := r0.lay hU1
  clear r0 hU1 hT1 hT
  go_wp2_with fail
  refine (r_put R 16400 (r % 16 + e / 64 * 64) (by omega)).mono ?_
  clear R
  rintro _ w3 ⟨rfl, R⟩
  go_wp2_with fail
  refine (r_put R 16401 v h2).mono ?_
  clear R
  rintro _ w4 ⟨rfl, R⟩
  go_wp2_with fail
  refine (r_put R 16402 p h1).mono ?_
  clear R
  rintro _ w5 ⟨rfl, R⟩
  go_wp2_with fail
  refine (r_put R 16403 0 (by omega)).mono ?_
  clear R
  rintro _ w6 ⟨rfl, R⟩
  go_wp2_with fail
  refine (r_put R 16405 16 (by omega)).mono ?_
  clear R
  rintro _ w7 ⟨rfl, R⟩
  have S0 := Lib.hid (start_at r p v e 0)
  change SRun true w w7 k (smpS r p v e 0) at R
  generalize smpS r p v e 0 = s at R S0
  have ha := start_asks S0.out
  have hat := S0.out.at_
  go_wp2_with fail
  refine (r_asks R).mono ?_
  rw [ha, hat, if_pos rfl]
  clear R ha hat
  rintro _ w8 ⟨rfl, R⟩
  have hB := hA.upd R.upd
  clear hA

  go_wp2_with fail
  refine (r_give R (85 : Int) (by omega)).mono ?_
  clear R
  rintro _ w9 ⟨rfl, R⟩
  obtain ⟨G, g1, g2, g3, g4⟩ := start_given h3 S0.out (85 : Int)
  clear S0
  generalize s.give (85 : Int) = s1 at *
  go_wp2_with fail
  refine (r_asks R).mono ?_
  rw [g1, if_neg (by simp)]
  clear R g1
  rintro _ w10 ⟨rfl, R⟩
  have k2 : (e / 64 * 64 == 128) = decide (e / 64 * 64 = 128) := by rw [Bool.eq_iff_iff]; simp
  generalize decide (e / 64 * 64 = 128) = B2 at g2 k2
  go_wp2_with fail
  refine (r_irq R).mono ?_
  rw [g2]
  clear R g2
  rintro _ w11 ⟨rfl, R⟩
  have gb := get_bd s1
  have g16 : bits .and .u8 s1.get 16 = e / 64 % 2 * 16 := by rw [and16 _ gb.1 gb.2, g3]
  clear gb g3 g4
  have k3 : e / 64 % 2 * 64 / 4 = e / 64 % 2 * 16 := by omega
  go_wp2_with fail
  refine (r_get R).mono ?_
  clear R
  rintro _ w12 ⟨rfl, R⟩
  have G := Lib.hid G.got
  generalize s1.got = s2 at *
  go_wp2_with fail
  refine (r_out R).mono ?_
  rw [G.out.out]
  clear R
  rintro _ w13 ⟨rfl, R⟩
  have hrb := rateOf_bd (r % 16) (by omega) (by omega)
  have hper := per_list (r % 16) (by omega) (by omega)
  have R0 := R.more ((Upd.refl [] w13).alloc (Obj.cells #[Value.int .i64 428, Value.int .i64 380, Value.int .i64 340, Value.int .i64 320, Value.int .i64 286, Value.int .i64 254, Value.int .i64 226, Value.int .i64 214, Value.int .i64 190, Value.int .i64 160, Value.int .i64 142, Value.int .i64 128, Value.int .i64 106, Value.int .i64 84, Value.int .i64 72, Value.int .i64 54] 3))
  clear R
  obtain ⟨P, hP⟩ : ∃ P, P = rateOf (r % 16) := ⟨_, rfl⟩
  rw [← hP] at hrb hper
  replace hP := Lib.hid hP.symm
  have h16 : 0 ≤ r % 16 ∧ r % 16 ≤ 15 := by omega
  clear g16 k2 k3
  go_wp2_with fail
  generalize w13.alloc (Obj.cells _ 3) = W0 at *
  clear hper
  go_loopw [17, 19, 115] (fun wv nv iv wr => ∃ (j n : Nat) (want : Int) (t : Sound), (j : Int) ≤ 15 * P + 1 ∧ iv = .int .i64 j ∧ nv = .int .i64 n ∧ wv = .int .i64 want ∧ Hid (Stp (r % 16) (85 : Int) j n want t) ∧ SRun true w wr k t) (fun _ _ iv _ => (15 * P + 2).toNat - (intOf iv).toNat)
  case atStart => exact ⟨0, 0, _, _, by omega, rfl, rfl, rfl, G, R0⟩
  case round =>
    obtain ⟨j, n, want, t, hj, rfl, rfl, rfl, HS, RJ⟩ := hrel
    clear R0 G
    have hw := RJ.wf.m.level
    rw [HS.out.level] at hw
    obtain ⟨hw0, hw1⟩ := hw
    by_cases hlt : (j : Int) < 15 * P + 1
    · go_wp2_with fail
      refine (r_clock RJ).mono ?_
      rintro _ w14 ⟨rfl, RC⟩
      have hmod := stp_mod HS.out
      rw [hP.out] at hmod
      by_cases ht : 0 < t.m.timer
      · have HS2 := Lib.hid (stp_rest HS.out ht)
        have hm : ¬ (j : Int) % P = 0 := by rw [hmod]; omega
        clear hmod ht RJ HS
        go_wp2_with fail
        go_roundw
        case rel => exact ⟨j + 1, n, want, _, by omega, by go_num, rfl, rfl, HS2, RC⟩
        case measure => simp [intOf]; omega
      · have ht0 := HS.out.timer
        have hm : (j : Int) % P = 0 := by rw [hmod]; omega
        have hn : n ≤ 15 := stp_more h16 HS.out (by rw [hP.out]; omega) (by omega)
        have HS2 := Lib.hid (stp_step h16 HS.out ht hn)
        clear hmod ht ht0 RJ HS
        have ho := Lib.hid HS2.out.out
        by_cases h8 : n < 8
        · have e8 : stepW (85 : Int) n want = want := by unfold stepW; rw [if_pos h8]
          rw [e8] at HS2 ho
          have h8' : (n : Int) < 8 := by omega
          clear h8 e8
          go_wp2_with fail
          refine (r_out RC).mono ?_
          rw [ho.out]
          rintro _ w15 ⟨rfl, RD⟩
          clear ho RC
          go_wp2_with fail
          go_roundw
          case rel => exact ⟨j + 1, n + 1, want, _, by omega, by go_num, by go_num, rfl, HS2, RD⟩
          case measure => simp [intOf]; omega
        · have hx0 : 0 ≤ (85 : Int) / 2 ^ (n - 8) ∧ (85 : Int) / 2 ^ (n - 8) ≤ 255 := by
            have := Int.ediv_nonneg (a := (85 : Int)) (b := 2 ^ (n - 8)) (by omega) (Int.pow_nonneg (by decide))
            have := Int.ediv_le_self (a := (85 : Int)) (2 ^ (n - 8)) (by omega)
            omega
          have e8 : stepW (85 : Int) n want = if (85 : Int) / 2 ^ (n - 8) % 2 = 1 then (if want ≤ 125 then want + 2 else want) else (if 2 ≤ want then want - 2 else want) := by unfold stepW; rw [if_neg h8]
          have ex : bits .and .u8 ((85 : Int) / 2 ^ (n - 8)) 1 = (85 : Int) / 2 ^ (n - 8) % 2 := by
            rw [and1 _ hx0.1 hx0.2]
          have hy2 : (85 : Int) / 2 ^ (n - 8) % 2 = 0 ∨ (85 : Int) / 2 ^ (n - 8) % 2 = 1 := by omega
          generalize (85 : Int) / 2 ^ (n - 8) % 2 = y at *
          have h8' : ¬ (n : Int) < 8 := by omega
          rw [e8] at HS2 ho
          clear h8 e8
          by_cases hy : y = 1
          · subst hy
            rw [if_pos rfl] at HS2 ho
            by_cases hw2 : want ≤ 125
            · rw [if_pos hw2] at HS2 ho
              go_wp2_with fail
              refine (r_out RC).mono ?_
              rw [ho.out]
              rintro _ w15 ⟨rfl, RD⟩
              clear ho RC
              go_wp2_with fail
              go_roundw
              case rel => exact ⟨j + 1, n + 1, want + 2, _, by omega, by go_num, by go_num, by go_num, HS2, RD⟩
              case measure => simp [intOf]; omega
            · rw [if_neg hw2] at HS2 ho
              go_wp2_with fail
              refine (r_out RC).mono ?_
              rw [ho.out]
              rintro _ w15 ⟨rfl, RD⟩
              clear ho RC
              go_wp2_with fail
              go_roundw
              case rel => exact ⟨j + 1, n + 1, want, _, by omega, by go_num, by go_num, rfl, HS2, RD⟩
              case measure => simp [intOf]; omega
          · have hy : y = 0 := by omega
            subst hy
            rw [if_neg (by omega)] at HS2 ho
            by_cases hw2 : 2 ≤ want
            · rw [if_pos hw2] at HS2 ho
              go_wp2_with fail
              refine (r_out RC).mono ?_
              rw [ho.out]
              rintro _ w15 ⟨rfl, RD⟩
              clear ho RC
              go_wp2_with fail
              go_roundw
              case rel => exact ⟨j + 1, n + 1, want - 2, _, by omega, by go_num, by go_num, by go_num, HS2, RD⟩
              case measure => simp [intOf]; omega
            · rw [if_neg hw2] at HS2 ho
              go_wp2_with fail
              refine (r_out RC).mono ?_
              rw [ho.out]
              rintro _ w15 ⟨rfl, RD⟩
              clear ho RC
              go_wp2_with fail
              go_roundw
              case rel => exact ⟨j + 1, n + 1, want, _, by omega, by go_num, by go_num, rfl, HS2, RD⟩
              case measure => simp [intOf]; omega
    · have hjc : (j : Int) = 15 * P + 1 := by omega
      have hn := stp_end h16 HS.out (by rw [hP.out]; exact hjc)
      subst hn
      go_wp2
      go_ret
      exact ⟨ret_bool (by simp), RJ.upd.below⟩

set_option maxRecDepth 4000 in
set_option maxHeartbeats 4000000 in
theorem samples_some (r p v e : Int) (b o : Nat) (a : Option Addr) (l : List Int) (cap : Nat) (h0 : 0 ≤ r ∧ r ≤ 255) (h1 : 0 ≤ p ∧ p ≤ 255) (h2 : 0 ≤ v ∧ v ≤ 255) (h3 : 0 ≤ e ∧ e ≤ 255) (w : World) (hA : BytesAt w (.slice a l.length cap) b o a l cap) (hT : TabsF true w) (hl : 0 < l.length) :
    Calls Tryd.prog 8 #[.int .u8 r, .int .u8 p, .int .u8 v, .int .u8 e, .slice a l.length cap] w fun e w' => e = .returned (.bool true) ∧ Below w.heap.size w w' := by
  have hlen := hA.len
  unfold maxLen at hlen
  have er : bits .and .u8 r 15 = r % 16 := and15 r h0.1 h0.2
  have ee : bits .and .u8 e 192 = e / 64 * 64 := and192 e h3.1 h3.2
  have e6 : bits .and .u8 e 64 = e / 64 % 2 * 64 := and64 e h3.1 h3.2
  have ev : bits .and .u8 v 127 = v % 128 := and127 v h2.1 h2.2
  have eo : bits .or .u8 (r % 16) (e / 64 * 64) = r % 16 + e / 64 * 64 := or_re r e h0.1 h0.2 h3.1 h3.2
  go_enter Tryd.func8, Tryd.ntmps8
  go_wp2_with fail
  refine (awake_w w hT).mono ?_
  rintro _ w1 ⟨rfl, hU1, hT1⟩
  go_wp2_with fail
  refine (r_new w1 hT1).mono ?_
  rintro _ w2 ⟨k, rfl, r0⟩
  have R := r0.lay hU1
  clear r0 hU1 hT1 hT
  go_wp2_with fail
  refine (r_put R 16400 (r % 16 + e / 64 * 64) (by omega)).mono ?_
  clear R
  rintro _ w3 ⟨rfl, R⟩
  go_wp2_with fail
  refine (r_put R 16401 v h2).mono ?_
  clear R
  rintro _ w4 ⟨rfl, R⟩
  go_wp2_with fail
  refine (r_put R 16402 p h1).mono ?_
  clear R
  rintro _ w5 ⟨rfl, R⟩
  go_wp2_with fail
  refine (r_put R 16403 0 (by omega)).mono ?_
  clear R
  rintro _ w6 ⟨rfl, R⟩
  go_wp2_with fail
  refine (r_put R 16405 16 (by omega)).mono ?_
  clear R
  rintro _ w7 ⟨rfl, R⟩
  have S0 := Lib.hid (start_at r p v e 0)
  change SRun true w w7 k (smpS r p v e 0) at R
  generalize smpS r p v e 0 = s at R S0
  have ha := start_asks S0.out
  have hat := S0.out.at_
  go_wp2_with fail
  refine (r_asks R).mono ?_
  rw [ha, hat, if_pos rfl]
  clear R ha hat
  rintro _ w8 ⟨rfl, R⟩
  have hB := hA.upd R.upd
  clear hA
  obtain ⟨rfl, hbl⟩ := hB.addr hl
  obtain ⟨x, hx⟩ : ∃ x, l[0]? = some x := ⟨_, List.getElem?_eq_getElem hl⟩
  have c0 : _ = some (Value.int .u8 x) := hB.cells 0 x hx
  rw [Nat.add_zero] at c0
  have xb := hB.wf x (List.mem_of_getElem? hx)
  clear hB hx

  go_wp2_with fail
  refine (r_give R x xb).mono ?_
  clear R
  rintro _ w9 ⟨rfl, R⟩
  obtain ⟨G, g1, g2, g3, g4⟩ := start_given h3 S0.out x
  clear S0
  generalize s.give x = s1 at *
  go_wp2_with fail
  refine (r_asks R).mono ?_
  rw [g1, if_neg (by simp)]
  clear R g1
  rintro _ w10 ⟨rfl, R⟩
  have k2 : (e / 64 * 64 == 128) = decide (e / 64 * 64 = 128) := by rw [Bool.eq_iff_iff]; simp
  generalize decide (e / 64 * 64 = 128) = B2 at g2 k2
  go_wp2_with fail
  refine (r_irq R).mono ?_
  rw [g2]
  clear R g2
  rintro _ w11 ⟨rfl, R⟩
  have gb := get_bd s1
  have g16 : bits .and .u8 s1.get 16 = e / 64 % 2 * 16 := by rw [and16 _ gb.1 gb.2, g3]
  clear gb g3 g4
  have k3 : e / 64 % 2 * 64 / 4 = e / 64 % 2 * 16 := by omega
  go_wp2_with fail
  refine (r_get R).mono ?_
  clear R
  rintro _ w12 ⟨rfl, R⟩
  have G := Lib.hid G.got
  generalize s1.got = s2 at *
  go_wp2_with fail
  refine (r_out R).mono ?_
  rw [G.out.out]
  clear R
  rintro _ w13 ⟨rfl, R⟩
  have hrb := rateOf_bd (r % 16) (by omega) (by omega)
  have hper := per_list (r % 16) (by omega) (by omega)
  have R0 := R.more ((Upd.refl [] w13).alloc (Obj.cells #[Value.int .i64 428, Value.int .i64 380, Value.int .i64 340, Value.int .i64 320, Value.int .i64 286, Value.int .i64 254, Value.int .i64 226, Value.int .i64 214, Value.int .i64 190, Value.int .i64 160, Value.int .i64 142, Value.int .i64 128, Value.int .i64 106, Value.int .i64 84, Value.int .i64 72, Value.int .i64 54] 3))
  clear R
  obtain ⟨P, hP⟩ : ∃ P, P = rateOf (r % 16) := ⟨_, rfl⟩
  rw [← hP] at hrb hper
  replace hP := Lib.hid hP.symm
  have h16 : 0 ≤ r % 16 ∧ r % 16 ≤ 15 := by omega
  clear g16 k2 k3
  go_wp2_with fail
  generalize w13.alloc (Obj.cells _ 3) = W0 at *
  clear hper
  go_loopw [17, 19, 115] (fun wv nv iv wr => ∃ (j n : Nat) (want : Int) (t : Sound), (j : Int) ≤ 15 * P + 1 ∧ iv = .int .i64 j ∧ nv = .int .i64 n ∧ wv = .int .i64 want ∧ Hid (Stp (r % 16) x j n want t) ∧ SRun true w wr k t) (fun _ _ iv _ => (15 * P + 2).toNat - (intOf iv).toNat)
  case atStart => exact ⟨0, 0, _, _, by omega, rfl, rfl, rfl, G, R0⟩
  case round =>
    obtain ⟨j, n, want, t, hj, rfl, rfl, rfl, HS, RJ⟩ := hrel
    clear R0 G
    have hw := RJ.wf.m.level
    rw [HS.out.level] at hw
    obtain ⟨hw0, hw1⟩ := hw
    by_cases hlt : (j : Int) < 15 * P + 1
    · go_wp2_with fail
      refine (r_clock RJ).mono ?_
      rintro _ w14 ⟨rfl, RC⟩
      have hmod := stp_mod HS.out
      rw [hP.out] at hmod
      by_cases ht : 0 < t.m.timer
      · have HS2 := Lib.hid (stp_rest HS.out ht)
        have hm : ¬ (j : Int) % P = 0 := by rw [hmod]; omega
        clear hmod ht RJ HS
        go_wp2_with fail
        go_roundw
        case rel => exact ⟨j + 1, n, want, _, by omega, by go_num, rfl, rfl, HS2, RC⟩
        case measure => simp [intOf]; omega
      · have ht0 := HS.out.timer
        have hm : (j : Int) % P = 0 := by rw [hmod]; omega
        have hn : n ≤ 15 := stp_more h16 HS.out (by rw [hP.out]; omega) (by omega)
        have HS2 := Lib.hid (stp_step h16 HS.out ht hn)
        clear hmod ht ht0 RJ HS
        have ho := Lib.hid HS2.out.out
        by_cases h8 : n < 8
        · have e8 : stepW x n want = want := by unfold stepW; rw [if_pos h8]
          rw [e8] at HS2 ho
          have h8' : (n : Int) < 8 := by omega
          clear h8 e8
          go_wp2_with fail
          refine (r_out RC).mono ?_
          rw [ho.out]
          rintro _ w15 ⟨rfl, RD⟩
          clear ho RC
          go_wp2_with fail
          go_roundw
          case rel => exact ⟨j + 1, n + 1, want, _, by omega, by go_num, by go_num, rfl, HS2, RD⟩
          case measure => simp [intOf]; omega
        · have hx0 : 0 ≤ x / 2 ^ (n - 8) ∧ x / 2 ^ (n - 8) ≤ 255 := by
            have := Int.ediv_nonneg (a := x) (b := 2 ^ (n - 8)) (by omega) (Int.pow_nonneg (by decide))
            have := Int.ediv_le_self (a := x) (2 ^ (n - 8)) (by omega)
            omega
          have e8 : stepW x n want = if x / 2 ^ (n - 8) % 2 = 1 then (if want ≤ 125 then want + 2 else want) else (if 2 ≤ want then want - 2 else want) := by unfold stepW; rw [if_neg h8]
          have ex : bits .and .u8 (x / 2 ^ (n - 8)) 1 = x / 2 ^ (n - 8) % 2 := by
            rw [and1 _ hx0.1 hx0.2]
          have hy2 : x / 2 ^ (n - 8) % 2 = 0 ∨ x / 2 ^ (n - 8) % 2 = 1 := by omega
          generalize x / 2 ^ (n - 8) % 2 = y at *
          have h8' : ¬ (n : Int) < 8 := by omega
          rw [e8] at HS2 ho
          clear h8 e8
          by_cases hy : y = 1
          · subst hy
            rw [if_pos rfl] at HS2 ho
            by_cases hw2 : want ≤ 125
            · rw [if_pos hw2] at HS2 ho
              go_wp2_with fail
              refine (r_out RC).mono ?_
              rw [ho.out]
              rintro _ w15 ⟨rfl, RD⟩
              clear ho RC
              go_wp2_with fail
              go_roundw
              case rel => exact ⟨j + 1, n + 1, want + 2, _, by omega, by go_num, by go_num, by go_num, HS2, RD⟩
              case measure => simp [intOf]; omega
            · rw [if_neg hw2] at HS2 ho
              go_wp2_with fail
              refine (r_out RC).mono ?_
              rw [ho.out]
              rintro _ w15 ⟨rfl, RD⟩
              clear ho RC
              go_wp2_with fail
              go_roundw
              case rel => exact ⟨j + 1, n + 1, want, _, by omega, by go_num, by go_num, rfl, HS2, RD⟩
              case measure => simp [intOf]; omega
          · have hy : y = 0 := by omega
            subst hy
            rw [if_neg (by omega)] at HS2 ho
            by_cases hw2 : 2 ≤ want
            · rw [if_pos hw2] at HS2 ho
              go_wp2_with fail
              refine (r_out RC).mono ?_
              rw [ho.out]
              rintro _ w15 ⟨rfl, RD⟩
              clear ho RC
              go_wp2_with fail
              go_roundw
              case rel => exact ⟨j + 1, n + 1, want - 2, _, by omega, by go_num, by go_num, by go_num, HS2, RD⟩
              case measure => simp [intOf]; omega
            · rw [if_neg hw2] at HS2 ho
              go_wp2_with fail
              refine (r_out RC).mono ?_
              rw [ho.out]
              rintro _ w15 ⟨rfl, RD⟩
              clear ho RC
              go_wp2_with fail
              go_roundw
              case rel => exact ⟨j + 1, n + 1, want, _, by omega, by go_num, by go_num, rfl, HS2, RD⟩
              case measure => simp [intOf]; omega
    · have hjc : (j : Int) = 15 * P + 1 := by omega
      have hn := stp_end h16 HS.out (by rw [hP.out]; exact hjc)
      subst hn
      go_wp2
      go_ret
      exact ⟨ret_bool (by simp), RJ.upd.below⟩

theorem samples_walk (r p v e : Int) (b o : Nat) (a : Option Addr) (l : List Int) (cap : Nat) (h0 : 0 ≤ r ∧ r ≤ 255) (h1 : 0 ≤ p ∧ p ≤ 255) (h2 : 0 ≤ v ∧ v ≤ 255) (h3 : 0 ≤ e ∧ e ≤ 255) (w : World) (hA : BytesAt w (.slice a l.length cap) b o a l cap) (hT : TabsF true w) :
    Calls Tryd.prog 8 #[.int .u8 r, .int .u8 p, .int .u8 v, .int .u8 e, .slice a l.length cap] w fun e w' => e = .returned (.bool true) ∧ Below w.heap.size w w' := by
  rcases Nat.eq_zero_or_pos l.length with h | h
  · exact samples_none r p v e b o a l cap h0 h1 h2 h3 w hA hT h
  · exact samples_some r p v e b o a l cap h0 h1 h2 h3 w hA hT h
end Go.Proofs.YtonhhjihmbcfnaaDoor

import Derived.Lib.Hide
import Derived.Test.YtonhhjihmbcfnaaDoorL3
import Derived.Test.YtonhhjihmbcfnaaDoorP3
namespace Go.Proofs.YtonhhjihmbcfnaaDoor
open Go.RowKit
set_option linter.unusedSimpArgs false
set_option linter.unusedVariables false

/-- Two sounds side by side. -/
structure Two (w0 w : World) (k : Hd) (s : Sound) (c : Hd) (t : Sound) : Prop where
  a : SRun true w0 w k s
  b : SRun true w0 w c t
  apart : ∀ x, x ∈ k.blocks → x ∉ c.blocks
theorem Two.stepB {w0 w w' : World} {k c : Hd} {s t t' : Sound} (h : Two w0 w k s c t) (ha : SoundAt w' c t') (hu : Upd c.blocks w w') (hw : t'.WF) (hi : t'.In) : Two w0 w' k s c t' :=
  ⟨⟨h.a.at_.upd hu h.apart, h.a.wf, h.a.inn, h.a.apart, h.a.tabs.upd hu (Hd.big h.b.apart), h.a.upd.fresh hu h.b.fresh, h.a.fresh⟩, h.b.step ha hu hw hi, h.apart⟩
theorem Two.stepA {w0 w w' : World} {k c : Hd} {s s' t : Sound} (h : Two w0 w k s c t) (ha : SoundAt w' k s') (hu : Upd k.blocks w w') (hw : s'.WF) (hi : s'.In) : Two w0 w' k s' c t :=
  ⟨h.a.step ha hu hw hi, ⟨h.b.at_.upd hu (fun x hx hk => h.apart x hk hx), h.b.wf, h.b.inn, h.b.apart, h.b.tabs.upd hu (Hd.big h.a.apart), h.b.upd.fresh hu h.a.fresh, h.b.fresh⟩, h.apart⟩
theorem Two.more {w0 w w' : World} {k c : Hd} {s t : Sound} (h : Two w0 w k s c t) (hu : Upd [] w w') : Two w0 w' k s c t := ⟨h.a.more hu, h.b.more hu, h.apart⟩
theorem t_putB {w0 w : World} {k c : Hd} {s t : Sound} (h : Two w0 w k s c t) (a r : Int) (wr : 0 ≤ r ∧ r ≤ 255) :
    Calls Tryd.prog 12 #[.pointer (some ⟨c.b, 0, none⟩), .int .u16 a, .int .u8 r] w fun e w' => e = .returned (.tuple #[]) ∧ Two w0 w' k s c (t.put a r) :=
  (snd_put c h.b.apart t h.b.wf a r wr w h.b.tabs.1 h.b.at_).mono fun _ _ ⟨he, ha, hu⟩ => ⟨he, h.stepB ha hu (h.b.wf.put wr) (h.b.inn.put a r)⟩
theorem t_putA {w0 w : World} {k c : Hd} {s t : Sound} (h : Two w0 w k s c t) (a r : Int) (wr : 0 ≤ r ∧ r ≤ 255) :
    Calls Tryd.prog 12 #[.pointer (some ⟨k.b, 0, none⟩), .int .u16 a, .int .u8 r] w fun e w' => e = .returned (.tuple #[]) ∧ Two w0 w' k (s.put a r) c t :=
  (snd_put k h.a.apart s h.a.wf a r wr w h.a.tabs.1 h.a.at_).mono fun _ _ ⟨he, ha, hu⟩ => ⟨he, h.stepA ha hu (h.a.wf.put wr) (h.a.inn.put a r)⟩
theorem t_clockB {w0 w : World} {k c : Hd} {s t : Sound} (h : Two w0 w k s c t) :
    Calls Tryd.prog 15 #[.pointer (some ⟨c.b, 0, none⟩)] w fun e w' => e = .returned (.tuple #[]) ∧ Two w0 w' k s c t.clock :=
  (snd_clock c h.b.apart t h.b.wf h.b.inn w (h.b.tabs.2 rfl) h.b.at_).mono fun _ _ ⟨he, ha, hu⟩ => ⟨he, h.stepB ha hu (h.b.wf.clock h.b.inn) h.b.inn.clock⟩
theorem t_getA {w0 w : World} {k c : Hd} {s t : Sound} (h : Two w0 w k s c t) :
    Calls Tryd.prog 14 #[.pointer (some ⟨k.b, 0, none⟩)] w fun e w' => e = .returned (.int .u8 s.get) ∧ Two w0 w' k s.got c t :=
  (snd_get k h.a.apart s w h.a.at_).mono fun _ _ ⟨he, ha, hu⟩ => ⟨he, h.stepA ha hu h.a.wf.got h.a.inn.got⟩
theorem t_getB {w0 w : World} {k c : Hd} {s t : Sound} (h : Two w0 w k s c t) :
    Calls Tryd.prog 14 #[.pointer (some ⟨c.b, 0, none⟩)] w fun e w' => e = .returned (.int .u8 t.get) ∧ Two w0 w' k s c t.got :=
  (snd_get c h.b.apart t w h.b.at_).mono fun _ _ ⟨he, ha, hu⟩ => ⟨he, h.stepB ha hu h.b.wf.got h.b.inn.got⟩
theorem t_outA {w0 w : World} {k c : Hd} {s t : Sound} (h : Two w0 w k s c t) :
    Calls Tryd.prog 18 #[.pointer (some ⟨k.b, 0, none⟩)] w fun e w' => e = .returned (.int .i64 s.out) ∧ Two w0 w' k s c t :=
  (snd_out k h.a.apart s h.a.wf w h.a.tabs.1 h.a.at_).mono fun _ _ ⟨he, hu⟩ => ⟨he, h.more hu⟩
/- a nil sound -/
theorem z_put (a r : Int) (w : World) : Calls Tryd.prog 12 #[.pointer none, .int .u16 a, .int .u8 r] w fun e w' => e = .returned (.tuple #[]) ∧ w = w' := by
  go_enter Tryd.func12, Tryd.ntmps12
  go_wp2
  all_goals first | go_end0 | refine bodyPost_ret (results_none rfl _ _ _) rfl ?_
  all_goals exact ⟨rfl, rfl⟩
theorem z_clock (w : World) : Calls Tryd.prog 15 #[.pointer none] w fun e w' => e = .returned (.tuple #[]) ∧ w = w' := by
  go_enter Tryd.func15, Tryd.ntmps15
  go_wp2
  all_goals first | go_end0 | refine bodyPost_ret (results_none rfl _ _ _) rfl ?_
  all_goals exact ⟨rfl, rfl⟩
theorem z_give (r : Int) (w : World) : Calls Tryd.prog 17 #[.pointer none, .int .u8 r] w fun e w' => e = .returned (.tuple #[]) ∧ w = w' := by
  go_enter Tryd.func17, Tryd.ntmps17
  go_wp2
  all_goals first | go_end0 | refine bodyPost_ret (results_none rfl _ _ _) rfl ?_
  all_goals exact ⟨rfl, rfl⟩
theorem z_asks (w : World) : Calls Tryd.prog 26 #[.pointer none] w fun e w' => e = .returned (.tuple #[.int .u16 0, .bool false]) ∧ w = w' := by
  go_enter Tryd.func26, Tryd.ntmps26
  go_wp2
  all_goals go_ret2
  all_goals exact ⟨rfl, rfl⟩
theorem z_get (w : World) : Calls Tryd.prog 14 #[.pointer none] w fun e w' => e = .returned (.int .u8 0) ∧ w = w' := by
  go_enter Tryd.func14, Tryd.ntmps14
  go_wp2
  all_goals go_ret
  all_goals exact ⟨rfl, rfl⟩
theorem z_out (w : World) : Calls Tryd.prog 18 #[.pointer none] w fun e w' => e = .returned (.int .i64 0) ∧ Upd [] w w' := by
  go_enter Tryd.func18, Tryd.ntmps18
  go_wp2
  all_goals go_ret
  all_goals exact ⟨rfl, (Upd.refl _ _).alloc _⟩
theorem z_irq (w : World) : Calls Tryd.prog 16 #[.pointer none] w fun e w' => e = .returned (.bool false) ∧ w = w' := by
  go_enter Tryd.func16, Tryd.ntmps16
  go_wp2
  all_goals go_ret
  all_goals exact ⟨rfl, rfl⟩
theorem z_copy (w : World) : Calls Tryd.prog 27 #[.pointer none] w fun e w' => e = .returned (.pointer none) ∧ w = w' := by
  go_enter Tryd.func27, Tryd.ntmps27
  go_wp2
  all_goals go_ret
  all_goals exact ⟨rfl, rfl⟩
theorem and4 (x : Int) (h0 : 0 ≤ x) (h1 : x ≤ 255) : bits .and .u8 x 4 = x / 4 % 2 * 4 := all256 (p := fun x => bits .and .u8 x 4 = x / 4 % 2 * 4) (by decide +kernel) x h0 h1

set_option maxHeartbeats 2000000 in
theorem nil_walk (a b n : Int) (h0 : 0 ≤ a ∧ a ≤ 65535) (h1 : 0 ≤ b ∧ b ≤ 255) (h2 : 0 ≤ n ∧ n ≤ 255) (w : World) (hT : TabsF true w) :
    Calls Tryd.prog 9 #[.int .u16 a, .int .u8 b, .int .u8 n] w fun e w' => e = .returned (.bool true) ∧ Below w.heap.size w w' := by
  have hlaw := Lib.hid (nil_law b h1.1 h1.2)
  have hout := Lib.hid nilS_out
  have hget := Lib.hid nilS_get
  have hno := Lib.hid (fun h => put_nothing nilS a b h)
  obtain ⟨N, rfl⟩ : ∃ N : Nat, n = N := ⟨n.toNat, by omega⟩
  have hN : N ≤ 255 := by omega
  go_enter Tryd.func9, Tryd.ntmps9
  go_wp2_with fail
  refine (awake_w w hT).mono ?_
  rintro e w1 ⟨rfl, hU1, hT1⟩
  go_wp2_with fail
  refine (z_put a b w1).mono ?_
  rintro e w2 ⟨rfl, rfl⟩
  go_wp2_with fail
  refine (z_clock w1).mono ?_
  rintro e w2 ⟨rfl, rfl⟩
  go_wp2_with fail
  refine (z_give b w1).mono ?_
  rintro e w2 ⟨rfl, rfl⟩
  go_wp2_with fail
  refine (z_asks w1).mono ?_
  rintro e w2 ⟨rfl, rfl⟩
  go_wp2_with fail
  refine (z_get w1).mono ?_
  rintro e w2 ⟨rfl, rfl⟩
  go_wp2_with fail
  refine (z_out w1).mono ?_
  rintro e w2 ⟨rfl, hUo⟩
  have hU2 := hU1.trans hUo
  have hT2 := hT1.upd hUo (by simp)
  clear hU1 hT1 hUo hT
  go_wp2_with fail
  refine (z_irq w2).mono ?_
  rintro e w3 ⟨rfl, rfl⟩
  go_wp2_with fail
  refine (z_copy w2).mono ?_
  rintro e w3 ⟨rfl, rfl⟩
  go_wp2_with fail
  refine (r_new w2 hT2).mono ?_
  rintro e w3 ⟨k, rfl, r0⟩
  have R := r0.lay hU2
  clear r0 hU2 hT2
  go_wp2_with fail
  refine (r_put R 16401 5 (by omega)).mono ?_
  clear R
  rintro e w4 ⟨rfl, R⟩
  change SRun true w w4 k nilS at R
  go_wp2_with fail
  refine (r_copy R).mono ?_
  rintro e w5 ⟨c, rfl, hfr, RC, RK⟩
  have T : Two w w5 k nilS c nilS := ⟨RK, RC, fun x hx hc => by
    have h1 := hfr x hc
    simp only [Hd.blocks, List.mem_cons, List.not_mem_nil, or_false] at hx
    have q0 := R.at_.snd.lt
    have q1 := R.at_.t0.lt
    have q2 := R.at_.t1.lt
    have q3 := R.at_.t2.lt
    have q4 := R.at_.t3.lt
    omega⟩
  clear RK RC R hfr
  by_cases ha : a < 16384
  · go_wp2_with fail
    refine (t_putA T a b h1).mono ?_
    rw [hno.out (by omega)]
    clear T
    rintro e w6 ⟨rfl, T⟩
    go_wp2_with fail
    refine (t_putB T 16401 b h1).mono ?_
    rintro e w6 ⟨rfl, T6⟩
    clear T
    go_wp2_with fail
    refine (t_putB T6 16405 31 (by omega)).mono ?_
    rintro e w7 ⟨rfl, T7⟩
    clear T6
    go_wp2_with fail
    refine (t_putB T7 16395 b h1).mono ?_
    rintro e w8 ⟨rfl, T8⟩
    change Two w w8 k nilS c (nilC b) at T8
    clear T7
    go_wp2_with fail
    go_loopw [80] (fun i wr => ∃ j : Nat, j ≤ N ∧ i = .int .u8 j ∧ Two w wr k nilS c (clockN j (nilC b))) (fun i _ => N - (intOf i).toNat)
    case atStart => exact ⟨0, by omega, rfl, T8⟩
    case round =>
      obtain ⟨j, hj, rfl, TJ⟩ := hrel
      clear T8
      by_cases hlt : j < N
      · go_wp2_with fail
        refine (t_clockB TJ).mono ?_
        rintro e w9 ⟨rfl, T9⟩
        go_wp2_with fail
        go_roundw
        case rel => exact ⟨j + 1, by omega, by go_num, T9⟩
        case measure => simp [intOf]; omega
      · have : j = N := by omega
        subst this
        go_wp2_with fail
        refine (t_outA TJ).mono ?_
        rw [hout.out]
        rintro e w9 ⟨rfl, T9⟩
        go_wp2_with fail
        refine (t_getA T9).mono ?_
        rw [hget.out]
        rintro e w10 ⟨rfl, T10⟩
        go_wp2_with fail
        refine (t_getB T10).mono ?_
        rintro e w11 ⟨rfl, T11⟩
        have hg := get_bd (clockN j (nilC b))
        have hl := hlaw.out j hN
        have e4 : bits .and .u8 (clockN j (nilC b)).get 4 = 4 := by rw [and4 _ hg.1 hg.2, hl]; rfl
        clear hg hl
        go_wp2
        go_ret
        exact ⟨ret_bool (by simp), T11.a.upd.below⟩
  by_cases hb : 16407 < a
  · go_wp2_with fail
    refine (t_putA T a b h1).mono ?_
    rw [hno.out (by omega)]
    clear T
    rintro e w6 ⟨rfl, T⟩
    go_wp2_with fail
    refine (t_putB T 16401 b h1).mono ?_
    rintro e w6 ⟨rfl, T6⟩
    clear T
    go_wp2_with fail
    refine (t_putB T6 16405 31 (by omega)).mono ?_
    rintro e w7 ⟨rfl, T7⟩
    clear T6
    go_wp2_with fail
    refine (t_putB T7 16395 b h1).mono ?_
    rintro e w8 ⟨rfl, T8⟩
    change Two w w8 k nilS c (nilC b) at T8
    clear T7
    go_wp2_with fail
    go_loopw [80] (fun i wr => ∃ j : Nat, j ≤ N ∧ i = .int .u8 j ∧ Two w wr k nilS c (clockN j (nilC b))) (fun i _ => N - (intOf i).toNat)
    case atStart => exact ⟨0, by omega, rfl, T8⟩
    case round =>
      obtain ⟨j, hj, rfl, TJ⟩ := hrel
      clear T8
      by_cases hlt : j < N
      · go_wp2_with fail
        refine (t_clockB TJ).mono ?_
        rintro e w9 ⟨rfl, T9⟩
        go_wp2_with fail
        go_roundw
        case rel => exact ⟨j + 1, by omega, by go_num, T9⟩
        case measure => simp [intOf]; omega
      · have : j = N := by omega
        subst this
        go_wp2_with fail
        refine (t_outA TJ).mono ?_
        rw [hout.out]
        rintro e w9 ⟨rfl, T9⟩
        go_wp2_with fail
        refine (t_getA T9).mono ?_
        rw [hget.out]
        rintro e w10 ⟨rfl, T10⟩
        go_wp2_with fail
        refine (t_getB T10).mono ?_
        rintro e w11 ⟨rfl, T11⟩
        have hg := get_bd (clockN j (nilC b))
        have hl := hlaw.out j hN
        have e4 : bits .and .u8 (clockN j (nilC b)).get 4 = 4 := by rw [and4 _ hg.1 hg.2, hl]; rfl
        clear hg hl
        go_wp2
        go_ret
        exact ⟨ret_bool (by simp), T11.a.upd.below⟩
  by_cases hc : a = 16404
  · have hc' : (a == 16404) = true := by simp [hc]
    have HC := Lib.hid hc
    clear hc
    go_wp2_with fail
    refine (t_putA T a b h1).mono ?_
    rw [hno.out (.inr (.inr (.inl HC.out)))]
    clear T
    rintro e w6 ⟨rfl, T⟩
    go_wp2_with fail
    refine (t_putB T 16401 b h1).mono ?_
    rintro e w6 ⟨rfl, T6⟩
    clear T
    go_wp2_with fail
    refine (t_putB T6 16405 31 (by omega)).mono ?_
    rintro e w7 ⟨rfl, T7⟩
    clear T6
    go_wp2_with fail
    refine (t_putB T7 16395 b h1).mono ?_
    rintro e w8 ⟨rfl, T8⟩
    change Two w w8 k nilS c (nilC b) at T8
    clear T7
    go_wp2_with fail
    go_loopw [80] (fun i wr => ∃ j : Nat, j ≤ N ∧ i = .int .u8 j ∧ Two w wr k nilS c (clockN j (nilC b))) (fun i _ => N - (intOf i).toNat)
    case atStart => exact ⟨0, by omega, rfl, T8⟩
    case round =>
      obtain ⟨j, hj, rfl, TJ⟩ := hrel
      clear T8
      by_cases hlt : j < N
      · go_wp2_with fail
        refine (t_clockB TJ).mono ?_
        rintro e w9 ⟨rfl, T9⟩
        go_wp2_with fail
        go_roundw
        case rel => exact ⟨j + 1, by omega, by go_num, T9⟩
        case measure => simp [intOf]; omega
      · have : j = N := by omega
        subst this
        go_wp2_with fail
        refine (t_outA TJ).mono ?_
        rw [hout.out]
        rintro e w9 ⟨rfl, T9⟩
        go_wp2_with fail
        refine (t_getA T9).mono ?_
        rw [hget.out]
        rintro e w10 ⟨rfl, T10⟩
        go_wp2_with fail
        refine (t_getB T10).mono ?_
        rintro e w11 ⟨rfl, T11⟩
        have hg := get_bd (clockN j (nilC b))
        have hl := hlaw.out j hN
        have e4 : bits .and .u8 (clockN j (nilC b)).get 4 = 4 := by rw [and4 _ hg.1 hg.2, hl]; rfl
        clear hg hl
        go_wp2
        go_ret
        exact ⟨ret_bool (by simp), T11.a.upd.below⟩
  have hc' : (a == 16404) = false := by simp [hc]
  by_cases hd : a = 16406
  · have hd' : (a == 16406) = true := by simp [hd]
    have HC := Lib.hid hd
    clear hd
    go_wp2_with fail
    refine (t_putA T a b h1).mono ?_
    rw [hno.out (.inr (.inr (.inr HC.out)))]
    clear T
    rintro e w6 ⟨rfl, T⟩
    go_wp2_with fail
    refine (t_putB T 16401 b h1).mono ?_
    rintro e w6 ⟨rfl, T6⟩
    clear T
    go_wp2_with fail
    refine (t_putB T6 16405 31 (by omega)).mono ?_
    rintro e w7 ⟨rfl, T7⟩
    clear T6
    go_wp2_with fail
    refine (t_putB T7 16395 b h1).mono ?_
    rintro e w8 ⟨rfl, T8⟩
    change Two w w8 k nilS c (nilC b) at T8
    clear T7
    go_wp2_with fail
    go_loopw [80] (fun i wr => ∃ j : Nat, j ≤ N ∧ i = .int .u8 j ∧ Two w wr k nilS c (clockN j (nilC b))) (fun i _ => N - (intOf i).toNat)
    case atStart => exact ⟨0, by omega, rfl, T8⟩
    case round =>
      obtain ⟨j, hj, rfl, TJ⟩ := hrel
      clear T8
      by_cases hlt : j < N
      · go_wp2_with fail
        refine (t_clockB TJ).mono ?_
        rintro e w9 ⟨rfl, T9⟩
        go_wp2_with fail
        go_roundw
        case rel => exact ⟨j + 1, by omega, by go_num, T9⟩
        case measure => simp [intOf]; omega
      · have : j = N := by omega
        subst this
        go_wp2_with fail
        refine (t_outA TJ).mono ?_
        rw [hout.out]
        rintro e w9 ⟨rfl, T9⟩
        go_wp2_with fail
        refine (t_getA T9).mono ?_
        rw [hget.out]
        rintro e w10 ⟨rfl, T10⟩
        go_wp2_with fail
        refine (t_getB T10).mono ?_
        rintro e w11 ⟨rfl, T11⟩
        have hg := get_bd (clockN j (nilC b))
        have hl := hlaw.out j hN
        have e4 : bits .and .u8 (clockN j (nilC b)).get 4 = 4 := by rw [and4 _ hg.1 hg.2, hl]; rfl
        clear hg hl
        go_wp2
        go_ret
        exact ⟨ret_bool (by simp), T11.a.upd.below⟩
  have hd' : (a == 16406) = false := by simp [hd]
  go_wp2_with fail
  refine (t_putB T 16401 b h1).mono ?_
  rintro e w6 ⟨rfl, T6⟩
  clear T
  go_wp2_with fail
  refine (t_putB T6 16405 31 (by omega)).mono ?_
  rintro e w7 ⟨rfl, T7⟩
  clear T6
  go_wp2_with fail
  refine (t_putB T7 16395 b h1).mono ?_
  rintro e w8 ⟨rfl, T8⟩
  change Two w w8 k nilS c (nilC b) at T8
  clear T7
  go_wp2_with fail
  go_loopw [80] (fun i wr => ∃ j : Nat, j ≤ N ∧ i = .int .u8 j ∧ Two w wr k nilS c (clockN j (nilC b))) (fun i _ => N - (intOf i).toNat)
  case atStart => exact ⟨0, by omega, rfl, T8⟩
  case round =>
    obtain ⟨j, hj, rfl, TJ⟩ := hrel
    clear T8
    by_cases hlt : j < N
    · go_wp2_with fail
      refine (t_clockB TJ).mono ?_
      rintro e w9 ⟨rfl, T9⟩
      go_wp2_with fail
      go_roundw
      case rel => exact ⟨j + 1, by omega, by go_num, T9⟩
      case measure => simp [intOf]; omega
    · have : j = N := by omega
      subst this
      go_wp2_with fail
      refine (t_outA TJ).mono ?_
      rw [hout.out]
      rintro e w9 ⟨rfl, T9⟩
      go_wp2_with fail
      refine (t_getA T9).mono ?_
      rw [hget.out]
      rintro e w10 ⟨rfl, T10⟩
      go_wp2_with fail
      refine (t_getB T10).mono ?_
      rintro e w11 ⟨rfl, T11⟩
      have hg := get_bd (clockN j (nilC b))
      have hl := hlaw.out j hN
      have e4 : bits .and .u8 (clockN j (nilC b)).get 4 = 4 := by rw [and4 _ hg.1 hg.2, hl]; rfl
      clear hg hl
      go_wp2
      go_ret
      exact ⟨ret_bool (by simp), T11.a.upd.below⟩
end Go.Proofs.YtonhhjihmbcfnaaDoor

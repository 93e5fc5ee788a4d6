import Derived.Lib.Hide
import Derived.Test.YtonhhjihmbcfnaaDoorS2
namespace Go.Proofs.YtonhhjihmbcfnaaDoor
open Go.RowKit
set_option linter.unusedSimpArgs false
set_option linter.unusedVariables false

set_option maxHeartbeats 1000000 in
theorem smp_clock (b p0 p1 p2 p3 : Nat) (hb : 4 < b) (s : Sound) (wf : s.m.WF) (w : World) (hT : Tabs2 w) (h : At w b (s.enc p0 p1 p2 p3) 66) :
    Calls Tryd.prog 37 #[.pointer (some ⟨b, 4, none⟩)] w (Turns b (Sound.enc { s with m := s.m.clock } p0 p1 p2 p3) 66 (.tuple #[]) w) := by
  have hf : ∀ i, w.frozen? ⟨b, i, none⟩ = false := h.frozen
  have c4 : _ = some (Value.int .u8 s.m.q0) := h.cell 4
  have c14 : _ = some (Value.int .u16 s.m.timer) := h.cell 14
  have wtimer := wf.timer
  have wq0 := wf.q0
  by_cases ht : 0 < s.m.timer
  · clear hT
    have hc : s.m.clock = { s.m with timer := s.m.timer - 1 } := by unfold Smp.clock; rw [if_pos ht]
    have Hc := Lib.hid hc
    clear hc
    go_enter Tryd.func37, Tryd.ntmps37
    go_wp2
    all_goals first | go_end0 | refine bodyPost_ret (results_none rfl _ _ _) rfl ?_
    all_goals refine ⟨rfl, At.eq (by (repeat (first | with_reducible apply At.setCell | with_reducible apply At.drew | with_reducible apply At.drewN)); exact h) ?_, (by repeat (first | with_reducible exact Upd.refl _ _ | with_reducible refine Upd.drew ?_ | with_reducible refine Upd.drewN ?_ _ | (with_reducible refine Upd.setCell ?_ (by simp) _)))⟩
    all_goals clear hf
    all_goals (try dsimp only)
    all_goals rw [Hc.out]
    all_goals (repeat' split) <;> first | (exfalso; omega) | (exfalso; simp_all; done) | (simp only [Sound.enc, List.set_cons_zero, List.set_cons_succ]; done) | (simp only [Sound.enc, List.set_cons_zero, List.set_cons_succ]; congr; omega) | skip

  · have e15 := and15 s.m.q0 wq0.1 wq0.2
    have hq0 : 0 ≤ s.m.q0 % 16 := by omega
    have hq1 : s.m.q0 % 16 < 16 := by omega
    have hr := rateOf_bd (s.m.q0 % 16) hq0 (by omega)
    have c2r := hT.rates (s.m.q0 % 16) hq0 hq1
    have hb2 : ¬ b = 2 := by omega
    have hb2' : ¬ 2 = b := by omega
    clear hT
    have hc : s.m.clock = Smp.shift (Smp.bit { s.m with timer := rateOf (s.m.q0 % 16) - 1 }) := by unfold Smp.clock; rw [if_neg ht]
    have wr : Smp.WF { s.m with timer := rateOf (s.m.q0 % 16) - 1 } := wf.rated
    have Hc := Lib.hid hc
    clear hc
    go_enter Tryd.func37, Tryd.ntmps37
    go_wp2_with fail
    refine (smp_bit b p0 p1 p2 p3 { s with m := { s.m with timer := rateOf (s.m.q0 % 16) - 1 } } wr _ (At.eq (by (repeat (first | with_reducible apply At.setCell | with_reducible apply At.drew | with_reducible apply At.drewN)); exact h) ?_)).mono ?_
    · simp only [Sound.enc, List.set_cons_zero, List.set_cons_succ]
    rintro e w1 ⟨rfl, hA, hU⟩
    have HU : Upd [b] w w1 := Upd.trans (by repeat (first | with_reducible exact Upd.refl _ _ | with_reducible refine Upd.drew ?_ | with_reducible refine Upd.drewN ?_ _ | (with_reducible refine Upd.setCell ?_ (by simp) _))) hU
    clear hU
    have wu := wr.bit
    dsimp only at hA
    generalize Smp.bit { s.m with timer := rateOf (s.m.q0 % 16) - 1 } = u at hA wu Hc
    clear wr e15 hq0 hq1 hr c2r c4 c14 hf
    have hf : ∀ i, w1.frozen? ⟨b, i, none⟩ = false := hA.frozen
    have d9 : _ = some (Value.int .u8 u.next) := hA.cell 9
    have d10 : _ = some (Value.bool u.waits) := hA.cell 10
    have d11 : _ = some (Value.int .u8 u.row) := hA.cell 11
    have d13 : _ = some (Value.bool u.speaks) := hA.cell 13
    have d12 : _ = some (Value.int .u8 u.bits) := hA.cell 12
    have wbits := wu.bits
    cases hw : u.waits
    all_goals by_cases hb1 : 1 < u.bits
    all_goals go_wp2
    all_goals first | go_end0 | refine bodyPost_ret (results_none rfl _ _ _) rfl ?_
    all_goals refine ⟨rfl, At.eq (by (repeat (first | with_reducible apply At.setCell | with_reducible apply At.drew | with_reducible apply At.drewN)); exact hA) ?_, HU.trans (by repeat (first | with_reducible exact Upd.refl _ _ | with_reducible refine Upd.drew ?_ | with_reducible refine Upd.drewN ?_ _ | (with_reducible refine Upd.setCell ?_ (by simp) _)))⟩
    all_goals rw [Hc.out]
    all_goals unfold Smp.shift
    all_goals (repeat' split) <;> first | (exfalso; omega) | (exfalso; simp_all; done) | (simp only [Sound.enc, List.set_cons_zero, List.set_cons_succ, hw]; done) | (simp only [Sound.enc, List.set_cons_zero, List.set_cons_succ, hw]; congr; omega) | skip
end Go.Proofs.YtonhhjihmbcfnaaDoor

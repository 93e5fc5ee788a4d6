import Derived.Test.YtonhhjihmbcfnaaDoorD2
namespace Go.Proofs.YtonhhjihmbcfnaaDoor
open Go.RowKit
set_option linter.unusedSimpArgs false
set_option linter.unusedVariables false

theorem snd_restart (k : Hd) (ha : k.Apart) (s : Sound) (wf : s.WF) (r : Int) (wr : 0 ≤ r ∧ r ≤ 255) (w : World) (h : SoundAt w k s) :
    Calls Tryd.prog 33 #[k.ptr, .int .u8 r] w (SndTurns k (s.restart r) (.tuple #[]) w) := by
  by_cases h8 : 128 ≤ r
  · by_cases h64 : r / 64 % 2 = 1
    · cases hi : s.irq
      · exact restart2 k ha s wf r wr w h h8 h64 hi
      · exact restart1 k ha s wf r wr w h h8 h64 hi
    · cases hi : s.irq
      · exact restart4 k ha s wf r wr w h h8 h64 hi
      · exact restart3 k ha s wf r wr w h h8 h64 hi
  · by_cases h64 : r / 64 % 2 = 1
    · cases hi : s.irq
      · exact restart6 k ha s wf r wr w h h8 h64 hi
      · exact restart5 k ha s wf r wr w h h8 h64 hi
    · cases hi : s.irq
      · exact restart8 k ha s wf r wr w h h8 h64 hi
      · exact restart7 k ha s wf r wr w h h8 h64 hi

set_option maxHeartbeats 1000000 in
theorem snd_irq (k : Hd) (s : Sound) (w : World) (h : SoundAt w k s) :
    Calls Tryd.prog 16 #[k.ptr] w (Tells (.bool s.asking) w) := by
  have c17 : _ = some (Value.bool s.m.irq) := h.snd.cell 17
  have c21 : _ = some (Value.bool s.irq) := h.snd.cell 21
  unfold Hd.ptr
  cases hi : s.irq
  all_goals go_enter Tryd.func16, Tryd.ntmps16
  all_goals go_wp2
  all_goals go_ret
  all_goals refine ⟨?_, (by repeat (first | with_reducible exact Same.refl _ | with_reducible apply Same.drewN | with_reducible apply Same.drew))⟩
  all_goals refine ret_bool ?_
  all_goals simp [Sound.asking, hi]

set_option maxHeartbeats 1000000 in
theorem snd_give (k : Hd) (ha : k.Apart) (s : Sound) (wf : s.WF) (r : Int) (wr : 0 ≤ r ∧ r ≤ 255) (w : World) (h : SoundAt w k s) :
    Calls Tryd.prog 17 #[k.ptr, .int .u8 r] w (SndTurns k (s.give r) (.tuple #[]) w) := by
  unfold Hd.ptr
  go_enter Tryd.func17, Tryd.ntmps17
  go_wp2_with fail
  refine (smp_give k.b k.p0 k.p1 k.p2 k.p3 s wf.m r wr _ h.snd).mono ?_
  rintro e w1 ⟨rfl, hA, hU⟩
  go_wp2
  go_end0
  exact ⟨rfl, SoundAt.setB ha h hA hU rfl rfl rfl rfl, hU.inB⟩
end Go.Proofs.YtonhhjihmbcfnaaDoor

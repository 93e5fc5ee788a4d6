import Derived.Test.YtonhhjihmbcfnaaDoorT4
import Derived.Test.YtonhhjihmbcfnaaDoorT5
namespace Go.Proofs.YtonhhjihmbcfnaaDoor
open Go.RowKit
set_option linter.unusedSimpArgs false
set_option linter.unusedVariables false

theorem tone_half (b : Nat) (t : Tone) (wf : t.WF) (w : World) (h : At w b t.enc 83) :
    Calls Tryd.prog 58 #[.pointer (some ⟨b, 0, none⟩)] w (Turns b t.half.enc 83 (.tuple #[]) w) := by
  by_cases h2 : t.kind = 2
  · exact half_tri b t wf w h h2
  by_cases h3 : 1 < t.kind
  · exact half_noise b t wf w h h2 h3
  by_cases hs0 : t.sweep = 0
  · by_cases hs1 : 128 ≤ t.r1
    · by_cases hs2 : t.r1 % 8 = 0
      · exact half_off1 b t wf w h h2 h3 hs0 hs1 hs2
      · by_cases hL0 : 0 < t.length
        · by_cases hL1 : t.r0 / 32 % 2 = 1
          · exact half_on2 b t wf w h h2 h3 hs0 hs1 hs2 hL0 hL1
          · exact half_on1 b t wf w h h2 h3 hs0 hs1 hs2 hL0 hL1
        · exact half_on3 b t wf w h h2 h3 hs0 hs1 hs2 hL0
    · exact half_off2 b t wf w h h2 h3 hs0 hs1
  · cases hsw : t.swept
    · exact half_off4 b t wf w h h2 h3 hs0 hsw
    · exact half_off3 b t wf w h h2 h3 hs0 hsw
end Go.Proofs.YtonhhjihmbcfnaaDoor

import Derived.Test.YtonhhjihmbcfnaaDoorE1
namespace Go.Proofs.YtonhhjihmbcfnaaDoor
open Go.RowKit
set_option linter.unusedSimpArgs false
set_option linter.unusedVariables false

theorem snd_tick (k : Hd) (ha : k.Apart) (s : Sound) (wf : s.WF) (hi : s.In) (w : World) (hT : Tabs2 w) (h : SoundAt w k s) :
    Calls Tryd.prog 35 #[k.ptr] w (SndTurns k s.tick (.tuple #[]) w) := by
  rcases wf.manner with hm | hm
  · by_cases hn0 : s.count + 1 = 7457
    · exact tick_0_0 k ha s wf hi w hT h hm hn0
    by_cases hn1 : s.count + 1 = 14913
    · exact tick_0_1 k ha s wf hi w hT h hm hn1
    by_cases hn2 : s.count + 1 = 22371
    · exact tick_0_2 k ha s wf hi w hT h hm hn2
    by_cases hn3 : s.count + 1 = 29829
    · exact tick_0_3 k ha s wf hi w hT h hm hn3
    by_cases ho : 29829 < s.count + 1
    · exact tick_0_o k ha s wf hi w hT h hm hn0 hn1 hn2 hn3 ho
    · exact tick_0_n k ha s wf hi w hT h hm hn0 hn1 hn2 hn3 ho
  · by_cases hn0 : s.count + 1 = 7457
    · exact tick_1_0 k ha s wf hi w hT h hm hn0
    by_cases hn1 : s.count + 1 = 14913
    · exact tick_1_1 k ha s wf hi w hT h hm hn1
    by_cases hn2 : s.count + 1 = 22371
    · exact tick_1_2 k ha s wf hi w hT h hm hn2
    by_cases hn3 : s.count + 1 = 37281
    · exact tick_1_3 k ha s wf hi w hT h hm hn3
    by_cases ho : 37281 < s.count + 1
    · exact tick_1_o k ha s wf hi w hT h hm hn0 hn1 hn2 hn3 ho
    · exact tick_1_n k ha s wf hi w hT h hm hn0 hn1 hn2 hn3 ho
end Go.Proofs.YtonhhjihmbcfnaaDoor

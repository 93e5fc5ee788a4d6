import Derived.Lib.Hide
import Derived.Test.YtonhhjihmbcfnaaDoorE3
import Derived.Test.YtonhhjihmbcfnaaDoorF2
import Derived.Test.YtonhhjihmbcfnaaDoorG1
import Derived.Test.YtonhhjihmbcfnaaDoorG2
import Derived.Test.YtonhhjihmbcfnaaDoorG3
import Derived.Test.YtonhhjihmbcfnaaDoorG4
namespace Go.Proofs.YtonhhjihmbcfnaaDoor
open Go.RowKit
set_option linter.unusedSimpArgs false
set_option linter.unusedVariables false

theorem Upd.fresh {S : List Nat} {w w1 w2 : World} (h : Upd [] w w1) (k : Upd S w1 w2) (hS : ∀ x, x ∈ S → w.heap.size ≤ x) : Upd [] w w2 :=
  ⟨k.os.trans h.os, k.tape.trans h.tape, k.output.trans h.output, Nat.le_trans h.size k.size,
   fun i hi _ => (k.block i (Nat.lt_of_lt_of_le hi h.size) (fun hx => by have := hS _ hx; omega)).trans (h.block i hi (by simp))⟩
theorem Upd.below {w w' : World} (h : Upd [] w w') : Below w.heap.size w w' := ⟨h.os, h.tape, h.output, h.size, fun k hk => h.block k hk (by simp)⟩
def TabsF (full : Bool) (w : World) : Prop := Tabs w ∧ (full = true → Tabs2 w)
theorem TabsF.upd {full : Bool} {S : List Nat} {w w' : World} (h : TabsF full w) (hu : Upd S w w') (hS : ∀ x, x ∈ S → 4 < x) : TabsF full w' :=
  ⟨h.1.upd hu hS, fun e => (h.2 e).upd hu hS⟩
theorem TabsF.size {full : Bool} {w : World} (h : TabsF full w) : 4 < w.heap.size := cell_lt (h.1.lens 0 (by omega) (by omega))
theorem Tabs2.full {w : World} (h : Tabs2 w) : TabsF true w := ⟨h.toTabs, fun _ => h⟩
theorem Tabs.half {w : World} (h : Tabs w) : TabsF false w := ⟨h, fun e => by cases e⟩
/-- A sound in the middle of a law: all that is known of it. -/
structure SRun (full : Bool) (w0 w : World) (k : Hd) (s : Sound) : Prop where
  at_ : SoundAt w k s
  wf : s.WF
  inn : s.In
  apart : k.Apart
  tabs : TabsF full w
  upd : Upd [] w0 w
  fresh : ∀ x, x ∈ k.blocks → w0.heap.size ≤ x
theorem SRun.step {full : Bool} {w0 w w' : World} {k : Hd} {s s' : Sound} (h : SRun full w0 w k s) (ha : SoundAt w' k s') (hu : Upd k.blocks w w') (hw : s'.WF) (hi : s'.In) : SRun full w0 w' k s' :=
  ⟨ha, hw, hi, h.apart, h.tabs.upd hu (Hd.big h.apart), h.upd.fresh hu h.fresh, h.fresh⟩
theorem TabsF.same {full : Bool} {w w' : World} (h : TabsF full w) (hs : Same w w') : TabsF full w' := h.upd (hs.upd []) (by simp)
theorem SRun.same {full : Bool} {w0 w w' : World} {k : Hd} {s : Sound} (h : SRun full w0 w k s) (hs : Same w w') : SRun full w0 w' k s :=
  ⟨h.at_.same hs, h.wf, h.inn, h.apart, h.tabs.same hs, h.upd.trans (hs.upd []), h.fresh⟩
theorem SRun.more {full : Bool} {w0 w w' : World} {k : Hd} {s : Sound} (h : SRun full w0 w k s) (hu : Upd [] w w') : SRun full w0 w' k s :=
  ⟨h.at_.upd hu (by simp), h.wf, h.inn, h.apart, h.tabs.upd hu (by simp), h.upd.trans hu, h.fresh⟩

/- The contracts once more, over SRun. -/
theorem r_new {full : Bool} (w : World) (hT : TabsF full w) : Calls Tryd.prog 11 #[] w fun e w' => ∃ k : Hd, e = .returned (.pointer (some ⟨k.b, 0, none⟩)) ∧ SRun full w w' k Sound.new :=
  (snd_new w hT.1 hT.size).mono fun _ _ ⟨k, he, ha, hf, hs, hu⟩ => ⟨k, he, hs, .new, .new, ha, hT.upd hu (by simp), hu, hf⟩
theorem r_put {full : Bool} {w0 w : World} {k : Hd} {s : Sound} (h : SRun full w0 w k s) (a r : Int) (wr : 0 ≤ r ∧ r ≤ 255) :
    Calls Tryd.prog 12 #[.pointer (some ⟨k.b, 0, none⟩), .int .u16 a, .int .u8 r] w fun e w' => e = .returned (.tuple #[]) ∧ SRun full w0 w' k (s.put a r) :=
  (snd_put k h.apart s h.wf a r wr w h.tabs.1 h.at_).mono fun _ _ ⟨he, ha, hu⟩ => ⟨he, h.step ha hu (h.wf.put wr) (h.inn.put a r)⟩
theorem r_clock {w0 w : World} {k : Hd} {s : Sound} (h : SRun true w0 w k s) :
    Calls Tryd.prog 15 #[.pointer (some ⟨k.b, 0, none⟩)] w fun e w' => e = .returned (.tuple #[]) ∧ SRun true w0 w' k s.clock :=
  (snd_clock k h.apart s h.wf h.inn w (h.tabs.2 rfl) h.at_).mono fun _ _ ⟨he, ha, hu⟩ => ⟨he, h.step ha hu (h.wf.clock h.inn) h.inn.clock⟩
theorem r_give {full : Bool} {w0 w : World} {k : Hd} {s : Sound} (h : SRun full w0 w k s) (r : Int) (wr : 0 ≤ r ∧ r ≤ 255) :
    Calls Tryd.prog 17 #[.pointer (some ⟨k.b, 0, none⟩), .int .u8 r] w fun e w' => e = .returned (.tuple #[]) ∧ SRun full w0 w' k (s.give r) :=
  (snd_give k h.apart s h.wf r wr w h.at_).mono fun _ _ ⟨he, ha, hu⟩ => ⟨he, h.step ha hu (h.wf.give wr) (h.inn.give r)⟩
theorem r_get {full : Bool} {w0 w : World} {k : Hd} {s : Sound} (h : SRun full w0 w k s) :
    Calls Tryd.prog 14 #[.pointer (some ⟨k.b, 0, none⟩)] w fun e w' => e = .returned (.int .u8 s.get) ∧ SRun full w0 w' k s.got :=
  (snd_get k h.apart s w h.at_).mono fun _ _ ⟨he, ha, hu⟩ => ⟨he, h.step ha hu h.wf.got h.inn.got⟩
theorem r_irq {full : Bool} {w0 w : World} {k : Hd} {s : Sound} (h : SRun full w0 w k s) :
    Calls Tryd.prog 16 #[.pointer (some ⟨k.b, 0, none⟩)] w fun e w' => e = .returned (.bool s.asking) ∧ SRun full w0 w' k s :=
  (snd_irq k s w h.at_).mono fun _ _ ⟨he, hs⟩ => ⟨he, h.same hs⟩
theorem r_asks {full : Bool} {w0 w : World} {k : Hd} {s : Sound} (h : SRun full w0 w k s) :
    Calls Tryd.prog 26 #[.pointer (some ⟨k.b, 0, none⟩)] w fun e w' => e = .returned (.tuple #[.int .u16 (if s.m.asks = true then s.m.at_ else 0), .bool s.m.asks]) ∧ SRun full w0 w' k s :=
  (snd_asks k s h.wf w h.at_).mono fun _ _ ⟨he, hs⟩ => ⟨he, h.same hs⟩
theorem r_out {full : Bool} {w0 w : World} {k : Hd} {s : Sound} (h : SRun full w0 w k s) :
    Calls Tryd.prog 18 #[.pointer (some ⟨k.b, 0, none⟩)] w fun e w' => e = .returned (.int .i64 s.out) ∧ SRun full w0 w' k s :=
  (snd_out k h.apart s h.wf w h.tabs.1 h.at_).mono fun _ _ ⟨he, hu⟩ => ⟨he, h.more hu⟩
theorem r_copy {full : Bool} {w0 w : World} {k : Hd} {s : Sound} (h : SRun full w0 w k s) :
    Calls Tryd.prog 27 #[.pointer (some ⟨k.b, 0, none⟩)] w fun e w' => ∃ c : Hd, e = .returned (.pointer (some ⟨c.b, 0, none⟩)) ∧ (∀ x, x ∈ c.blocks → w.heap.size ≤ x) ∧ SRun full w0 w' c s ∧ SRun full w0 w' k s :=
  (snd_copy k s w h.at_ h.tabs.size).mono fun _ _ ⟨c, he, ha, hf, hs, hu⟩ => ⟨c, he, hf, ⟨hs, h.wf, h.inn, ha, h.tabs.upd hu (by simp), h.upd.trans hu, fun x hx => Nat.le_trans h.upd.size (hf x hx)⟩, h.more hu⟩

theorem awake_out : Sound.new.out = 12765 := by
  simp [Sound.out, Sound.new, Tone.out, Tone.new, Smp.new]
set_option maxHeartbeats 1000000 in
theorem awake_calls {full : Bool} (w : World) (hT : TabsF full w) : Calls Tryd.prog 10 #[] w fun e w' => e = .returned (.bool true) ∧ Upd [] w w' := by
  have ho := Lib.hid awake_out
  go_enter Tryd.func10, Tryd.ntmps10
  go_wp2_with fail
  refine (r_new w hT).mono ?_
  rintro e w1 ⟨k, rfl, h⟩
  go_wp2_with fail
  refine (r_out h).mono ?_
  rw [ho.out]
  rintro e w2 ⟨rfl, h2⟩
  go_wp2
  go_ret
  exact ⟨rfl, h2.upd⟩
theorem awake_w {full : Bool} (w : World) (hT : TabsF full w) : Calls Tryd.prog 10 #[] w fun e w' => e = .returned (.bool true) ∧ Upd [] w w' ∧ TabsF full w' :=
  (awake_calls w hT).mono fun _ _ ⟨he, hu⟩ => ⟨he, hu, hT.upd hu (by simp)⟩
end Go.Proofs.YtonhhjihmbcfnaaDoor

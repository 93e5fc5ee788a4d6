/- The plain law of SoundNil. -/
import Derived.Test.YtonhhjihmbcfnaaDoorP1
import Derived.Test.YtonhhjihmbcfnaaDoorP2
namespace Go.Proofs.YtonhhjihmbcfnaaDoor
set_option linter.unusedSimpArgs false
set_option linter.unusedVariables false
def clockN : Nat → Sound → Sound
  | 0, s => s
  | n + 1, s => (clockN n s).clock
theorem clock_len (t : Tone) : t.clock.length = t.length := by
  unfold Tone.clock; (repeat' split) <;> rfl
/-- while the count is low, nothing but the count turns in what counts -/
theorem clock_early (s : Sound) (h : 0 ≤ s.count) (h2 : s.count + 1 < 7457) : s.clock.t2.length = s.t2.length ∧ s.clock.count = s.count + 1 := by
  have hl := lastOf_bd s.manner
  have ht : s.tick = { s with count := s.count + 1 } := by
    unfold Sound.tick
    dsimp only
    rw [if_neg (by omega), if_neg (by omega), if_neg (by omega), if_neg (by omega)]
  unfold Sound.clock
  rw [ht]
  exact ⟨clock_len _, rfl⟩
theorem clockN_early (n : Nat) (s : Sound) (h : s.count = 0) (hn : n ≤ 255) : (clockN n s).t2.length = s.t2.length ∧ (clockN n s).count = n := by
  induction n with
  | zero => exact ⟨rfl, h⟩
  | succ n ih =>
    obtain ⟨i1, i2⟩ := ih (by omega)
    have := clock_early (clockN n s) (by omega) (by omega)
    unfold clockN
    exact ⟨this.1.trans i1, by rw [this.2, i2]; rfl⟩
def nilS : Sound := Sound.new.put 16401 5
def nilC (b : Int) : Sound := ((nilS.put 16401 b).put 16405 31).put 16395 b
theorem nilS_out : nilS.out = 14440 := by
  simp [nilS, Sound.put, Sound.out, Sound.new, Tone.out, Tone.new, Smp.new, Smp.put]
theorem nilS_get : nilS.get = 0 := by
  simp [nilS, Sound.put, Sound.get, Sound.new, Tone.new, Smp.new, Smp.put, b2i]
theorem nilC_len (b : Int) (h0 : 0 ≤ b) (h1 : b ≤ 255) : 0 < (nilC b).t2.length ∧ (nilC b).count = 0 := by
  have := lengthOf_bd (b / 8) (by omega) (by omega)
  have e : (nilC b).t2.length = lengthOf (b / 8) ∧ (nilC b).count = 0 := by
    simp [nilC, nilS, Sound.put, Sound.putTone, Sound.enable, Sound.new, Tone.put, Tone.high, Tone.enable, Tone.new]
  rw [e.1]; exact ⟨by omega, e.2⟩
theorem get_four (s : Sound) (h : 0 < s.t2.length) : s.get / 4 % 2 = 1 := by
  have hb : ∀ (x : Bool) (m : Int), b2i x m = 0 ∨ b2i x m = m := fun x m => by unfold b2i; split <;> omega
  have h2 : b2i (decide (0 < s.t2.length)) 4 = 4 := by simp [b2i, h]
  unfold Sound.get
  rw [h2]
  have h0 := hb (decide (0 < s.t0.length)) 1
  have h1 := hb (decide (0 < s.t1.length)) 2
  have h3 := hb (decide (0 < s.t3.length)) 8
  have h4 := hb (decide (0 < s.m.left)) 16
  have h5 := hb s.irq 64
  have h6 := hb s.m.irq 128
  omega
theorem nil_law (b : Int) (h0 : 0 ≤ b) (h1 : b ≤ 255) (n : Nat) (hn : n ≤ 255) : (clockN n (nilC b)).get / 4 % 2 = 1 := by
  obtain ⟨a, c⟩ := nilC_len b h0 h1
  obtain ⟨d, _⟩ := clockN_early n (nilC b) c hn
  exact get_four _ (by rw [d]; exact a)
theorem put_nothing (s : Sound) (a b : Int) (h : a < 16384 ∨ 16407 < a ∨ a = 16404 ∨ a = 16406) : s.put a b = s := by
  unfold Sound.put
  by_cases h1 : a < 16384 ∨ 16407 < a
  · rw [if_pos h1]
  · rw [if_neg h1, if_neg (by omega), if_neg (by omega), if_neg (by omega), if_neg (by omega)]
end Go.Proofs.YtonhhjihmbcfnaaDoor

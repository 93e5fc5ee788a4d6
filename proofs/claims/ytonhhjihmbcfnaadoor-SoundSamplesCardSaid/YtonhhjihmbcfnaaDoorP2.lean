/- The plain law of SoundAsks: the count, and when it asks. -/
import Derived.Test.YtonhhjihmbcfnaaDoorSoundM
namespace Go.Proofs.YtonhhjihmbcfnaaDoor
set_option linter.unusedSimpArgs false
set_option linter.unusedVariables false
theorem quarter_keeps (s : Sound) : s.quarter.count = s.count ∧ s.quarter.manner = s.manner ∧ s.quarter.bars = s.bars ∧ s.quarter.irq = s.irq ∧ s.quarter.m = s.m ∧ s.quarter.even = s.even := ⟨rfl, rfl, rfl, rfl, rfl, rfl⟩
theorem half_keeps (s : Sound) : s.half.count = s.count ∧ s.half.manner = s.manner ∧ s.half.bars = s.bars ∧ s.half.irq = s.irq ∧ s.half.m = s.m ∧ s.half.even = s.even := ⟨rfl, rfl, rfl, rfl, rfl, rfl⟩
theorem mclock_irq (m : Smp) : m.clock.irq = m.irq := by
  unfold Smp.clock Smp.shift Smp.bit
  (repeat' split) <;> rfl
theorem clock_parts (s : Sound) : s.clock.manner = s.manner ∧ s.clock.bars = s.bars ∧ s.clock.m.irq = s.m.irq ∧
    s.clock.count = (if lastOf s.manner < s.count + 1 then 0 else s.count + 1) ∧
    s.clock.irq = (s.irq || (decide (s.count + 1 = 29829) && decide (s.manner = 0) && !s.bars)) := by
  have hl := lastOf_bd s.manner
  have hl0 : s.manner = 0 → lastOf s.manner = 29829 := fun h => by rw [h]; rfl
  have hl1 : ¬ s.manner = 0 → lastOf s.manner = 37281 := fun h => by unfold lastOf; rw [if_neg h]
  unfold Sound.clock Sound.tick
  dsimp only
  refine ⟨?_, ?_, ?_, ?_, ?_⟩
  · (repeat' split) <;> rfl
  · (repeat' split) <;> rfl
  · rw [mclock_irq]; (repeat' split) <;> rfl
  · (repeat' split) <;> simp only [Sound.quarter, Sound.half] <;> omega
  · by_cases hm : s.manner = 0
    · have := hl0 hm
      rw [hm] at this ⊢
      cases s.irq <;> cases s.bars <;> (repeat' split) <;> simp [Sound.quarter, Sound.half, hm] <;> omega
    · have := hl1 hm
      (repeat' split) <;> simp [Sound.quarter, Sound.half, hm]

def stA (look : Bool) (s : Sound) : Nat → Sound
  | 0 => s
  | j + 1 => if look = true ∧ (stA look s j).clock.asking = true then (stA look s j).clock.got else (stA look s j).clock

/-- is the count one that asks? -/
def live (b : Int) : Bool := decide (b < 64)

structure Asks (b : Int) (look : Bool) (j : Nat) (s : Sound) : Prop where
  manner : s.manner = if 128 ≤ b then 1 else 0
  bars : s.bars = decide (b / 64 % 2 = 1)
  mirq : s.m.irq = false
  count : s.count = if 128 ≤ b then (j : Int) % 37282 else (j : Int) % 29830
  irq : s.irq = (!look && live b && decide (29829 ≤ j))

theorem asks0 (b : Int) (look : Bool) : Asks b look 0 (Sound.new.put 16407 b) := by
  have e : Sound.new.put 16407 b = Sound.new.restart b := by unfold Sound.put; simp
  rw [e]
  unfold Sound.restart
  dsimp only
  split <;> rename_i h
  · exact ⟨by simp [Sound.half, Sound.quarter, h], by simp [Sound.half, Sound.quarter], rfl, by simp [Sound.half, Sound.quarter], by simp [Sound.half, Sound.quarter, Sound.new]⟩
  · exact ⟨by simp [h], by simp, rfl, by simp, by simp [Sound.new]⟩

theorem asks_clock {b : Int} (h0 : 0 ≤ b) (h1 : b ≤ 255) {look : Bool} {j : Nat} {s : Sound} (h : Asks b look j s) :
    s.clock.manner = (if 128 ≤ b then 1 else 0) ∧ s.clock.bars = decide (b / 64 % 2 = 1) ∧ s.clock.m.irq = false ∧ s.clock.count = (if 128 ≤ b then ((j + 1 : Nat) : Int) % 37282 else ((j + 1 : Nat) : Int) % 29830) ∧
    s.clock.irq = ((!look && live b && decide (29829 ≤ j)) || (live b && decide ((j + 1) % 29830 = 29829))) := by
  obtain ⟨p1, p2, p3, p4, p5⟩ := clock_parts s
  obtain ⟨h2, h3, h4, h5, h6⟩ := h
  refine ⟨p1.trans h2, p2.trans h3, p3.trans h4, ?_, ?_⟩
  · rw [p4, h2, h5]
    unfold lastOf
    by_cases hb : 128 ≤ b
    · simp only [hb, if_true]
      simp only [show ¬ (1 : Int) = 0 by decide, if_false]
      split <;> omega
    · simp only [hb, if_false, if_true]
      split <;> omega
  · rw [p5, h6, h2, h3, h5]
    congr 1
    unfold live
    by_cases hb : 128 ≤ b
    · simp [hb, show ¬ b < 64 by omega]
    · simp only [hb, if_false]
      rw [Bool.eq_iff_iff]
      simp
      omega

theorem asks_step {b : Int} (h0 : 0 ≤ b) (h1 : b ≤ 255) (look : Bool) (j : Nat) : Asks b look j (stA look (Sound.new.put 16407 b) j) := by
  induction j with
  | zero => exact asks0 b look
  | succ j ih =>
    obtain ⟨q1, q2, q3, q4, q5⟩ := asks_clock h0 h1 ih
    unfold stA
    by_cases hl : look = true ∧ (stA look (Sound.new.put 16407 b) j).clock.asking = true
    · rw [if_pos hl]
      exact ⟨q1, q2, q3, q4, by simp [Sound.got, hl.1]⟩
    · rw [if_neg hl]
      refine ⟨q1, q2, q3, q4, ?_⟩
      cases look
      · rw [q5]
        cases live b
        · simp
        · rw [Bool.eq_iff_iff]
          simp
          omega
      · have : (stA true (Sound.new.put 16407 b) j).clock.asking = false := by simpa using hl
        unfold Sound.asking at this
        simp at this
        simp [this.1]

/-- what a round of the law sees -/
theorem asks_round {b : Int} (h0 : 0 ≤ b) (h1 : b ≤ 255) (look : Bool) (j : Nat) :
    (stA look (Sound.new.put 16407 b) j).clock.asking = ((!look && live b && decide (29829 ≤ j)) || (live b && decide ((j + 1) % 29830 = 29829))) := by
  obtain ⟨q1, q2, q3, q4, q5⟩ := asks_clock h0 h1 (asks_step h0 h1 look j)
  unfold Sound.asking
  rw [q3, q5, Bool.or_false]

theorem get_irq (s : Sound) (h : s.irq = true) : s.get / 64 % 2 = 1 := by
  have hb : ∀ (x : Bool) (m : Int), b2i x m = 0 ∨ b2i x m = m := fun x m => by unfold b2i; split <;> omega
  unfold Sound.get
  have h0 := hb (decide (0 < s.t0.length)) 1
  have h1 := hb (decide (0 < s.t1.length)) 2
  have h2 := hb (decide (0 < s.t2.length)) 4
  have h3 := hb (decide (0 < s.t3.length)) 8
  have h4 := hb (decide (0 < s.m.left)) 16
  have h6 := hb s.m.irq 128
  rw [h]
  simp only [b2i, if_true] at *
  omega
theorem asks_get {b : Int} (h0 : 0 ≤ b) (h1 : b ≤ 255) (look : Bool) (j : Nat) (h : (stA look (Sound.new.put 16407 b) j).clock.asking = true) :
    (stA look (Sound.new.put 16407 b) j).clock.get / 64 % 2 = 1 := by
  obtain ⟨q1, q2, q3, q4, q5⟩ := asks_clock h0 h1 (asks_step h0 h1 look j)
  apply get_irq
  unfold Sound.asking at h
  rw [q3, Bool.or_false] at h
  exact h
theorem asks_end {b : Int} (h0 : 0 ≤ b) (h1 : b ≤ 255) (look : Bool) (j : Nat) :
    (stA look (Sound.new.put 16407 b) j).asking = (!look && live b && decide (29829 ≤ j)) := by
  have h := asks_step h0 h1 look j
  unfold Sound.asking
  rw [h.irq, h.mirq, Bool.or_false]
/-- how often it asked -/
def askN (l : Bool) (j : Nat) : Int := if l = true then (((j + 1) / 29830 : Nat) : Int) else 0
theorem askN_zero (l : Bool) : askN l 0 = 0 := by unfold askN; split <;> simp
theorem askN_succ (l : Bool) (j : Nat) : askN l (j + 1) = askN l j + if l = true ∧ (j + 1) % 29830 = 29829 then 1 else 0 := by
  unfold askN
  cases l
  · simp
  · simp only [if_true, true_and]
    split <;> omega
theorem askN_bd (l : Bool) (j : Nat) : 0 ≤ askN l j ∧ askN l j ≤ j := by
  unfold askN
  split <;> omega
end Go.Proofs.YtonhhjihmbcfnaaDoor

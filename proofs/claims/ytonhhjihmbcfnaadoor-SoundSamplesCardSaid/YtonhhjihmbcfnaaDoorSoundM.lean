/- The plain sample and the plain sound. -/
import Derived.Test.YtonhhjihmbcfnaaDoorToneM
namespace Go.Proofs.YtonhhjihmbcfnaaDoor
structure Smp where
  q0 : Int
  q1 : Int
  q2 : Int
  q3 : Int
  level : Int
  next : Int
  waits : Bool
  row : Int
  bits : Int
  speaks : Bool
  timer : Int
  at_ : Int
  left : Int
  irq : Bool

structure Smp.WF (m : Smp) : Prop where
  q0 : 0 ≤ m.q0 ∧ m.q0 ≤ 255
  q1 : 0 ≤ m.q1 ∧ m.q1 ≤ 255
  q2 : 0 ≤ m.q2 ∧ m.q2 ≤ 255
  q3 : 0 ≤ m.q3 ∧ m.q3 ≤ 255
  level : 0 ≤ m.level ∧ m.level ≤ 127
  next : 0 ≤ m.next ∧ m.next ≤ 255
  row : 0 ≤ m.row ∧ m.row ≤ 255
  bits : 1 ≤ m.bits ∧ m.bits ≤ 8
  timer : 0 ≤ m.timer ∧ m.timer ≤ 427
  at_ : 0 ≤ m.at_ ∧ m.at_ ≤ 65535
  left : 0 ≤ m.left ∧ m.left ≤ 4081

def rates : List Int := [428, 380, 340, 320, 286, 254, 226, 214, 190, 160, 142, 128, 106, 84, 72, 54]
def rateOf (n : Int) : Int := rates.getD n.toNat 0
theorem rates_all (n : Nat) (h : n < 16) : 54 ≤ rates.getD n 0 ∧ rates.getD n 0 ≤ 428 := by
  have : ∀ n : Fin 16, 54 ≤ rates.getD n.val 0 ∧ rates.getD n.val 0 ≤ 428 := by decide +kernel
  exact this ⟨n, h⟩
theorem rateOf_bd (n : Int) (h0 : 0 ≤ n) (h : n ≤ 15) : 54 ≤ rateOf n ∧ rateOf n ≤ 428 := rates_all n.toNat (by omega)

def Smp.new : Smp := { q0 := 0, q1 := 0, q2 := 0, q3 := 0, level := 0, next := 0, waits := false, row := 0, bits := 8, speaks := false, timer := 0, at_ := 0, left := 0, irq := false }
def Smp.begin (m : Smp) : Smp := { m with at_ := 49152 + 64 * m.q2, left := 16 * m.q3 + 1 }
def Smp.put (m : Smp) (reg b : Int) : Smp :=
  if reg = 0 then { m with q0 := b, irq := m.irq && decide (128 ≤ b) }
  else if reg = 1 then { m with q1 := b, level := b % 128 }
  else if reg = 2 then { m with q2 := b }
  else { m with q3 := b }
def Smp.enable (m : Smp) (on : Bool) : Smp :=
  if on = false then { m with irq := false, left := 0 }
  else if m.left = 0 then { m with irq := false, at_ := 49152 + 64 * m.q2, left := 16 * m.q3 + 1 }
  else { m with irq := false }
def Smp.asks (m : Smp) : Bool := !m.waits && decide (0 < m.left)
def Smp.give (m : Smp) (b : Int) : Smp :=
  if m.asks = false then m
  else if 1 < m.left then { m with next := b, waits := true, at_ := if m.at_ = 65535 then 32768 else m.at_ + 1, left := m.left - 1 }
  else if m.q0 / 64 % 2 = 1 then { m with next := b, waits := true, at_ := 49152 + 64 * m.q2, left := 16 * m.q3 + 1 }
  else { m with next := b, waits := true, at_ := if m.at_ = 65535 then 32768 else m.at_ + 1, left := m.left - 1, irq := if 128 ≤ m.q0 then true else m.irq }
def Smp.bit (m : Smp) : Smp :=
  if m.speaks = false then m
  else { m with level := if m.row % 2 = 1 then (if m.level ≤ 125 then m.level + 2 else m.level) else (if 2 ≤ m.level then m.level - 2 else m.level), row := m.row / 2 }
def Smp.shift (m : Smp) : Smp :=
  if 1 < m.bits then { m with bits := m.bits - 1 }
  else if m.waits = true then { m with bits := 8, speaks := true, row := m.next, waits := false }
  else { m with bits := 8, speaks := false }
def Smp.clock (m : Smp) : Smp :=
  if 0 < m.timer then { m with timer := m.timer - 1 }
  else Smp.shift (Smp.bit { m with timer := rateOf (m.q0 % 16) - 1 })

theorem Smp.WF.new : Smp.new.WF := by constructor <;> (unfold Smp.new; dsimp only; omega)
theorem Smp.WF.begin {m : Smp} (h : m.WF) : m.begin.WF := by
  obtain ⟨h1, h2, h3, h4, h5, h6, h7, h8, h9, h10, h11⟩ := h
  constructor <;> unfold Smp.begin <;> dsimp only <;> first | assumption | omega
theorem Smp.WF.put {m : Smp} (h : m.WF) {reg b : Int} (hb : 0 ≤ b ∧ b ≤ 255) : (m.put reg b).WF := by
  obtain ⟨h1, h2, h3, h4, h5, h6, h7, h8, h9, h10, h11⟩ := h
  constructor <;> unfold Smp.put <;> (repeat' split) <;> dsimp only <;> first | assumption | omega
theorem Smp.WF.enable {m : Smp} (h : m.WF) (on : Bool) : (m.enable on).WF := by
  obtain ⟨h1, h2, h3, h4, h5, h6, h7, h8, h9, h10, h11⟩ := h
  constructor <;> unfold Smp.enable <;> (repeat' split) <;> dsimp only <;> first | assumption | omega
theorem Smp.WF.give {m : Smp} (h : m.WF) {b : Int} (hb : 0 ≤ b ∧ b ≤ 255) : (m.give b).WF := by
  by_cases ha : m.asks = false
  · simpa [Smp.give, ha] using h
  have ha : m.asks = true := by simpa using ha
  have hl : 0 < m.left := by simp [Smp.asks] at ha; exact ha.2
  obtain ⟨h1, h2, h3, h4, h5, h6, h7, h8, h9, h10, h11⟩ := h
  unfold Smp.give
  rw [if_neg (by simp [ha])]
  constructor <;> (repeat' split) <;> dsimp only <;> (repeat' split) <;> first | assumption | omega
theorem Smp.WF.bit {m : Smp} (h : m.WF) : m.bit.WF := by
  obtain ⟨h1, h2, h3, h4, h5, h6, h7, h8, h9, h10, h11⟩ := h
  constructor <;> unfold Smp.bit <;> (repeat' split) <;> (try dsimp only) <;> (repeat' split) <;> first | assumption | omega
theorem Smp.WF.shift {m : Smp} (h : m.WF) : m.shift.WF := by
  obtain ⟨h1, h2, h3, h4, h5, h6, h7, h8, h9, h10, h11⟩ := h
  constructor <;> unfold Smp.shift <;> (repeat' split) <;> dsimp only <;> first | assumption | omega
theorem Smp.WF.rated {m : Smp} (h : m.WF) : Smp.WF { m with timer := rateOf (m.q0 % 16) - 1 } := by
  have hr := rateOf_bd (m.q0 % 16) (by omega) (by omega)
  exact ⟨h.q0, h.q1, h.q2, h.q3, h.level, h.next, h.row, h.bits, by dsimp only; omega, h.at_, h.left⟩
theorem Smp.WF.clock {m : Smp} (h : m.WF) : m.clock.WF := by
  unfold Smp.clock
  split
  · have := h.timer
    exact ⟨h.q0, h.q1, h.q2, h.q3, h.level, h.next, h.row, h.bits, by dsimp only; omega, h.at_, h.left⟩
  · exact h.rated.bit.shift

structure Sound where
  t0 : Tone
  t1 : Tone
  t2 : Tone
  t3 : Tone
  m : Smp
  count : Int
  manner : Int
  bars : Bool
  irq : Bool
  even : Bool

structure Sound.WF (s : Sound) : Prop where
  t0 : s.t0.WF
  t1 : s.t1.WF
  t2 : s.t2.WF
  t3 : s.t3.WF
  k0 : s.t0.kind = 0
  k1 : s.t1.kind = 1
  k2 : s.t2.kind = 2
  k3 : s.t3.kind = 3
  m : s.m.WF
  count : 0 ≤ s.count ∧ s.count ≤ 40000
  manner : s.manner = 0 ∨ s.manner = 1

def Sound.new : Sound := { t0 := Tone.new 0, t1 := Tone.new 1, t2 := Tone.new 2, t3 := Tone.new 3, m := Smp.new, count := 0, manner := 0, bars := false, irq := false, even := false }
def Sound.quarter (s : Sound) : Sound := { s with t0 := s.t0.quarter, t1 := s.t1.quarter, t2 := s.t2.quarter, t3 := s.t3.quarter }
def Sound.half (s : Sound) : Sound := { s with t0 := s.t0.half, t1 := s.t1.half, t2 := s.t2.half, t3 := s.t3.half }
def Sound.restart (s : Sound) (b : Int) : Sound :=
  let u := { s with count := 0, manner := 0, bars := decide (b / 64 % 2 = 1), irq := s.irq && !decide (b / 64 % 2 = 1) }
  if 128 ≤ b then ({ u with manner := 1 }.quarter).half else u
def Sound.enable (s : Sound) (b : Int) : Sound :=
  { s with t0 := s.t0.enable (decide (b % 2 = 1)), t1 := s.t1.enable (decide (b / 2 % 2 = 1)), t2 := s.t2.enable (decide (b / 4 % 2 = 1)), t3 := s.t3.enable (decide (b / 8 % 2 = 1)), m := s.m.enable (decide (b / 16 % 2 = 1)) }
def Sound.putTone (s : Sound) (i reg b : Int) : Sound :=
  if i = 0 then { s with t0 := s.t0.put reg b } else if i = 1 then { s with t1 := s.t1.put reg b } else if i = 2 then { s with t2 := s.t2.put reg b } else { s with t3 := s.t3.put reg b }
def Sound.put (s : Sound) (at_ b : Int) : Sound :=
  if at_ < 16384 ∨ 16407 < at_ then s
  else if at_ < 16400 then s.putTone ((at_ - 16384) / 4) (at_ % 4) b
  else if at_ < 16404 then { s with m := s.m.put (at_ - 16400) b }
  else if at_ = 16405 then s.enable b
  else if at_ = 16407 then s.restart b
  else s
def lastOf (manner : Int) : Int := if manner = 0 then 29829 else 37281
def Sound.tick (s : Sound) : Sound :=
  let s := { s with count := s.count + 1 }
  if s.count = 7457 ∨ s.count = 22371 then s.quarter
  else if s.count = 14913 then s.quarter.half
  else if s.count = lastOf s.manner then { s.quarter.half with irq := s.irq || (decide (s.manner = 0) && !s.bars) }
  else if lastOf s.manner < s.count then { s with count := 0 }
  else s
def Sound.clock (s : Sound) : Sound :=
  let s := s.tick
  { s with t2 := s.t2.clock, t3 := s.t3.clock, t0 := if s.even then s.t0.clock else s.t0, t1 := if s.even then s.t1.clock else s.t1, even := !s.even, m := s.m.clock }
def Sound.out (s : Sound) : Int := 752 * (s.t0.out + s.t1.out) + 851 * s.t2.out + 494 * s.t3.out + 335 * s.m.level
def Sound.asking (s : Sound) : Bool := s.irq || s.m.irq
def b2i (b : Bool) (n : Int) : Int := if b then n else 0
def Sound.get (s : Sound) : Int :=
  b2i (decide (0 < s.t0.length)) 1 + b2i (decide (0 < s.t1.length)) 2 + b2i (decide (0 < s.t2.length)) 4 + b2i (decide (0 < s.t3.length)) 8 + b2i (decide (0 < s.m.left)) 16 + b2i s.irq 64 + b2i s.m.irq 128
def Sound.got (s : Sound) : Sound := { s with irq := false }
def Sound.give (s : Sound) (b : Int) : Sound := { s with m := s.m.give b }

theorem Sound.WF.new : Sound.new.WF :=
  ⟨.new (by omega), .new (by omega), .new (by omega), .new (by omega), rfl, rfl, rfl, rfl, .new, by unfold Sound.new; dsimp only; omega, .inl rfl⟩
theorem Sound.WF.quarter {s : Sound} (h : s.WF) : s.quarter.WF :=
  ⟨h.t0.quarter, h.t1.quarter, h.t2.quarter, h.t3.quarter, (Tone.quarter_kind _).trans h.k0, (Tone.quarter_kind _).trans h.k1, (Tone.quarter_kind _).trans h.k2, (Tone.quarter_kind _).trans h.k3, h.m, h.count, h.manner⟩
theorem Sound.WF.half {s : Sound} (h : s.WF) : s.half.WF :=
  ⟨h.t0.half, h.t1.half, h.t2.half, h.t3.half, (Tone.half_kind _).trans h.k0, (Tone.half_kind _).trans h.k1, (Tone.half_kind _).trans h.k2, (Tone.half_kind _).trans h.k3, h.m, h.count, h.manner⟩
theorem Sound.WF.restart {s : Sound} (h : s.WF) (b : Int) : (s.restart b).WF := by
  unfold Sound.restart
  dsimp only
  split
  · refine (Sound.WF.quarter ?_).half
    exact ⟨h.t0, h.t1, h.t2, h.t3, h.k0, h.k1, h.k2, h.k3, h.m, by dsimp only; omega, .inr rfl⟩
  · exact ⟨h.t0, h.t1, h.t2, h.t3, h.k0, h.k1, h.k2, h.k3, h.m, by dsimp only; omega, .inl rfl⟩
theorem Sound.WF.enable {s : Sound} (h : s.WF) (b : Int) : (s.enable b).WF :=
  ⟨h.t0.enable _, h.t1.enable _, h.t2.enable _, h.t3.enable _, h.k0, h.k1, h.k2, h.k3, h.m.enable _, h.count, h.manner⟩
theorem Sound.WF.putTone {s : Sound} (h : s.WF) {i reg b : Int} (hb : 0 ≤ b ∧ b ≤ 255) : (s.putTone i reg b).WF := by
  unfold Sound.putTone
  repeat' split
  · exact ⟨h.t0.put hb, h.t1, h.t2, h.t3, (Tone.put_kind _ _ _).trans h.k0, h.k1, h.k2, h.k3, h.m, h.count, h.manner⟩
  · exact ⟨h.t0, h.t1.put hb, h.t2, h.t3, h.k0, (Tone.put_kind _ _ _).trans h.k1, h.k2, h.k3, h.m, h.count, h.manner⟩
  · exact ⟨h.t0, h.t1, h.t2.put hb, h.t3, h.k0, h.k1, (Tone.put_kind _ _ _).trans h.k2, h.k3, h.m, h.count, h.manner⟩
  · exact ⟨h.t0, h.t1, h.t2, h.t3.put hb, h.k0, h.k1, h.k2, (Tone.put_kind _ _ _).trans h.k3, h.m, h.count, h.manner⟩
theorem Sound.WF.put {s : Sound} (h : s.WF) {at_ b : Int} (hb : 0 ≤ b ∧ b ≤ 255) : (s.put at_ b).WF := by
  unfold Sound.put
  repeat' split
  · exact h
  · exact h.putTone hb
  · exact ⟨h.t0, h.t1, h.t2, h.t3, h.k0, h.k1, h.k2, h.k3, h.m.put hb, h.count, h.manner⟩
  · exact h.enable b
  · exact h.restart b
  · exact h
theorem Sound.WF.counted {s : Sound} (h : s.WF) {n : Int} (hn : 0 ≤ n ∧ n ≤ 40000) : Sound.WF { s with count := n } :=
  ⟨h.t0, h.t1, h.t2, h.t3, h.k0, h.k1, h.k2, h.k3, h.m, hn, h.manner⟩
theorem Sound.WF.irqs {s : Sound} (h : s.WF) (b : Bool) : Sound.WF { s with irq := b } :=
  ⟨h.t0, h.t1, h.t2, h.t3, h.k0, h.k1, h.k2, h.k3, h.m, h.count, h.manner⟩
/-- the count never goes beyond its last one -/
def Sound.In (s : Sound) : Prop := 0 ≤ s.count ∧ s.count ≤ lastOf s.manner
theorem lastOf_bd (m : Int) : 29829 ≤ lastOf m ∧ lastOf m ≤ 37281 := by unfold lastOf; split <;> omega
theorem Sound.WF.tick {s : Sound} (h : s.WF) (hi : s.In) : s.tick.WF := by
  have hl := lastOf_bd s.manner
  unfold Sound.In at hi
  have hc : Sound.WF { s with count := s.count + 1 } := h.counted (by omega)
  unfold Sound.tick
  dsimp only
  repeat' split
  · exact hc.quarter
  · exact hc.quarter.half
  · exact hc.quarter.half.irqs _
  · exact h.counted (by omega)
  · exact hc
theorem Sound.In.tick {s : Sound} (hi : s.In) : s.tick.In := by
  have hl := lastOf_bd s.manner
  unfold Sound.In at *
  unfold Sound.tick
  dsimp only
  repeat' split
  all_goals simp only [Sound.quarter, Sound.half]
  all_goals omega
theorem Sound.tick_kinds (s : Sound) : s.tick.even = s.even ∧ s.tick.m = s.m ∧ s.tick.manner = s.manner := by
  unfold Sound.tick
  dsimp only
  repeat' split
  all_goals exact ⟨rfl, rfl, rfl⟩
theorem Sound.WF.clock {s : Sound} (h : s.WF) (hi : s.In) : s.clock.WF := by
  have ht := h.tick hi
  unfold Sound.clock
  dsimp only
  refine ⟨?_, ?_, ht.t2.clock, ht.t3.clock, ?_, ?_, (Tone.clock_kind _).trans ht.k2, (Tone.clock_kind _).trans ht.k3, ht.m.clock, ht.count, ht.manner⟩
  · dsimp only; split
    · exact ht.t0.clock
    · exact ht.t0
  · dsimp only; split
    · exact ht.t1.clock
    · exact ht.t1
  · dsimp only; split
    · exact (Tone.clock_kind _).trans ht.k0
    · exact ht.k0
  · dsimp only; split
    · exact (Tone.clock_kind _).trans ht.k1
    · exact ht.k1
theorem Sound.In.clock {s : Sound} (hi : s.In) : s.clock.In := hi.tick
theorem Sound.In.new : Sound.new.In := by unfold Sound.In Sound.new lastOf; dsimp only; simp
theorem Sound.In.put {s : Sound} (hi : s.In) (a b : Int) : (s.put a b).In := by
  unfold Sound.put Sound.putTone Sound.enable Sound.restart
  unfold Sound.In at *
  have h1 := lastOf_bd 1
  have h0 := lastOf_bd 0
  repeat' split
  all_goals try exact hi
  all_goals (dsimp only; try split)
  all_goals (try simp only [Sound.half, Sound.quarter])
  all_goals omega
theorem Sound.WF.give {s : Sound} (h : s.WF) {b : Int} (hb : 0 ≤ b ∧ b ≤ 255) : (s.give b).WF :=
  ⟨h.t0, h.t1, h.t2, h.t3, h.k0, h.k1, h.k2, h.k3, h.m.give hb, h.count, h.manner⟩
theorem Sound.In.give {s : Sound} (hi : s.In) (b : Int) : (s.give b).In := hi
theorem Sound.WF.got {s : Sound} (h : s.WF) : s.got.WF := h.irqs _
theorem Sound.In.got {s : Sound} (hi : s.In) : s.got.In := hi
theorem Sound.out_bd {s : Sound} (h : s.WF) : 0 ≤ s.out ∧ s.out ≤ 752 * 30 + 851 * 15 + 494 * 15 + 335 * 127 := by
  have h0 := Tone.out_bd h.t0
  have h1 := Tone.out_bd h.t1
  have h2 := Tone.out_bd h.t2
  have h3 := Tone.out_bd h.t3
  have h4 := h.m.level
  unfold Sound.out
  omega
end Go.Proofs.YtonhhjihmbcfnaaDoor

/- The plain law of SoundSamples. -/
import Derived.Test.YtonhhjihmbcfnaaDoorP3
namespace Go.Proofs.YtonhhjihmbcfnaaDoor
set_option linter.unusedSimpArgs false
set_option linter.unusedVariables false
/-- The four tones are silent and stay so. -/
structure Still (s : Sound) : Prop where
  l0 : s.t0.length = 0
  l1 : s.t1.length = 0
  l2 : s.t2.length = 0
  l3 : s.t3.length = 0
  step : s.t2.step = 0
  k0 : s.t0.kind = 0
  k1 : s.t1.kind = 1
  k2 : s.t2.kind = 2
  k3 : s.t3.kind = 3
theorem still_clock (t : Tone) (h : t.length = 0) (k : t.kind = 2 → t.step = 0) : t.clock.length = 0 ∧ (t.clock.kind = 2 → t.clock.step = 0) := by
  unfold Tone.clock
  (repeat' split) <;> simp_all
theorem still_quarter (t : Tone) (h : t.length = 0) (k : t.kind = 2 → t.step = 0) : t.quarter.length = 0 ∧ (t.quarter.kind = 2 → t.quarter.step = 0) := by
  unfold Tone.quarter
  (repeat' split) <;> simp_all
theorem still_half (t : Tone) (h : t.length = 0) (k : t.kind = 2 → t.step = 0) : t.half.length = 0 ∧ (t.half.kind = 2 → t.half.step = 0) := by
  unfold Tone.half
  dsimp only
  split <;> simp_all
theorem Still.quarter {s : Sound} (h : Still s) : Still s.quarter := by
  obtain ⟨h0, h1, h2, h3, hs, k0, k1, k2, k3⟩ := h
  have e0 := still_quarter s.t0 h0 (by omega)
  have e1 := still_quarter s.t1 h1 (by omega)
  have e2 := still_quarter s.t2 h2 (fun _ => hs)
  have e3 := still_quarter s.t3 h3 (by omega)
  have q2 := (Tone.quarter_kind s.t2).trans k2
  exact ⟨e0.1, e1.1, e2.1, e3.1, e2.2 q2, (Tone.quarter_kind _).trans k0, (Tone.quarter_kind _).trans k1, q2, (Tone.quarter_kind _).trans k3⟩
theorem Still.half {s : Sound} (h : Still s) : Still s.half := by
  obtain ⟨h0, h1, h2, h3, hs, k0, k1, k2, k3⟩ := h
  have e0 := still_half s.t0 h0 (by omega)
  have e1 := still_half s.t1 h1 (by omega)
  have e2 := still_half s.t2 h2 (fun _ => hs)
  have e3 := still_half s.t3 h3 (by omega)
  have q2 := (Tone.half_kind s.t2).trans k2
  exact ⟨e0.1, e1.1, e2.1, e3.1, e2.2 q2, (Tone.half_kind _).trans k0, (Tone.half_kind _).trans k1, q2, (Tone.half_kind _).trans k3⟩
theorem Still.tones {s s' : Sound} (h : Still s) (e0 : s'.t0 = s.t0) (e1 : s'.t1 = s.t1) (e2 : s'.t2 = s.t2) (e3 : s'.t3 = s.t3) : Still s' := by
  obtain ⟨h0, h1, h2, h3, hs, k0, k1, k2, k3⟩ := h
  exact ⟨by rw [e0, h0], by rw [e1, h1], by rw [e2, h2], by rw [e3, h3], by rw [e2, hs], by rw [e0, k0], by rw [e1, k1], by rw [e2, k2], by rw [e3, k3]⟩
theorem Still.tick {s : Sound} (h : Still s) : Still s.tick := by
  have hc : Still { s with count := s.count + 1 } := h.tones rfl rfl rfl rfl
  unfold Sound.tick
  dsimp only
  repeat' split
  · exact hc.quarter
  · exact hc.quarter.half
  · exact hc.quarter.half.tones rfl rfl rfl rfl
  · exact h.tones rfl rfl rfl rfl
  · exact hc
theorem Still.clock {s : Sound} (h : Still s) : Still s.clock := by
  obtain ⟨h0, h1, h2, h3, hs, k0, k1, k2, k3⟩ := h.tick
  have e0 := still_clock s.tick.t0 h0 (by omega)
  have e1 := still_clock s.tick.t1 h1 (by omega)
  have e2 := still_clock s.tick.t2 h2 (fun _ => hs)
  have e3 := still_clock s.tick.t3 h3 (by omega)
  have q2 := (Tone.clock_kind s.tick.t2).trans k2
  unfold Sound.clock
  dsimp only
  refine ⟨?_, ?_, e2.1, e3.1, e2.2 q2, ?_, ?_, q2, (Tone.clock_kind _).trans k3⟩
  · dsimp only; split
    · exact e0.1
    · exact h0
  · dsimp only; split
    · exact e1.1
    · exact h1
  · dsimp only; split
    · exact (Tone.clock_kind _).trans k0
    · exact k0
  · dsimp only; split
    · exact (Tone.clock_kind _).trans k1
    · exact k1
theorem Still.out {s : Sound} (h : Still s) : s.out = 12765 + 335 * s.m.level := by
  obtain ⟨h0, h1, h2, h3, hs, k0, k1, k2, k3⟩ := h
  have e0 : s.t0.out = 0 := by unfold Tone.out; simp [h0, k0]
  have e1 : s.t1.out = 0 := by unfold Tone.out; simp [h1, k1]
  have e3 : s.t3.out = 0 := by unfold Tone.out; simp [h3, k3]
  have e2 : s.t2.out = 15 := by unfold Tone.out; simp [hs, k2]
  unfold Sound.out
  rw [e0, e1, e2, e3]
  omega
theorem clock_m (s : Sound) : s.clock.m = s.m.clock := by
  unfold Sound.clock
  dsimp only
  rw [(Sound.tick_kinds s).2.1]

/-- What the law lays. -/
def smpS (rate place level e b : Int) : Sound := (((((Sound.new.put 16400 (rate % 16 + e / 64 * 64)).put 16401 level).put 16402 place).put 16403 0).put 16405 16)
/-- The sample after n steps and k cycles. -/
structure Stp (R b : Int) (k n : Nat) (want : Int) (s : Sound) : Prop where
  still : Still s
  q : s.m.q0 % 16 = R
  level : s.m.level = want
  time : (k : Int) + s.m.timer = n * rateOf R
  timer : 0 ≤ s.m.timer ∧ s.m.timer < rateOf R
  le : n ≤ 16
  early : n < 8 → s.m.bits = 8 - n ∧ s.m.speaks = false ∧ s.m.waits = true ∧ s.m.next = b
  late : 8 ≤ n → n ≤ 15 → s.m.bits = 16 - n ∧ s.m.speaks = true ∧ s.m.waits = false ∧ s.m.row = b / 2 ^ (n - 8)
/-- The level behind the next step. -/
def stepW (b : Int) (n : Nat) (want : Int) : Int :=
  if n < 8 then want
  else if b / 2 ^ (n - 8) % 2 = 1 then (if want ≤ 125 then want + 2 else want) else (if 2 ≤ want then want - 2 else want)
theorem stp_rest {R b : Int} {k n : Nat} {want : Int} {s : Sound} (h : Stp R b k n want s) (ht : 0 < s.m.timer) : Stp R b (k + 1) n want s.clock := by
  have e : s.m.clock = { s.m with timer := s.m.timer - 1 } := by unfold Smp.clock; rw [if_pos ht]
  have em := clock_m s
  rw [e] at em
  obtain ⟨hs, hq, hl, htm, htb, hle, he, hla⟩ := h
  refine ⟨hs.clock, by rw [em]; exact hq, by rw [em]; exact hl, ?_, ?_, hle, by rw [em]; exact he, by rw [em]; exact hla⟩
  · rw [em]; dsimp only; push_cast; omega
  · rw [em]; dsimp only; omega
theorem stp_step {R b : Int} (h0 : 0 ≤ R ∧ R ≤ 15) {k n : Nat} {want : Int} {s : Sound} (h : Stp R b k n want s) (ht : ¬ 0 < s.m.timer) (hn : n ≤ 15) : Stp R b (k + 1) (n + 1) (stepW b n want) s.clock := by
  have hr := rateOf_bd R h0.1 h0.2
  obtain ⟨hs, hq, hl, htm, htb, hle, he, hla⟩ := h
  have em := clock_m s
  have ht0 : s.m.timer = 0 := by omega
  have e : s.m.clock = Smp.shift (Smp.bit { s.m with timer := rateOf R - 1 }) := by unfold Smp.clock; rw [if_neg ht, hq]
  rw [e] at em
  have htime : ((k + 1 : Nat) : Int) + (rateOf R - 1) = ((n + 1 : Nat) : Int) * rateOf R := by
    rw [ht0] at htm
    push_cast
    rw [Int.add_mul]
    omega
  by_cases h8 : n < 8
  · obtain ⟨b1, b2, b3, b4⟩ := he h8
    have e2 : Smp.bit { s.m with timer := rateOf R - 1 } = { s.m with timer := rateOf R - 1 } := by unfold Smp.bit; rw [if_pos (by exact b2)]
    rw [e2] at em
    unfold Smp.shift at em
    dsimp only at em
    by_cases h7 : n = 7
    · rw [if_neg (by omega), if_pos b3] at em
      refine ⟨hs.clock, ?_, ?_, ?_, ?_, by omega, by omega, ?_⟩
      · rw [em]; exact hq
      · rw [em]; unfold stepW; rw [if_pos h8]; exact hl
      · rw [em]; exact htime
      · rw [em]; dsimp only; omega
      · rw [em]; intro _ _; dsimp only; subst h7; exact ⟨by omega, rfl, rfl, by rw [b4]; simp⟩
    · rw [if_pos (by omega)] at em
      refine ⟨hs.clock, ?_, ?_, ?_, ?_, by omega, ?_, by omega⟩
      · rw [em]; exact hq
      · rw [em]; unfold stepW; rw [if_pos h8]; exact hl
      · rw [em]; exact htime
      · rw [em]; dsimp only; omega
      · rw [em]; intro _; dsimp only; exact ⟨by omega, b2, b3, b4⟩
  · obtain ⟨b1, b2, b3, b4⟩ := hla (by omega) hn
    have hlev : stepW b n want = if s.m.row % 2 = 1 then (if s.m.level ≤ 125 then s.m.level + 2 else s.m.level) else (if 2 ≤ s.m.level then s.m.level - 2 else s.m.level) := by
      unfold stepW; rw [if_neg h8, b4, hl]
    unfold Smp.bit at em
    dsimp only at em
    rw [if_neg (by rw [b2]; simp)] at em
    unfold Smp.shift at em
    dsimp only at em
    by_cases h15 : n = 15
    · rw [if_neg (by omega), if_neg (by rw [b3]; simp)] at em
      refine ⟨hs.clock, ?_, ?_, ?_, ?_, by omega, by omega, by omega⟩
      · rw [em]; exact hq
      · rw [em, hlev]
      · rw [em]; exact htime
      · rw [em]; dsimp only; omega
    · rw [if_pos (by omega)] at em
      refine ⟨hs.clock, ?_, ?_, ?_, ?_, by omega, by omega, ?_⟩
      · rw [em]; exact hq
      · rw [em, hlev]
      · rw [em]; exact htime
      · rw [em]; dsimp only; omega
      · rw [em]; intro _ _; dsimp only; refine ⟨by omega, b2, b3, ?_⟩
        rw [b4, show n + 1 - 8 = (n - 8) + 1 by omega, Int.pow_succ, Int.ediv_ediv_of_nonneg (Int.pow_nonneg (by decide))]
theorem stp_mod {R b : Int} {k n : Nat} {want : Int} {s : Sound} (h : Stp R b k n want s) : (k : Int) % rateOf R = 0 ↔ s.m.timer = 0 := by
  obtain ⟨hs, hq, hl, htm, htb, hle, he, hla⟩ := h
  have hk : (k : Int) = n * rateOf R - s.m.timer := by omega
  rw [hk]
  constructor
  · intro h
    have h2 := (Int.emod_emod_of_dvd (n * rateOf R - s.m.timer) (Int.dvd_refl (rateOf R)))
    have h3 : (s.m.timer) % rateOf R = 0 := by
      have hd : rateOf R ∣ n * rateOf R - s.m.timer := Int.dvd_of_emod_eq_zero h
      have hd2 : rateOf R ∣ n * rateOf R := Int.dvd_mul_left _ _
      have := Int.dvd_sub hd2 hd
      rw [Int.sub_sub_self] at this
      exact Int.emod_eq_zero_of_dvd this
    rwa [Int.emod_eq_of_lt htb.1 htb.2] at h3
  · intro h
    rw [h, Int.sub_zero, Int.mul_emod_left]
theorem stp_end {R b : Int} (h0 : 0 ≤ R ∧ R ≤ 15) {k n : Nat} {want : Int} {s : Sound} (h : Stp R b k n want s) (hk : (k : Int) = 15 * rateOf R + 1) : n = 16 := by
  have hr := rateOf_bd R h0.1 h0.2
  obtain ⟨hs, hq, hl, htm, htb, hle, he, hla⟩ := h
  rcases Nat.lt_or_ge n 16 with h | h
  · exfalso
    have : (n : Int) * rateOf R ≤ 15 * rateOf R := Int.mul_le_mul_of_nonneg_right (by omega) (by omega)
    omega
  · omega
theorem stp_more {R b : Int} (h0 : 0 ≤ R ∧ R ≤ 15) {k n : Nat} {want : Int} {s : Sound} (h : Stp R b k n want s) (hk : (k : Int) ≤ 15 * rateOf R) (ht : s.m.timer = 0) : n ≤ 15 := by
  have hr := rateOf_bd R h0.1 h0.2
  obtain ⟨hs, hq, hl, htm, htb, hle, he, hla⟩ := h
  rcases Nat.lt_or_ge n 16 with h | h
  · omega
  · exfalso
    have : n = 16 := by omega
    subst this
    push_cast at htm
    omega
/- the beginning -/
def endB (e : Int) : Bool := decide (e / 64 % 2 = 1)
structure SmpStart (rate place level e : Int) (s : Sound) : Prop where
  still : Still s
  q0 : s.m.q0 = rate % 16 + e / 64 * 64
  level : s.m.level = level % 128
  q2 : s.m.q2 = place
  q3 : s.m.q3 = 0
  waits : s.m.waits = false
  at_ : s.m.at_ = 49152 + 64 * place
  left : s.m.left = 1
  mirq : s.m.irq = false
  irq : s.irq = false
  bits : s.m.bits = 8
  speaks : s.m.speaks = false
  timer : s.m.timer = 0
theorem start_at (rate place level e b : Int) : SmpStart rate place level e (smpS rate place level e b) := by
  unfold smpS
  constructor
  · constructor <;> simp [Sound.put, Sound.enable, Sound.new, Tone.new, Tone.enable]
  all_goals simp [Sound.put, Sound.enable, Sound.new, Tone.new, Tone.enable, Smp.put, Smp.enable, Smp.new]
theorem start_asks {rate place level e : Int} {s : Sound} (h : SmpStart rate place level e s) : s.m.asks = true := by
  unfold Smp.asks; rw [h.waits, h.left]; rfl
theorem start_given {rate place level e : Int} (he : 0 ≤ e ∧ e ≤ 255) {s : Sound} (h : SmpStart rate place level e s) (b : Int) :
    Stp (rate % 16) b 0 0 (level % 128) (s.give b) ∧ (s.give b).m.asks = false ∧ (s.give b).asking = decide (e / 64 * 64 = 128) ∧ (s.give b).get / 16 % 2 * 16 = e / 64 % 2 * 16 ∧ (s.give b).irq = false := by
  have ha := start_asks h
  obtain ⟨hs, q0, hl, q2, q3, hw, hat, hle, hmi, hi, hb, hsp, hti⟩ := h
  have hb' : ∀ (x : Bool) (m : Int), b2i x m = 0 ∨ b2i x m = m := fun x m => by unfold b2i; split <;> omega
  have hr := rateOf_bd (rate % 16) (by omega) (by omega)
  have hget : ∀ t : Sound, t.get / 16 % 2 * 16 = b2i (decide (0 < t.m.left)) 16 := by
    intro t
    unfold Sound.get
    have h0 := hb' (decide (0 < t.t0.length)) 1
    have h1 := hb' (decide (0 < t.t1.length)) 2
    have h2 := hb' (decide (0 < t.t2.length)) 4
    have h3 := hb' (decide (0 < t.t3.length)) 8
    have h4 := hb' (decide (0 < t.m.left)) 16
    have h5 := hb' t.irq 64
    have h6 := hb' t.m.irq 128
    omega
  have em : (s.give b).m = s.m.give b := rfl
  unfold Smp.give at em
  rw [if_neg (by rw [ha]; simp), if_neg (by omega)] at em
  by_cases hc : s.m.q0 / 64 % 2 = 1
  · rw [if_pos hc] at em
    refine ⟨⟨hs.tones rfl rfl rfl rfl, ?_, ?_, ?_, ?_, by omega, ?_, by omega⟩, ?_, ?_, ?_, hi⟩
    · rw [em]; dsimp only; omega
    · rw [em]; exact hl
    · rw [em]; dsimp only; rw [hti]; simp
    · rw [em]; dsimp only; omega
    · rw [em]; intro _; exact ⟨hb, hsp, rfl, rfl⟩
    · unfold Smp.asks; rw [em]; rfl
    · show (s.irq || (s.give b).m.irq) = _
      rw [em, hi, hmi]; simp; omega
    · rw [hget, em]; dsimp only; rw [q3]; simp [b2i]; omega
  · rw [if_neg hc] at em
    refine ⟨⟨hs.tones rfl rfl rfl rfl, ?_, ?_, ?_, ?_, by omega, ?_, by omega⟩, ?_, ?_, ?_, hi⟩
    · rw [em]; dsimp only; omega
    · rw [em]; exact hl
    · rw [em]; dsimp only; rw [hti]; simp
    · rw [em]; dsimp only; omega
    · rw [em]; intro _; exact ⟨hb, hsp, rfl, rfl⟩
    · unfold Smp.asks; rw [em]; rfl
    · show (s.irq || (s.give b).m.irq) = _
      rw [em, hi]; dsimp only; rw [hmi]
      rw [Bool.eq_iff_iff]; simp; omega
    · rw [hget, em]; dsimp only; rw [hle]; simp [b2i]; omega
theorem Stp.got {R b : Int} {k n : Nat} {want : Int} {s : Sound} (h : Stp R b k n want s) : Stp R b k n want s.got :=
  ⟨h.still.tones rfl rfl rfl rfl, h.q, h.level, h.time, h.timer, h.le, h.early, h.late⟩
theorem Stp.out {R b : Int} {k n : Nat} {want : Int} {s : Sound} (h : Stp R b k n want s) : s.out = 12765 + 335 * want := by
  rw [h.still.out, h.level]
end Go.Proofs.YtonhhjihmbcfnaaDoor

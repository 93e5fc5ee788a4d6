/- The plain tone: numbers alone; one step of each kind. -/
namespace Go.Proofs.YtonhhjihmbcfnaaDoor
structure Tone where
  kind : Int
  on : Bool
  r0 : Int
  r1 : Int
  r2 : Int
  r3 : Int
  length : Int
  period : Int
  timer : Int
  step : Int
  begins : Bool
  level : Int
  count : Int
  sweep : Int
  swept : Bool
  line : Int
  row : Int

def lens : List Int := [10, 254, 20, 2, 40, 4, 80, 6, 160, 8, 60, 10, 14, 12, 26, 14, 12, 16, 24, 18, 48, 20, 96, 22, 192, 24, 72, 26, 16, 28, 32, 30]
def noises : List Int := [4, 8, 16, 32, 64, 96, 128, 160, 202, 254, 380, 508, 762, 1016, 2034, 4068]
def duties : List Int := [64, 96, 120, 159]
def lengthOf (n : Int) : Int := lens.getD n.toNat 0
def noiseOf (n : Int) : Int := noises.getD n.toNat 0
def dutyOf (n : Int) : Int := duties.getD n.toNat 0

structure Tone.WF (t : Tone) : Prop where
  kind : 0 ≤ t.kind ∧ t.kind ≤ 3
  r0 : 0 ≤ t.r0 ∧ t.r0 ≤ 255
  r1 : 0 ≤ t.r1 ∧ t.r1 ≤ 255
  r2 : 0 ≤ t.r2 ∧ t.r2 ≤ 255
  r3 : 0 ≤ t.r3 ∧ t.r3 ≤ 255
  length : 0 ≤ t.length ∧ t.length ≤ 255
  period : 0 ≤ t.period ∧ t.period ≤ 4095
  timer : 0 ≤ t.timer ∧ t.timer ≤ 4095
  step : 0 ≤ t.step ∧ t.step ≤ 31
  small : t.kind ≤ 1 → t.step ≤ 7
  level : 0 ≤ t.level ∧ t.level ≤ 15
  count : 0 ≤ t.count ∧ t.count ≤ 15
  sweep : 0 ≤ t.sweep ∧ t.sweep ≤ 7
  line : 0 ≤ t.line ∧ t.line ≤ 127
  row : 0 ≤ t.row ∧ t.row ≤ 32767

def Tone.new (kind : Int) : Tone :=
  { kind, on := false, r0 := 0, r1 := 0, r2 := 0, r3 := 0, length := 0, period := if kind = 3 then 3 else 0, timer := 0, step := 0, begins := false, level := 0, count := 0, sweep := 0, swept := false, line := 0, row := 1 }

def Tone.setReg (t : Tone) (reg b : Int) : Tone :=
  if reg = 0 then { t with r0 := b } else if reg = 1 then { t with r1 := b } else if reg = 2 then { t with r2 := b } else { t with r3 := b }

def Tone.high (t : Tone) (b : Int) : Tone :=
  { t with length := if t.on then lengthOf (b / 8) else t.length, begins := true, period := if t.kind = 3 then t.period else t.period % 256 + b % 8 * 256, step := if t.kind ≤ 1 then 0 else t.step }

def Tone.put (t : Tone) (reg b : Int) : Tone :=
  if reg = 0 then { t with r0 := b }
  else if reg = 1 then { t with r1 := b, swept := true }
  else if reg = 2 then { t with r2 := b, period := if t.kind = 3 then noiseOf (b % 16) - 1 else t.period / 256 * 256 + b }
  else { t with r3 := b }.high b

def Tone.enable (t : Tone) (on : Bool) : Tone := { t with on := on, length := if on then t.length else 0 }

def Tone.clock (t : Tone) : Tone :=
  if 0 < t.timer then { t with timer := t.timer - 1 }
  else if t.kind = 2 then { t with timer := t.period, step := if 0 < t.length ∧ 0 < t.line then (t.step + 1) % 32 else t.step }
  else if t.kind = 3 then { t with timer := t.period, row := t.row / 2 + (t.row + (if 128 ≤ t.r2 then t.row / 64 else t.row / 2)) % 2 * 16384 }
  else { t with timer := t.period, step := (t.step + 1) % 8 }

def Tone.quarter (t : Tone) : Tone :=
  if t.kind = 2 then { t with line := if t.begins then t.r0 % 128 else if 0 < t.line then t.line - 1 else t.line, begins := t.begins && decide (128 ≤ t.r0) }
  else if t.begins then { t with begins := false, level := 15, count := t.r0 % 16 }
  else if 0 < t.count then { t with count := t.count - 1 }
  else { t with count := t.r0 % 16, level := if 0 < t.level then t.level - 1 else if t.r0 / 32 % 2 = 1 then 15 else t.level }

def halve (k : Nat) (n : Int) : Int := n / 2 ^ k

def Tone.target (t : Tone) : Int :=
  if t.r1 / 8 % 2 = 0 then t.period + halve (t.r1 % 8).toNat t.period
  else t.period - min (halve (t.r1 % 8).toNat t.period + if t.kind = 0 then 1 else 0) t.period

def Tone.mute (t : Tone) : Bool := decide (t.period < 8) || decide (2047 < t.target)

def Tone.held (t : Tone) : Bool := if t.kind = 2 then decide (128 ≤ t.r0) else decide (t.r0 / 32 % 2 = 1)

def Tone.half (t : Tone) : Tone :=
  let u := { t with length := if 0 < t.length ∧ t.held = false then t.length - 1 else t.length }
  if 1 < t.kind then u
  else { u with period := if t.sweep = 0 ∧ 128 ≤ t.r1 ∧ ¬ t.r1 % 8 = 0 ∧ t.mute = false then t.target else t.period, sweep := if t.sweep = 0 ∨ t.swept = true then t.r1 / 16 % 8 else t.sweep - 1, swept := false }

def Tone.volume (t : Tone) : Int := if t.r0 / 16 % 2 = 1 then t.r0 % 16 else t.level

def Tone.duty (t : Tone) : Bool := decide (dutyOf (t.r0 / 64) * 2 ^ t.step.toNat / 128 % 2 = 1)

def Tone.out (t : Tone) : Int :=
  if t.kind = 2 then (if t.step < 16 then 15 - t.step else t.step - 16)
  else if t.length = 0 then 0
  else if t.kind = 3 then (if t.row % 2 = 1 then 0 else t.volume)
  else if t.mute = true ∨ t.duty = false then 0 else t.volume

theorem lens_all (n : Nat) (h : n < 32) : 2 ≤ lens.getD n 0 ∧ lens.getD n 0 ≤ 254 := by
  have : ∀ n : Fin 32, 2 ≤ lens.getD n.val 0 ∧ lens.getD n.val 0 ≤ 254 := by decide +kernel
  exact this ⟨n, h⟩
theorem lengthOf_bd (n : Int) (h0 : 0 ≤ n) (h : n ≤ 31) : 2 ≤ lengthOf n ∧ lengthOf n ≤ 254 := lens_all n.toNat (by omega)
theorem noises_all (n : Nat) (h : n < 16) : 4 ≤ noises.getD n 0 ∧ noises.getD n 0 ≤ 4068 := by
  have : ∀ n : Fin 16, 4 ≤ noises.getD n.val 0 ∧ noises.getD n.val 0 ≤ 4068 := by decide +kernel
  exact this ⟨n, h⟩
theorem noiseOf_bd (n : Int) (h0 : 0 ≤ n) (h : n ≤ 15) : 4 ≤ noiseOf n ∧ noiseOf n ≤ 4068 := noises_all n.toNat (by omega)

theorem halve_bd (k : Nat) (n : Int) (h : 0 ≤ n) : 0 ≤ halve k n ∧ halve k n ≤ n :=
  ⟨Int.ediv_nonneg h (Int.pow_nonneg (by decide)), Int.ediv_le_self _ h⟩

theorem Tone.target_bd {t : Tone} (h : t.WF) : 0 ≤ t.target ∧ t.target ≤ 8190 := by
  have hp := h.period
  have hb := halve_bd (t.r1 % 8).toNat t.period hp.1
  unfold Tone.target
  split
  · omega
  · split <;> omega

theorem Tone.WF.new {k : Int} (h : 0 ≤ k ∧ k ≤ 3) : (Tone.new k).WF := by
  constructor <;> (try exact h) <;> (try (unfold Tone.new; dsimp only)) <;> (try (split)) <;> omega

theorem Tone.WF.put {t : Tone} (h : t.WF) {reg b : Int} (hb : 0 ≤ b ∧ b ≤ 255) : (t.put reg b).WF := by
  have hl := lengthOf_bd (b / 8) (by omega) (by omega)
  have hn := noiseOf_bd (b % 16) (by omega) (by omega)
  obtain ⟨h1, h2, h3, h4, h5, h6, h7, h8, h9, hs, h10, h11, h12, h13, h14⟩ := h
  constructor <;> unfold Tone.put <;> (repeat' split) <;> simp only [Tone.high] <;> (repeat' split) <;> first | assumption | omega | (intro hk; first | exact hs hk | omega)

theorem Tone.WF.enable {t : Tone} (h : t.WF) (on : Bool) : (t.enable on).WF := by
  obtain ⟨h1, h2, h3, h4, h5, h6, h7, h8, h9, hs, h10, h11, h12, h13, h14⟩ := h
  constructor <;> unfold Tone.enable <;> dsimp only <;> (repeat' split) <;> first | assumption | omega

theorem Tone.WF.clock {t : Tone} (h : t.WF) : t.clock.WF := by
  obtain ⟨h1, h2, h3, h4, h5, h6, h7, h8, h9, hs, h10, h11, h12, h13, h14⟩ := h
  constructor <;> unfold Tone.clock <;> (repeat' split) <;> dsimp only <;> (repeat' split) <;> first | assumption | omega

theorem Tone.WF.quarter {t : Tone} (h : t.WF) : t.quarter.WF := by
  obtain ⟨h1, h2, h3, h4, h5, h6, h7, h8, h9, hs, h10, h11, h12, h13, h14⟩ := h
  constructor <;> unfold Tone.quarter <;> (repeat' split) <;> dsimp only <;> (repeat' split) <;> first | assumption | omega

theorem Tone.WF.half {t : Tone} (h : t.WF) : t.half.WF := by
  have hm : (t.sweep = 0 ∧ 128 ≤ t.r1 ∧ ¬ t.r1 % 8 = 0 ∧ t.mute = false) → t.target ≤ 2047 := by
    intro h; have h := h.2.2.2; unfold Tone.mute at h; simp at h; omega
  have ht := t.target_bd h
  obtain ⟨h1, h2, h3, h4, h5, h6, h7, h8, h9, hs, h10, h11, h12, h13, h14⟩ := h
  have hl : 0 ≤ (if 0 < t.length ∧ t.held = false then t.length - 1 else t.length) ∧ (if 0 < t.length ∧ t.held = false then t.length - 1 else t.length) ≤ 255 := by split <;> omega
  unfold Tone.half
  dsimp only
  split
  · exact ⟨h1, h2, h3, h4, h5, hl, h7, h8, h9, hs, h10, h11, h12, h13, h14⟩
  · refine ⟨h1, h2, h3, h4, h5, hl, ?_, h8, h9, hs, h10, h11, ?_, h13, h14⟩
    · dsimp only
      split
      · rename_i a; have := hm a; omega
      · exact h7
    · dsimp only
      split <;> omega

theorem Tone.clock_kind (t : Tone) : t.clock.kind = t.kind := by unfold Tone.clock; (repeat' split) <;> rfl
theorem Tone.quarter_kind (t : Tone) : t.quarter.kind = t.kind := by unfold Tone.quarter; (repeat' split) <;> rfl
theorem Tone.half_kind (t : Tone) : t.half.kind = t.kind := by unfold Tone.half; dsimp only; (repeat' split) <;> rfl
theorem Tone.put_kind (t : Tone) (r b : Int) : (t.put r b).kind = t.kind := by unfold Tone.put; (repeat' split) <;> rfl
theorem Tone.enable_kind (t : Tone) (o : Bool) : (t.enable o).kind = t.kind := rfl

theorem Tone.out_bd {t : Tone} (h : t.WF) : 0 ≤ t.out ∧ t.out ≤ 15 := by
  obtain ⟨h1, h2, h3, h4, h5, h6, h7, h8, h9, hs, h10, h11, h12, h13, h14⟩ := h
  unfold Tone.out Tone.volume
  (repeat' split) <;> omega
end Go.Proofs.YtonhhjihmbcfnaaDoor

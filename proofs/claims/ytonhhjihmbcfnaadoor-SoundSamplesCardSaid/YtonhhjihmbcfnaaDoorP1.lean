/- The plain law of SoundLengths. -/
import Derived.Test.YtonhhjihmbcfnaaDoorSoundM
namespace Go.Proofs.YtonhhjihmbcfnaaDoor
def stL (on V : Int) : Sound := ((((Sound.new.put 16405 on).put 16387 V).put 16391 V).put 16395 V).put 16399 V
def itL : Nat → Sound → Sound
  | 0, s => s
  | n + 1, s => (itL n s).put 16407 192

/-- Each tone's length is that, register 0 is 0, and so is its kind. -/
structure Lens (s : Sound) (a b c d : Int) : Prop where
  l0 : s.t0.length = a
  l1 : s.t1.length = b
  l2 : s.t2.length = c
  l3 : s.t3.length = d
  q0 : s.t0.r0 = 0
  q1 : s.t1.r0 = 0
  q2 : s.t2.r0 = 0
  q3 : s.t3.r0 = 0

theorem qh_len (t : Tone) (h : t.r0 = 0) : t.quarter.half.length = (if 0 < t.length then t.length - 1 else t.length) ∧ t.quarter.half.r0 = 0 := by
  have hq : t.quarter.length = t.length ∧ t.quarter.r0 = 0 := by
    unfold Tone.quarter
    (repeat' split) <;> exact ⟨rfl, h⟩
  have hh : t.quarter.held = false := by unfold Tone.held; rw [hq.2]; simp
  have h2 : ∀ u : Tone, u.r0 = 0 → u.held = false → u.half.length = (if 0 < u.length then u.length - 1 else u.length) ∧ u.half.r0 = 0 := by
    intro u h0 h1
    unfold Tone.half
    dsimp only
    split <;> simp only [h1, and_true] <;> exact ⟨trivial, h0⟩
  have := h2 _ hq.2 hh
  rw [hq.1] at this
  exact this

theorem put_192 (s : Sound) {a b c d : Int} (h : Lens s a b c d) :
    Lens (s.put 16407 192) (if 0 < a then a - 1 else a) (if 0 < b then b - 1 else b) (if 0 < c then c - 1 else c) (if 0 < d then d - 1 else d) := by
  obtain ⟨rfl, rfl, rfl, rfl, q0, q1, q2, q3⟩ := h
  have e : s.put 16407 192 = s.restart 192 := by unfold Sound.put; simp
  rw [e]
  unfold Sound.restart
  dsimp only
  rw [if_pos (by decide)]
  have h0 := qh_len s.t0 q0
  have h1 := qh_len s.t1 q1
  have h2 := qh_len s.t2 q2
  have h3 := qh_len s.t3 q3
  exact ⟨h0.1, h1.1, h2.1, h3.1, h0.2, h1.2, h2.2, h3.2⟩

theorem itL_lens (n : Nat) (s : Sound) {a b c d : Int} (h : Lens s a b c d) (ha : 0 ≤ a) (hb : 0 ≤ b) (hc : 0 ≤ c) (hd : 0 ≤ d) :
    Lens (itL n s) (max (a - n) 0) (max (b - n) 0) (max (c - n) 0) (max (d - n) 0) := by
  induction n with
  | zero =>
    rw [show max (a - (0 : Nat)) 0 = a by omega, show max (b - (0 : Nat)) 0 = b by omega, show max (c - (0 : Nat)) 0 = c by omega, show max (d - (0 : Nat)) 0 = d by omega]
    exact h
  | succ n ih =>
    have := put_192 _ ih
    have e : ∀ x : Int, 0 ≤ x → (if 0 < max (x - n) 0 then max (x - n) 0 - 1 else max (x - n) 0) = max (x - ((n + 1 : Nat) : Int)) 0 := by
      intro x hx; split <;> omega
    rw [e a ha, e b hb, e c hc, e d hd] at this
    exact this

def onB (on i L : Int) : Int := if on / i % 2 = 1 then L else 0
theorem stL_lens (on V : Int) (L : Int) (hL : lengthOf (V / 8) = L) : Lens (stL on V) (onB on 1 L) (onB on 2 L) (onB on 4 L) (onB on 8 L) := by
  unfold onB
  constructor <;> simp [stL, Sound.put, Sound.putTone, Sound.enable, Sound.new, Tone.put, Tone.high, Tone.enable, Tone.new, hL]

theorem get_mod (s : Sound) : s.get % 16 = b2i (decide (0 < s.t0.length)) 1 + b2i (decide (0 < s.t1.length)) 2 + b2i (decide (0 < s.t2.length)) 4 + b2i (decide (0 < s.t3.length)) 8 := by
  have hb : ∀ (x : Bool) (m : Int), b2i x m = 0 ∨ b2i x m = m := fun x m => by unfold b2i; split <;> omega
  unfold Sound.get
  have h0 := hb (decide (0 < s.t0.length)) 1
  have h1 := hb (decide (0 < s.t1.length)) 2
  have h2 := hb (decide (0 < s.t2.length)) 4
  have h3 := hb (decide (0 < s.t3.length)) 8
  have h4 := hb (decide (0 < s.m.left)) 16
  have h5 := hb s.irq 64
  have h6 := hb s.m.irq 128
  omega
theorem get_bd (s : Sound) : 0 ≤ s.get ∧ s.get ≤ 255 := by
  have hb : ∀ (x : Bool) (m : Int), b2i x m = 0 ∨ b2i x m = m := fun x m => by unfold b2i; split <;> omega
  unfold Sound.get
  have h0 := hb (decide (0 < s.t0.length)) 1
  have h1 := hb (decide (0 < s.t1.length)) 2
  have h2 := hb (decide (0 < s.t2.length)) 4
  have h3 := hb (decide (0 < s.t3.length)) 8
  have h4 := hb (decide (0 < s.m.left)) 16
  have h5 := hb s.irq 64
  have h6 := hb s.m.irq 128
  omega
theorem lengths_law (on V : Int) (n : Nat) (L : Int) (hL : lengthOf (V / 8) = L) (h2 : 2 ≤ L) :
    (itL n (stL on V)).get % 16 = if (n : Int) < L then on % 16 else 0 := by
  have hs := stL_lens on V L hL
  have hp : ∀ i, 0 ≤ onB on i L := fun i => by unfold onB; split <;> omega
  have h := itL_lens n _ hs (hp _) (hp _) (hp _) (hp _)
  rw [get_mod, h.l0, h.l1, h.l2, h.l3]
  unfold onB b2i
  simp only [decide_eq_true_eq]
  split
  · (repeat' split) <;> omega
  · (repeat' split) <;> omega
end Go.Proofs.YtonhhjihmbcfnaaDoor

/- Bits of small numbers as arithmetic. -/
import Derived.WalkKit
namespace Go.Proofs.YtonhhjihmbcfnaaDoor
theorem all256 {p : Int → Prop} (h : ∀ x : Fin 256, p (x.val : Int)) (x : Int) (h0 : 0 ≤ x) (h1 : x ≤ 255) : p x := by
  have := h ⟨x.toNat, by omega⟩
  simpa [Int.toNat_of_nonneg h0] using this
theorem and1 (x : Int) (h0 : 0 ≤ x) (h1 : x ≤ 255) : bits .and .u8 x 1 = x % 2 := all256 (p := fun x => bits .and .u8 x 1 = x % 2) (by decide +kernel) x h0 h1
theorem and7 (x : Int) (h0 : 0 ≤ x) (h1 : x ≤ 255) : bits .and .u8 x 7 = x % 8 := all256 (p := fun x => bits .and .u8 x 7 = x % 8) (by decide +kernel) x h0 h1
theorem and8 (x : Int) (h0 : 0 ≤ x) (h1 : x ≤ 255) : bits .and .u8 x 8 = x / 8 % 2 * 8 := all256 (p := fun x => bits .and .u8 x 8 = x / 8 % 2 * 8) (by decide +kernel) x h0 h1
theorem and15 (x : Int) (h0 : 0 ≤ x) (h1 : x ≤ 255) : bits .and .u8 x 15 = x % 16 := all256 (p := fun x => bits .and .u8 x 15 = x % 16) (by decide +kernel) x h0 h1
theorem and16 (x : Int) (h0 : 0 ≤ x) (h1 : x ≤ 255) : bits .and .u8 x 16 = x / 16 % 2 * 16 := all256 (p := fun x => bits .and .u8 x 16 = x / 16 % 2 * 16) (by decide +kernel) x h0 h1
theorem and32 (x : Int) (h0 : 0 ≤ x) (h1 : x ≤ 255) : bits .and .u8 x 32 = x / 32 % 2 * 32 := all256 (p := fun x => bits .and .u8 x 32 = x / 32 % 2 * 32) (by decide +kernel) x h0 h1
theorem and64 (x : Int) (h0 : 0 ≤ x) (h1 : x ≤ 255) : bits .and .u8 x 64 = x / 64 % 2 * 64 := all256 (p := fun x => bits .and .u8 x 64 = x / 64 % 2 * 64) (by decide +kernel) x h0 h1
theorem and127 (x : Int) (h0 : 0 ≤ x) (h1 : x ≤ 255) : bits .and .u8 x 127 = x % 128 := all256 (p := fun x => bits .and .u8 x 127 = x % 128) (by decide +kernel) x h0 h1
theorem and128 (x : Int) (h0 : 0 ≤ x) (h1 : x ≤ 255) : bits .and .u8 x 128 = x / 128 * 128 := all256 (p := fun x => bits .and .u8 x 128 = x / 128 * 128) (by decide +kernel) x h0 h1
theorem andNot128 (x : Int) (h0 : 0 ≤ x) (h1 : x ≤ 255) : bits .andNot .u8 x 128 = x % 128 := all256 (p := fun x => bits .andNot .u8 x 128 = x % 128) (by decide +kernel) x h0 h1
theorem and255 (x : Int) (h0 : 0 ≤ x) (h1 : x ≤ 4095) : bits .and .u16 x 255 = x % 256 :=
  bits_mask .u16 16 (by decide) (fun n h0 h1 => by simp [IntKind.wrap, IntKind.bits, IntKind.signed]; omega) 8 (by decide) x h0 (by omega)
theorem wraps_u16 (n : Int) (h₀ : 0 ≤ n) (h₁ : n < 2 ^ 16) : IntKind.u16.wrap n = n := by simp [IntKind.wrap, IntKind.bits, IntKind.signed]; omega
theorem or_comm (k : IntKind) (x y : Int) : bits .or k x y = bits .or k y x := by simp only [bits, BitVec.or_comm]
theorem or256 (x y : Int) (h0 : 0 ≤ x) (h1 : x ≤ 255) (h2 : 0 ≤ y) (h3 : y ≤ 255) : bits .or .u16 x (y * 256) = x + y * 256 := by
  rw [or_comm, bits_join .u16 16 (by decide) wraps_u16 8 (y * 256) x (by omega) (by omega) (by omega) h0 (by omega) (by omega)]; omega
theorem or_low (x y : Int) (h0 : 0 ≤ x) (h1 : x ≤ 65535) (h2 : 0 ≤ y) (h3 : y ≤ 255) : bits .or .u16 (x / 256 * 256) y = x / 256 * 256 + y :=
  bits_join .u16 16 (by decide) wraps_u16 8 (x / 256 * 256) y (by omega) (by omega) (by omega) h2 (by omega) (by omega)
theorem andNot_nat (k : IntKind) (x y : Int) : bits .andNot k x y = k.wrap ((BitVec.ofInt k.bits x &&& ~~~ BitVec.ofInt k.bits y).toNat : Int) := rfl
theorem andNot255 (x : Int) (h0 : 0 ≤ x) (h1 : x ≤ 65535) : bits .andNot .u16 x 255 = x / 256 * 256 := by
  obtain ⟨n, rfl⟩ := Int.eq_ofNat_of_zero_le h0
  have hn : n < 65536 := by omega
  have e : ((BitVec.ofInt 16 (n : Int)) &&& ~~~ BitVec.ofInt 16 255) = BitVec.ofNat 16 (n / 256 * 256) := by
    apply BitVec.eq_of_toNat_eq
    rw [BitVec.ofInt_natCast]
    simp only [BitVec.toNat_and, BitVec.toNat_ofNat, BitVec.toNat_not]
    apply Nat.eq_of_testBit_eq
    intro i
    have : (2 ^ 16 - 1 - (BitVec.ofInt 16 255).toNat) = 255 * 256 := by decide
    rw [this]
    by_cases hi : i < 16
    · have : ∀ i : Fin 16, Nat.testBit (255 * 256) i.val = decide (8 ≤ i.val) := by decide
      have t := this ⟨i, hi⟩
      simp only at t
      rw [Nat.testBit_and, t, show n / 256 * 256 = n / 2 ^ 8 * 2 ^ 8 from rfl, Nat.testBit_mod_two_pow, Nat.testBit_mod_two_pow, Nat.testBit_mul_two_pow, Nat.testBit_div_two_pow]
      by_cases h8 : 8 ≤ i
      · simp [hi, h8, show i - 8 + 8 = i by omega]
      · simp [h8]
    · rw [Nat.testBit_and, Nat.testBit_mod_two_pow, Nat.testBit_mod_two_pow]
      simp [hi]
  rw [andNot_nat]
  show IntKind.u16.wrap (((BitVec.ofInt 16 (n : Int)) &&& ~~~ BitVec.ofInt 16 255).toNat : Int) = _
  rw [e, BitVec.toNat_ofNat, wraps_u16 _ (by omega) (by omega)]
  omega
theorem xor1 (x y : Int) (h0 : 0 ≤ x) (h1 : x ≤ 65535) (h2 : 0 ≤ y) (h3 : y ≤ 65535) : bits .and .u16 (bits .xor .u16 x y) 1 = (x + y) % 2 := by
  obtain ⟨n, rfl⟩ := Int.eq_ofNat_of_zero_le h0
  obtain ⟨m, rfl⟩ := Int.eq_ofNat_of_zero_le h2
  have e : bits .xor .u16 (n : Int) (m : Int) = ((n ^^^ m : Nat) : Int) := by
    simp only [bits, BitVec.ofInt_natCast, BitVec.toNat_xor, BitVec.toNat_ofNat]
    have h : n ^^^ m < 2 ^ 16 := Nat.xor_lt_two_pow (by omega) (by omega)
    have hk : IntKind.u16.bits = 16 := rfl
    rw [hk, Nat.mod_eq_of_lt (show n < 2 ^ 16 by omega), Nat.mod_eq_of_lt (show m < 2 ^ 16 by omega)]
    exact wraps_u16 _ (by omega) (by exact_mod_cast h)
  rw [e]
  have hx : n ^^^ m < 2 ^ 16 := Nat.xor_lt_two_pow (by omega) (by omega)
  have this : bits .and .u16 ((n ^^^ m : Nat) : Int) 1 = ((n ^^^ m : Nat) : Int) % 2 := bits_mask .u16 16 (by decide) wraps_u16 1 (by decide) ((n ^^^ m : Nat) : Int) (by omega) (by exact_mod_cast hx)
  rw [this]
  have h2 : (n ^^^ m) % 2 = (n + m) % 2 := by
    have e := Nat.xor_mod_two_pow (a := n) (b := m) (n := 1)
    simp only [Nat.pow_one] at e
    rw [e]
    rcases Nat.mod_two_eq_zero_or_one n with a | a <;> rcases Nat.mod_two_eq_zero_or_one m with c | c <;> rw [a, c] <;> simp <;> omega
  omega
theorem or14 (x y : Int) (h0 : 0 ≤ x) (h1 : x ≤ 16383) (h2 : 0 ≤ y) (h3 : y ≤ 1) : bits .or .u16 x (y * 16384) = x + y * 16384 := by
  rw [or_comm, bits_join .u16 16 (by decide) wraps_u16 14 (y * 16384) x (by omega) (by omega) (by omega) h0 (by omega) (by omega)]; omega
theorem and1w (x : Int) (h0 : 0 ≤ x) (h1 : x ≤ 65535) : bits .and .u16 x 1 = x % 2 :=
  bits_mask .u16 16 (by decide) wraps_u16 1 (by decide) x h0 (by omega)
end Go.Proofs.YtonhhjihmbcfnaaDoor

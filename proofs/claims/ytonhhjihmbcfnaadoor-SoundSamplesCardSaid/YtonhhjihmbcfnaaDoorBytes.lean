/- A list of bytes as an argument: its cells. -/
import Derived.Test.YtonhhjihmbcfnaaDoorActs
namespace Go.Proofs.YtonhhjihmbcfnaaDoor
open Go.RowKit Go.ChangeShapes Go.WideShapes Go.Deep
set_option linter.unusedSimpArgs false
set_option linter.unusedVariables false
/-- The slice reads as these bytes. -/
structure BytesAt (w : World) (v : Value) (b o : Nat) (a : Option Addr) (l : List Int) (cap : Nat) : Prop where
  val : v = .slice a l.length cap
  addr : 0 < l.length → a = some ⟨b, o, none⟩ ∧ b < w.heap.size
  len : l.length ≤ maxLen
  wf : ∀ x, x ∈ l → 0 ≤ x ∧ x ≤ 255
  cells : ∀ (i : Nat) (x : Int), l[i]? = some x → w.cell? ⟨b, o + i, none⟩ = some (.int .u8 x)
theorem BytesAt.upd {w w' : World} {v : Value} {b o : Nat} {a : Option Addr} {l : List Int} {cap : Nat} (h : BytesAt w v b o a l cap) (hu : Upd [] w w') : BytesAt w' v b o a l cap := by
  have hc : 0 < l.length → ∀ j, w'.cell? ⟨b, j, none⟩ = w.cell? ⟨b, j, none⟩ := fun hl j => World.cell?_of_block (w := w) (hu.block b (h.addr hl).2 (by simp))
  refine ⟨h.val, fun hl => ⟨(h.addr hl).1, Nat.lt_of_lt_of_le (h.addr hl).2 hu.size⟩, h.len, h.wf, fun i x hx => ?_⟩
  have hl : 0 < l.length := by
    have := (List.getElem?_eq_some_iff.1 hx).1
    omega
  rw [hc hl]
  exact h.cells i x hx
theorem bytes_of {H : Type} {enc : TypeId × Value → H} {W : World} {v : Value} {d : DataW H} {p : List MemPlace} (h : DataW.Trod enc Tryd.prog W 0 (fun _ => true) true 55 v d p) (hv : ∃ a len cap, v = .slice a len cap) :
    ∃ (b o : Nat) (a : Option Addr) (l : List Int) (cap : Nat), BytesAt W v b o a l cap := by
  obtain ⟨a, len, cap, rfl⟩ := hv
  obtain ⟨fuel, hf⟩ := h
  have c5 : Tryd.prog.cellsOf 5 = 1 := by kernel_rfl
  rcases open_slice Tryd.underlying55 hf with ⟨hcs, hx⟩ | ⟨a', len', cap', m, n, D, Pl, hcs, hb, hl, hm, hmm, hx, hi⟩
  · simp only [Value.cells, List.cons.injEq, Value.slice.injEq, and_true] at hcs
    obtain ⟨rfl, rfl, rfl⟩ := hcs
    exact ⟨0, 0, none, [], 0, rfl, fun h => by simp at h, by simp [maxLen], fun x hx => by simp at hx, fun i x hx => by simp at hx⟩
  · simp only [Value.cells, List.cons.injEq, Value.slice.injEq, and_true] at hcs
    obtain ⟨rfl, rfl, rfl⟩ := hcs
    simp only [if_true] at hmm
    have key : ∀ i, i < len → ∃ x : Int, (0 ≤ x ∧ x ≤ 255) ∧ W.cell? (a'.add i) = some (.int .u8 x) := by
      intro i him
      obtain ⟨cs', hc, ht'⟩ := hi i (by omega)
      rw [c5] at hc
      obtain ⟨_, hcl, hat⟩ := World.cells?_some hc
      have h0 := hat 0 (by omega)
      obtain ⟨x0, e0, _, w0⟩ := DataW.trod_int Tryd.underlying5 ht'
      subst e0
      refine ⟨x0, lit_bd rfl rfl w0, ?_⟩
      rw [Nat.mul_one, Go.Deep.add_add] at h0
      simpa using h0
    obtain ⟨f, hfx⟩ : ∃ f : Nat → Int, ∀ i, i < len → (0 ≤ f i ∧ f i ≤ 255) ∧ W.cell? (a'.add i) = some (.int .u8 (f i)) :=
      ⟨fun i => if h : i < len then (key i h).choose else 0, fun i h => by simp only [h, dif_pos]; exact (key i h).choose_spec⟩
    have hlist : ((List.range len).map f).length = len := by simp
    have hspot : 0 < len → a' = ⟨a'.block, a'.off, none⟩ := by
      intro h0
      have := (hfx 0 h0).2
      obtain ⟨ab, ao, asp⟩ := a'
      cases asp with
      | none => rfl
      | some s =>
        exfalso
        have e : (⟨ab, ao, some s⟩ : Addr).add 0 = ⟨ab, ao, some s⟩ := by simp [Addr.add]
        rw [e] at this
        unfold World.cell? at this
        split at this <;> simp at this
    have hadd : 0 < len → ∀ n, a'.add n = ⟨a'.block, a'.off + n, none⟩ := by
      intro h0 n
      rw [hspot h0]
      exact add_none _ _ _
    refine ⟨a'.block, a'.off, some a', (List.range len).map f, cap, ?_, ?_, ?_, ?_, ?_⟩
    · rw [hlist]
    · rw [hlist]
      intro h0
      refine ⟨congrArg some (hspot h0), ?_⟩
      have hc := (hfx 0 h0).2
      unfold World.cell? at hc
      rw [hadd h0] at hc
      rcases Nat.lt_or_ge a'.block W.heap.size with h | h
      · exact h
      · rw [Array.getElem?_eq_none h] at hc; simp at hc
    · rw [hlist]; omega
    · intro x hx
      obtain ⟨i, hi, rfl⟩ := List.mem_map.1 hx
      exact (hfx i (by simpa using hi)).1
    · intro i x hx
      have hil : i < len := by have := (List.getElem?_eq_some_iff.1 hx).1; simpa using this
      have hxe : x = f i := by
        rw [List.getElem?_map, List.getElem?_range hil] at hx
        simpa using hx.symm
      subst hxe
      have h0 : 0 < len := by omega
      obtain ⟨_, k0⟩ := hfx i hil
      rw [hadd h0] at k0
      exact k0
end Go.Proofs.YtonhhjihmbcfnaaDoor

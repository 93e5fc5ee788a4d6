/- A list of acts as an argument: its cells. -/
import Derived.Test.YtonhhjihmbcfnaaDoorRows
import Derived.Test.YtonhhjihmbcfnaaDoorBase
import Derived.Deep.Slices
import Derived.Deep.Fields
import Derived.ChangeSame
import Derived.OpenShut
namespace Go.Proofs.YtonhhjihmbcfnaaDoor
open Go.RowKit Go.ChangeShapes Go.WideShapes Go.Deep
set_option linter.unusedSimpArgs false
set_option linter.unusedVariables false
structure Act where
  do_ : Int
  at_ : Int
  b : Int
  n : Int
structure Act.WF (x : Act) : Prop where
  do_ : 0 ≤ x.do_ ∧ x.do_ ≤ 255
  at_ : 0 ≤ x.at_ ∧ x.at_ ≤ 65535
  b : 0 ≤ x.b ∧ x.b ≤ 255
  n : 0 ≤ x.n ∧ x.n ≤ 65535
/-- The slice reads as these acts. -/
structure ActsAt (w : World) (v : Value) (b o : Nat) (a : Option Addr) (l : List Act) (cap : Nat) : Prop where
  val : v = .slice a l.length cap
  addr : 0 < l.length → a = some ⟨b, o, none⟩ ∧ b < w.heap.size
  len : l.length ≤ maxLen
  wf : ∀ x, x ∈ l → x.WF
  cells : ∀ (i : Nat) (x : Act), l[i]? = some x → w.cell? ⟨b, o + i * 4, none⟩ = some (.int .u8 x.do_) ∧ w.cell? ⟨b, o + i * 4 + 1, none⟩ = some (.int .u16 x.at_) ∧ w.cell? ⟨b, o + i * 4 + 2, none⟩ = some (.int .u8 x.b) ∧ w.cell? ⟨b, o + i * 4 + 3, none⟩ = some (.int .u16 x.n)
theorem ActsAt.upd {w w' : World} {v : Value} {b o : Nat} {a : Option Addr} {l : List Act} {cap : Nat} (h : ActsAt w v b o a l cap) (hu : Upd [] w w') : ActsAt w' v b o a l cap := by
  have hc : 0 < l.length → ∀ j, w'.cell? ⟨b, j, none⟩ = w.cell? ⟨b, j, none⟩ := fun hl j => World.cell?_of_block (w := w) (hu.block b (h.addr hl).2 (by simp))
  refine ⟨h.val, fun hl => ⟨(h.addr hl).1, Nat.lt_of_lt_of_le (h.addr hl).2 hu.size⟩, h.len, h.wf, fun i x hx => ?_⟩
  have hl : 0 < l.length := by
    have := (List.getElem?_eq_some_iff.1 hx).1
    omega
  rw [hc hl, hc hl, hc hl, hc hl]
  exact h.cells i x hx

section
variable {H : Type} {enc : TypeId × Value → H} {P : Program} {w : World} {base : Nat} {spare : Nat → Bool} {held : Bool}
/-- (after the guide's page on structs) a slice of structs of one-cell fields, cell by cell -/
theorem open_slice_fields {t e : TypeId} {fs : Array Field} {fuel : Nat} {cs : List Value} {x : DataW H × List MemPlace} (ht : P.underlying t = some (.slice e)) (he : P.underlying e = some (.struct fs))
    (hone : oneCellFields P fs = true) (hC : P.cellsOf e = fs.size) (h : DataW.trod enc P w base spare held fuel t cs = some x) :
    (cs = [.slice none 0 0] ∧ x = (.nil, [])) ∨
    ∃ (a : Addr) (len cap m : Nat) (D : Nat → DataW H) (Pl : Nat → List MemPlace), cs = [.slice (some a) len cap] ∧ base ≤ a.block ∧ len ≤ cap ∧ cap ≤ maxLen ∧ m = (if spare a.block then cap else len) ∧
      ∀ i, i < m → ∃ (ys : List (DataW H × List MemPlace)) (n : Nat), D i = .agg (ys.map (·.1)) ∧ Pl i = ys.flatMap (·.2) ∧ ys.length = fs.size ∧
        ∀ (j : Nat) (f : Field), fs[j]? = some f → ∃ (v : Value) (y : DataW H × List MemPlace), w.cell? (a.add (i * fs.size + j)) = some v ∧ ys[j]? = some y ∧ DataW.trod enc P w base spare held n f.type [v] = some y := by
  rcases open_slice ht h with h0 | ⟨a, len, cap, m, n, D, Pl, hcs, hb, hl, hm, hmm, hx, hi⟩
  · exact .inl h0
  · refine .inr ⟨a, len, cap, m, D, Pl, hcs, hb, hl, hm, hmm, fun i him => ?_⟩
    obtain ⟨cs', hc, ht'⟩ := hi i him
    rw [hC] at hc
    obtain ⟨ys, n', hn', hy, hlen, hyl, hf⟩ := DataW.trod_struct he ht'
    obtain ⟨_, hcl, hat⟩ := World.cells?_some hc
    simp only [Prod.mk.injEq] at hy
    refine ⟨ys, n', hy.1, hy.2, hyl, fun j f hj => ?_⟩
    obtain ⟨ho, hk⟩ := hone_of hone j f hj
    have hjl : j < fs.size := (Array.getElem?_eq_some_iff.1 hj).1
    have hcell := hat j hjl
    have hv : cs'[j]? = some (cs'[j]'(by omega)) := List.getElem?_eq_getElem (by omega)
    have h1 := hf j f hj
    rw [ho, hk] at h1
    have hone' : (cs'.drop j).take 1 = [cs'[j]'(by omega)] := by
      rw [List.drop_eq_getElem_cons (by omega)]
      rfl
    rw [hone'] at h1
    have hys : ys[j]? = some (ys[j]'(by omega)) := List.getElem?_eq_getElem (by omega)
    refine ⟨_, _, ?_, hys, h1.trans hys⟩
    rw [← Go.Deep.add_add, hcell, hv]
end

theorem cells34 : Tryd.prog.cellsOf 34 = 4 := by kernel_rfl
theorem one34 : oneCellFields Tryd.prog ((Tryd.prog.underlying 34).elim #[] fun | .struct fs => fs | _ => #[]) = true := by kernel_rfl
theorem lit_bd {k : IntKind} {x lo hi : Int} (hlo : k.min = lo) (hhi : k.max = hi) (h : (Lit.int k x).wf = true) : lo ≤ x ∧ x ≤ hi := by
  subst hlo; subst hhi
  simpa [Lit.wf] using h

theorem add_none (b o n : Nat) : (⟨b, o, none⟩ : Addr).add n = ⟨b, o + n, none⟩ := by
  unfold Addr.add
  split <;> simp_all
theorem acts_of {H : Type} {enc : TypeId × Value → H} {W : World} {v : Value} {d : DataW H} {p : List MemPlace} (h : DataW.Trod enc Tryd.prog W 0 (fun _ => true) true 32 v d p) (hv : ∃ a len cap, v = .slice a len cap) :
    ∃ (b o : Nat) (a : Option Addr) (l : List Act) (cap : Nat), ActsAt W v b o a l cap := by
  obtain ⟨a, len, cap, rfl⟩ := hv
  obtain ⟨fuel, hf⟩ := h
  rcases open_slice_fields Tryd.underlying32 Tryd.underlying34 (by kernel_rfl) (by kernel_rfl) hf with ⟨hcs, hx⟩ | ⟨a', len', cap', m, D, Pl, hcs, hb, hl, hm, hmm, hi⟩
  · simp only [Value.cells, List.cons.injEq, Value.slice.injEq, and_true] at hcs
    obtain ⟨rfl, rfl, rfl⟩ := hcs
    exact ⟨0, 0, none, [], 0, rfl, fun h => by simp at h, by simp [maxLen], fun x hx => by simp at hx, fun i x hx => by simp at hx⟩
  · simp only [Value.cells, List.cons.injEq, Value.slice.injEq, and_true] at hcs
    obtain ⟨rfl, rfl, rfl⟩ := hcs
    simp only [if_true] at hmm
    have key : ∀ i, i < len → ∃ x : Act, x.WF ∧ W.cell? (a'.add (i * 4)) = some (.int .u8 x.do_) ∧ W.cell? (a'.add (i * 4 + 1)) = some (.int .u16 x.at_) ∧ W.cell? (a'.add (i * 4 + 2)) = some (.int .u8 x.b) ∧ W.cell? (a'.add (i * 4 + 3)) = some (.int .u16 x.n) := by
      intro i him
      obtain ⟨ys, n, _, _, hyl, hf⟩ := hi i (by omega)
      obtain ⟨v0, y0, c0, _, t0⟩ := hf 0 _ rfl
      obtain ⟨v1, y1, c1, _, t1⟩ := hf 1 _ rfl
      obtain ⟨v2, y2, c2, _, t2⟩ := hf 2 _ rfl
      obtain ⟨v3, y3, c3, _, t3⟩ := hf 3 _ rfl
      obtain ⟨x0, e0, _, w0⟩ := DataW.trod_int Tryd.underlying5 t0
      obtain ⟨x1, e1, _, w1⟩ := DataW.trod_int Tryd.underlying26 t1
      obtain ⟨x2, e2, _, w2⟩ := DataW.trod_int Tryd.underlying5 t2
      obtain ⟨x3, e3, _, w3⟩ := DataW.trod_int Tryd.underlying26 t3
      simp only [List.cons.injEq, and_true] at e0 e1 e2 e3
      subst e0; subst e1; subst e2; subst e3
      exact ⟨⟨x0, x1, x2, x3⟩, ⟨lit_bd rfl rfl w0, lit_bd rfl rfl w1, lit_bd rfl rfl w2, lit_bd rfl rfl w3⟩, c0, c1, c2, c3⟩
    obtain ⟨f, hfx⟩ : ∃ f : Nat → Act, ∀ i, i < len → (f i).WF ∧ W.cell? (a'.add (i * 4)) = some (.int .u8 (f i).do_) ∧ W.cell? (a'.add (i * 4 + 1)) = some (.int .u16 (f i).at_) ∧ W.cell? (a'.add (i * 4 + 2)) = some (.int .u8 (f i).b) ∧ W.cell? (a'.add (i * 4 + 3)) = some (.int .u16 (f i).n) :=
      ⟨fun i => if h : i < len then (key i h).choose else ⟨0, 0, 0, 0⟩, fun i h => by simp only [h, dif_pos]; exact (key i h).choose_spec⟩
    have hlist : ((List.range len).map f).length = len := by simp
    have hspot : 0 < len → a' = ⟨a'.block, a'.off, none⟩ := by
      intro h0
      have := (hfx 0 h0).2.1
      obtain ⟨ab, ao, asp⟩ := a'
      cases asp with
      | none => rfl
      | some s =>
        exfalso
        have e : (⟨ab, ao, some s⟩ : Addr).add (0 * 4) = ⟨ab, ao, some s⟩ := by simp [Addr.add]
        rw [e] at this
        unfold World.cell? at this
        split at this <;> simp at this
    have hadd : 0 < len → ∀ n, a'.add n = ⟨a'.block, a'.off + n, none⟩ := by
      intro h0 n
      rw [hspot h0]
      exact add_none _ _ _
    refine ⟨a'.block, a'.off, some a', (List.range len).map f, cap, ?_, ?_, ?_, ?_, ?_⟩
    · rw [hlist]
    · rw [hlist]
      intro h0
      refine ⟨congrArg some (hspot h0), ?_⟩
      have hc := (hfx 0 h0).2.1
      unfold World.cell? at hc
      rw [hadd h0] at hc
      rcases Nat.lt_or_ge a'.block W.heap.size with h | h
      · exact h
      · rw [Array.getElem?_eq_none h] at hc; simp at hc
    · rw [hlist]; omega
    · intro x hx
      obtain ⟨i, hi, rfl⟩ := List.mem_map.1 hx
      exact (hfx i (by simpa using hi)).1
    · intro i x hx
      have hil : i < len := by have := (List.getElem?_eq_some_iff.1 hx).1; simpa using this
      have hxe : x = f i := by
        rw [List.getElem?_map, List.getElem?_range hil] at hx
        simpa using hx.symm
      subst hxe
      have h0 : 0 < len := by omega
      obtain ⟨_, k0, k1, k2, k3⟩ := hfx i hil
      rw [hadd h0] at k0 k1 k2 k3
      exact ⟨k0, by rw [← k1]; congr 1, by rw [← k2]; congr 1, by rw [← k3]; congr 1⟩
end Go.Proofs.YtonhhjihmbcfnaaDoor

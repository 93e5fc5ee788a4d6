/- The base layer of the walks: a block known whole, what a call may have written. -/
import Derived.Test.YtonhhjihmbcfnaaDoorRows
import Derived.WalkKit
import Derived.WalkSpells
import Derived.WalkLawsBesides
import Derived.Deep.QuietTactic
import Derived.BigQuiet
import Derived.Deep.RegionHeld3
import Derived.StillTailTactics
import Derived.Deep.DeepFit
namespace Go.Proofs.YtonhhjihmbcfnaaDoor
open Go.RowKit

/-- Block b holds just these cells, none frozen. -/
def At (w : World) (b : Nat) (cs : List Value) (ty : TypeId) : Prop := w.heap[b]? = some (.cells cs.toArray ty (0, 0))

theorem At.lt {w : World} {b : Nat} {cs : List Value} {ty : TypeId} (h : At w b cs ty) : b < w.heap.size := by
  unfold At at h
  exact (Array.getElem?_eq_some_iff.1 h).1

theorem At.cell {w : World} {b : Nat} {cs : List Value} {ty : TypeId} (h : At w b cs ty) (i : Nat) : w.cell? ⟨b, i, none⟩ = cs[i]? := by
  unfold At at h
  simp [World.cell?, h]

theorem At.frozen {w : World} {b : Nat} {cs : List Value} {ty : TypeId} (h : At w b cs ty) (i : Nat) : w.frozen? ⟨b, i, none⟩ = false := by
  unfold At at h
  simp [World.frozen?, h]

/-- What may have turned between two worlds: the blocks in S, and new ones. -/
structure Upd (S : List Nat) (w w' : World) : Prop where
  os : w'.os = w.os
  tape : w'.tape = w.tape
  output : w'.output = w.output
  size : w.heap.size ≤ w'.heap.size
  block : ∀ k, k < w.heap.size → k ∉ S → w'.heap[k]? = w.heap[k]?

theorem Upd.refl (S : List Nat) (w : World) : Upd S w w := ⟨rfl, rfl, rfl, Nat.le_refl _, fun _ _ _ => rfl⟩
theorem Upd.trans {S : List Nat} {a b c : World} (h : Upd S a b) (k : Upd S b c) : Upd S a c :=
  ⟨k.os.trans h.os, k.tape.trans h.tape, k.output.trans h.output, Nat.le_trans h.size k.size,
   fun i hi hs => (k.block i (Nat.lt_of_lt_of_le hi h.size) hs).trans (h.block i hi hs)⟩
theorem Upd.mono {S T : List Nat} {a b : World} (h : Upd S a b) (hs : ∀ x, x ∈ S → x ∈ T) : Upd T a b :=
  ⟨h.os, h.tape, h.output, h.size, fun i hi ht => h.block i hi (fun hx => ht (hs _ hx))⟩
theorem Upd.drew {S : List Nat} {a w : World} (h : Upd S a w) : Upd S a w.drew := ⟨h.os, h.tape, h.output, h.size, h.block⟩
theorem Upd.drewN {S : List Nat} {a w : World} (h : Upd S a w) (n : Nat) : Upd S a (w.drewN n) := ⟨h.os, h.tape, h.output, h.size, h.block⟩
theorem Upd.alloc {S : List Nat} {a w : World} (h : Upd S a w) (o : Obj) : Upd S a (w.alloc o) :=
  ⟨h.os, h.tape, h.output, by have := h.size; simp; omega, fun k hk hs => by
    rw [Below.heap_alloc _ _ _ (Nat.lt_of_lt_of_le hk h.size)]; exact h.block k hk hs⟩
theorem Upd.setCell {S : List Nat} {a w : World} (h : Upd S a w) {p : Addr} (hp : p.block ∈ S ∨ a.heap.size ≤ p.block) (u : Value) : Upd S a (w.setCell p u) :=
  ⟨h.os, h.tape, h.output, by have := h.size; simpa [World.setCell] using this, fun k hk hs => by
    rw [Below.heap_setCell _ _ _ _ (by intro e; subst e; rcases hp with hp | hp; exact hs hp; omega)]; exact h.block k hk hs⟩

theorem At.upd {S : List Nat} {w w' : World} {b : Nat} {cs : List Value} {ty : TypeId} (h : At w b cs ty) (hu : Upd S w w') (hb : b ∉ S) : At w' b cs ty := by
  unfold At; rw [hu.block b h.lt hb]; exact h
theorem At.drew {w : World} {b : Nat} {cs : List Value} {ty : TypeId} (h : At w b cs ty) : At w.drew b cs ty := h
theorem At.drewN {w : World} {b : Nat} {cs : List Value} {ty : TypeId} (h : At w b cs ty) (n : Nat) : At (w.drewN n) b cs ty := h
theorem At.eq {w : World} {b : Nat} {cs cs' : List Value} {ty : TypeId} (h : At w b cs ty) (e : cs = cs') : At w b cs' ty := e ▸ h
theorem At.alloc {w : World} {b : Nat} {cs : List Value} {ty : TypeId} (h : At w b cs ty) (o : Obj) : At (w.alloc o) b cs ty := by
  unfold At; rw [Below.heap_alloc _ _ _ h.lt]; exact h
theorem At.setCell {w : World} {b : Nat} {cs : List Value} {ty : TypeId} (h : At w b cs ty) (i : Nat) (u : Value) : At (w.setCell ⟨b, i, none⟩ u) b (cs.set i u) ty := by
  unfold At at *
  simp [World.setCell, Array.getElem?_modify, h]
theorem At.setOther {w : World} {b : Nat} {cs : List Value} {ty : TypeId} (h : At w b cs ty) {p : Addr} (hp : p.block ≠ b) (u : Value) : At (w.setCell p u) b cs ty := by
  unfold At; rw [Below.heap_setCell _ _ _ _ (Ne.symm hp)]; exact h
/-- A call that turns block b from one row of cells to another. -/
def Turns (b : Nat) (cs : List Value) (ty : TypeId) (v : Value) (w : World) (e : Ending) (w' : World) : Prop :=
  e = .returned v ∧ At w' b cs ty ∧ Upd [b] w w'
theorem At.new (w : World) (cs : List Value) (ty : TypeId) : At (w.alloc (.cells cs.toArray ty)) w.heap.size cs ty := by
  unfold At
  show (w.heap.push _)[w.heap.size]? = _
  simp
theorem ret_int {k : IntKind} {a b : Int} (h : a = b) : Ending.returned (.int k a) = .returned (.int k b) := by rw [h]
theorem ret_bool {a b : Bool} (h : a = b) : Ending.returned (.bool a) = .returned (.bool b) := by rw [h]
/-- Nothing but draws lies between two worlds. -/
def Same (w w' : World) : Prop := ∃ n, w' = w.drewN n
theorem Same.refl (w : World) : Same w w := ⟨0, rfl⟩
theorem Same.drewN {a w : World} (h : Same a w) (n : Nat) : Same a (w.drewN n) := by
  obtain ⟨m, rfl⟩ := h; exact ⟨m + n, World.drewN_drewN _ _ _⟩
theorem Same.drew {a w : World} (h : Same a w) : Same a w.drew := h.drewN 1
theorem Same.trans {a b c : World} (h : Same a b) (k : Same b c) : Same a c := by
  obtain ⟨m, rfl⟩ := k; exact h.drewN m
theorem Same.upd {a b : World} (h : Same a b) (S : List Nat) : Upd S a b := by
  obtain ⟨m, rfl⟩ := h; exact (Upd.refl S a).drewN m
theorem At.same {w w' : World} {b : Nat} {cs : List Value} {ty : TypeId} (h : At w b cs ty) (k : Same w w') : At w' b cs ty := by
  obtain ⟨m, rfl⟩ := k; exact h
/-- A call that writes nothing. -/
def Tells (v : Value) (w : World) (e : Ending) (w' : World) : Prop := e = .returned v ∧ Same w w'
theorem Tells.quiet {P : Program} {f : FuncId} {args : Array Value} {w : World} {n : Nat} {v : Value}
    (h : Calls P f args (w.drewN n) (Tells v (w.drewN n))) : Calls P f args (w.drewN n) fun e w'' => e = .returned v ∧ ∃ m, w'' = w.drewN m :=
  Calls.quiet_of (h.mono fun _ _ ⟨he, m, hm⟩ => ⟨he, m, hm⟩)
end Go.Proofs.YtonhhjihmbcfnaaDoor

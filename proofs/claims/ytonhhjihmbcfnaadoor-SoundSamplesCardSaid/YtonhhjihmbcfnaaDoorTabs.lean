import Derived.Test.YtonhhjihmbcfnaaDoorBase
import Derived.Test.YtonhhjihmbcfnaaDoorSoundM
namespace Go.Proofs.YtonhhjihmbcfnaaDoor
open Go.RowKit
set_option linter.unusedSimpArgs false
set_option linter.unusedVariables false

/-- The tables as they are read. -/
structure Tabs (w : World) : Prop where
  lens : ∀ n : Int, 0 ≤ n → n < 32 → w.cell? ⟨4, n.toNat, none⟩ = some (.int .u8 (lengthOf n))
  noises : ∀ n : Int, 0 ≤ n → n < 16 → w.cell? ⟨0, n.toNat, none⟩ = some (.int .u16 (noiseOf n))
  duties : ∀ n : Int, 0 ≤ n → n < 4 → w.cell? ⟨3, n.toNat, none⟩ = some (.int .u8 (dutyOf n))
/-- .. and those of the sound itself. -/
structure Tabs2 (w : World) : Prop extends Tabs w where
  rates : ∀ n : Int, 0 ≤ n → n < 16 → w.cell? ⟨2, n.toNat, none⟩ = some (.int .u16 (rateOf n))
  when0 : w.cell? ⟨1, 0, none⟩ = some (.int .i64 7457)
  when1 : w.cell? ⟨1, 1, none⟩ = some (.int .i64 14913)
  when2 : w.cell? ⟨1, 2, none⟩ = some (.int .i64 22371)
  when3 : w.cell? ⟨1, 3, none⟩ = some (.int .i64 29829)
  when4 : w.cell? ⟨1, 4, none⟩ = some (.int .i64 7457)
  when5 : w.cell? ⟨1, 5, none⟩ = some (.int .i64 14913)
  when6 : w.cell? ⟨1, 6, none⟩ = some (.int .i64 22371)
  when7 : w.cell? ⟨1, 7, none⟩ = some (.int .i64 37281)
theorem cell_lt {w : World} {a : Addr} {v : Value} (h : w.cell? a = some v) : a.block < w.heap.size := by
  unfold World.cell? at h
  rcases Nat.lt_or_ge a.block w.heap.size with hl | hl
  · exact hl
  · rw [Array.getElem?_eq_none hl] at h; simp at h
theorem cell_upd {S : List Nat} {w w' : World} {g i : Nat} {v : Value} (hu : Upd S w w') (hS : ∀ x, x ∈ S → 4 < x) (hg : g ≤ 4) (h : w.cell? ⟨g, i, none⟩ = some v) : w'.cell? ⟨g, i, none⟩ = some v := by
  have hl := cell_lt h
  rw [World.cell?_of_block (w := w) (hu.block g hl (fun hx => by have := hS _ hx; omega))]; exact h
theorem Tabs.upd {S : List Nat} {w w' : World} (h : Tabs w) (hu : Upd S w w') (hS : ∀ x, x ∈ S → 4 < x) : Tabs w' :=
  ⟨fun n a b => cell_upd hu hS (by omega) (h.lens n a b), fun n a b => cell_upd hu hS (by omega) (h.noises n a b), fun n a b => cell_upd hu hS (by omega) (h.duties n a b)⟩
theorem Tabs2.upd {S : List Nat} {w w' : World} (h : Tabs2 w) (hu : Upd S w w') (hS : ∀ x, x ∈ S → 4 < x) : Tabs2 w' :=
  ⟨h.toTabs.upd hu hS, fun n a b => cell_upd hu hS (by omega) (h.rates n a b), cell_upd hu hS (by omega) h.when0, cell_upd hu hS (by omega) h.when1, cell_upd hu hS (by omega) h.when2, cell_upd hu hS (by omega) h.when3, cell_upd hu hS (by omega) h.when4, cell_upd hu hS (by omega) h.when5, cell_upd hu hS (by omega) h.when6, cell_upd hu hS (by omega) h.when7⟩
end Go.Proofs.YtonhhjihmbcfnaaDoor

import Derived.Lib.Hide
import Derived.Test.YtonhhjihmbcfnaaDoorL0
namespace Go.Proofs.YtonhhjihmbcfnaaDoor
open Go.RowKit
set_option linter.unusedSimpArgs false
set_option linter.unusedVariables false

theorem len_0 (w : World) : Calls Tryd.prog 13 #[.int .i64 0] w fun e w' => e = .returned (.int .i64 10) ∧ Upd [] w w' := by
  go_enter Tryd.func13, Tryd.ntmps13
  go_wp2
  go_ret
  exact ⟨rfl, (Upd.refl _ _).alloc _⟩

theorem len_1 (w : World) : Calls Tryd.prog 13 #[.int .i64 1] w fun e w' => e = .returned (.int .i64 254) ∧ Upd [] w w' := by
  go_enter Tryd.func13, Tryd.ntmps13
  go_wp2
  go_ret
  exact ⟨rfl, (Upd.refl _ _).alloc _⟩

theorem len_2 (w : World) : Calls Tryd.prog 13 #[.int .i64 2] w fun e w' => e = .returned (.int .i64 20) ∧ Upd [] w w' := by
  go_enter Tryd.func13, Tryd.ntmps13
  go_wp2
  go_ret
  exact ⟨rfl, (Upd.refl _ _).alloc _⟩

theorem len_3 (w : World) : Calls Tryd.prog 13 #[.int .i64 3] w fun e w' => e = .returned (.int .i64 2) ∧ Upd [] w w' := by
  go_enter Tryd.func13, Tryd.ntmps13
  go_wp2
  go_ret
  exact ⟨rfl, (Upd.refl _ _).alloc _⟩

theorem len_4 (w : World) : Calls Tryd.prog 13 #[.int .i64 4] w fun e w' => e = .returned (.int .i64 40) ∧ Upd [] w w' := by
  go_enter Tryd.func13, Tryd.ntmps13
  go_wp2
  go_ret
  exact ⟨rfl, (Upd.refl _ _).alloc _⟩

theorem len_5 (w : World) : Calls Tryd.prog 13 #[.int .i64 5] w fun e w' => e = .returned (.int .i64 4) ∧ Upd [] w w' := by
  go_enter Tryd.func13, Tryd.ntmps13
  go_wp2
  go_ret
  exact ⟨rfl, (Upd.refl _ _).alloc _⟩

theorem len_6 (w : World) : Calls Tryd.prog 13 #[.int .i64 6] w fun e w' => e = .returned (.int .i64 80) ∧ Upd [] w w' := by
  go_enter Tryd.func13, Tryd.ntmps13
  go_wp2
  go_ret
  exact ⟨rfl, (Upd.refl _ _).alloc _⟩

theorem len_7 (w : World) : Calls Tryd.prog 13 #[.int .i64 7] w fun e w' => e = .returned (.int .i64 6) ∧ Upd [] w w' := by
  go_enter Tryd.func13, Tryd.ntmps13
  go_wp2
  go_ret
  exact ⟨rfl, (Upd.refl _ _).alloc _⟩

theorem len_8 (w : World) : Calls Tryd.prog 13 #[.int .i64 8] w fun e w' => e = .returned (.int .i64 160) ∧ Upd [] w w' := by
  go_enter Tryd.func13, Tryd.ntmps13
  go_wp2
  go_ret
  exact ⟨rfl, (Upd.refl _ _).alloc _⟩

theorem len_9 (w : World) : Calls Tryd.prog 13 #[.int .i64 9] w fun e w' => e = .returned (.int .i64 8) ∧ Upd [] w w' := by
  go_enter Tryd.func13, Tryd.ntmps13
  go_wp2
  go_ret
  exact ⟨rfl, (Upd.refl _ _).alloc _⟩

theorem len_10 (w : World) : Calls Tryd.prog 13 #[.int .i64 10] w fun e w' => e = .returned (.int .i64 60) ∧ Upd [] w w' := by
  go_enter Tryd.func13, Tryd.ntmps13
  go_wp2
  go_ret
  exact ⟨rfl, (Upd.refl _ _).alloc _⟩

theorem len_11 (w : World) : Calls Tryd.prog 13 #[.int .i64 11] w fun e w' => e = .returned (.int .i64 10) ∧ Upd [] w w' := by
  go_enter Tryd.func13, Tryd.ntmps13
  go_wp2
  go_ret
  exact ⟨rfl, (Upd.refl _ _).alloc _⟩

theorem len_12 (w : World) : Calls Tryd.prog 13 #[.int .i64 12] w fun e w' => e = .returned (.int .i64 14) ∧ Upd [] w w' := by
  go_enter Tryd.func13, Tryd.ntmps13
  go_wp2
  go_ret
  exact ⟨rfl, (Upd.refl _ _).alloc _⟩

theorem len_13 (w : World) : Calls Tryd.prog 13 #[.int .i64 13] w fun e w' => e = .returned (.int .i64 12) ∧ Upd [] w w' := by
  go_enter Tryd.func13, Tryd.ntmps13
  go_wp2
  go_ret
  exact ⟨rfl, (Upd.refl _ _).alloc _⟩

theorem len_14 (w : World) : Calls Tryd.prog 13 #[.int .i64 14] w fun e w' => e = .returned (.int .i64 26) ∧ Upd [] w w' := by
  go_enter Tryd.func13, Tryd.ntmps13
  go_wp2
  go_ret
  exact ⟨rfl, (Upd.refl _ _).alloc _⟩

theorem len_15 (w : World) : Calls Tryd.prog 13 #[.int .i64 15] w fun e w' => e = .returned (.int .i64 14) ∧ Upd [] w w' := by
  go_enter Tryd.func13, Tryd.ntmps13
  go_wp2
  go_ret
  exact ⟨rfl, (Upd.refl _ _).alloc _⟩

theorem len_16 (w : World) : Calls Tryd.prog 13 #[.int .i64 16] w fun e w' => e = .returned (.int .i64 12) ∧ Upd [] w w' := by
  go_enter Tryd.func13, Tryd.ntmps13
  go_wp2
  go_ret
  exact ⟨rfl, (Upd.refl _ _).alloc _⟩

theorem len_17 (w : World) : Calls Tryd.prog 13 #[.int .i64 17] w fun e w' => e = .returned (.int .i64 16) ∧ Upd [] w w' := by
  go_enter Tryd.func13, Tryd.ntmps13
  go_wp2
  go_ret
  exact ⟨rfl, (Upd.refl _ _).alloc _⟩

theorem len_18 (w : World) : Calls Tryd.prog 13 #[.int .i64 18] w fun e w' => e = .returned (.int .i64 24) ∧ Upd [] w w' := by
  go_enter Tryd.func13, Tryd.ntmps13
  go_wp2
  go_ret
  exact ⟨rfl, (Upd.refl _ _).alloc _⟩

theorem len_19 (w : World) : Calls Tryd.prog 13 #[.int .i64 19] w fun e w' => e = .returned (.int .i64 18) ∧ Upd [] w w' := by
  go_enter Tryd.func13, Tryd.ntmps13
  go_wp2
  go_ret
  exact ⟨rfl, (Upd.refl _ _).alloc _⟩

theorem len_20 (w : World) : Calls Tryd.prog 13 #[.int .i64 20] w fun e w' => e = .returned (.int .i64 48) ∧ Upd [] w w' := by
  go_enter Tryd.func13, Tryd.ntmps13
  go_wp2
  go_ret
  exact ⟨rfl, (Upd.refl _ _).alloc _⟩

theorem len_21 (w : World) : Calls Tryd.prog 13 #[.int .i64 21] w fun e w' => e = .returned (.int .i64 20) ∧ Upd [] w w' := by
  go_enter Tryd.func13, Tryd.ntmps13
  go_wp2
  go_ret
  exact ⟨rfl, (Upd.refl _ _).alloc _⟩

theorem len_22 (w : World) : Calls Tryd.prog 13 #[.int .i64 22] w fun e w' => e = .returned (.int .i64 96) ∧ Upd [] w w' := by
  go_enter Tryd.func13, Tryd.ntmps13
  go_wp2
  go_ret
  exact ⟨rfl, (Upd.refl _ _).alloc _⟩

theorem len_23 (w : World) : Calls Tryd.prog 13 #[.int .i64 23] w fun e w' => e = .returned (.int .i64 22) ∧ Upd [] w w' := by
  go_enter Tryd.func13, Tryd.ntmps13
  go_wp2
  go_ret
  exact ⟨rfl, (Upd.refl _ _).alloc _⟩

theorem len_24 (w : World) : Calls Tryd.prog 13 #[.int .i64 24] w fun e w' => e = .returned (.int .i64 192) ∧ Upd [] w w' := by
  go_enter Tryd.func13, Tryd.ntmps13
  go_wp2
  go_ret
  exact ⟨rfl, (Upd.refl _ _).alloc _⟩

theorem len_25 (w : World) : Calls Tryd.prog 13 #[.int .i64 25] w fun e w' => e = .returned (.int .i64 24) ∧ Upd [] w w' := by
  go_enter Tryd.func13, Tryd.ntmps13
  go_wp2
  go_ret
  exact ⟨rfl, (Upd.refl _ _).alloc _⟩

theorem len_26 (w : World) : Calls Tryd.prog 13 #[.int .i64 26] w fun e w' => e = .returned (.int .i64 72) ∧ Upd [] w w' := by
  go_enter Tryd.func13, Tryd.ntmps13
  go_wp2
  go_ret
  exact ⟨rfl, (Upd.refl _ _).alloc _⟩

theorem len_27 (w : World) : Calls Tryd.prog 13 #[.int .i64 27] w fun e w' => e = .returned (.int .i64 26) ∧ Upd [] w w' := by
  go_enter Tryd.func13, Tryd.ntmps13
  go_wp2
  go_ret
  exact ⟨rfl, (Upd.refl _ _).alloc _⟩

theorem len_28 (w : World) : Calls Tryd.prog 13 #[.int .i64 28] w fun e w' => e = .returned (.int .i64 16) ∧ Upd [] w w' := by
  go_enter Tryd.func13, Tryd.ntmps13
  go_wp2
  go_ret
  exact ⟨rfl, (Upd.refl _ _).alloc _⟩

theorem len_29 (w : World) : Calls Tryd.prog 13 #[.int .i64 29] w fun e w' => e = .returned (.int .i64 28) ∧ Upd [] w w' := by
  go_enter Tryd.func13, Tryd.ntmps13
  go_wp2
  go_ret
  exact ⟨rfl, (Upd.refl _ _).alloc _⟩

theorem len_30 (w : World) : Calls Tryd.prog 13 #[.int .i64 30] w fun e w' => e = .returned (.int .i64 32) ∧ Upd [] w w' := by
  go_enter Tryd.func13, Tryd.ntmps13
  go_wp2
  go_ret
  exact ⟨rfl, (Upd.refl _ _).alloc _⟩

theorem len_31 (w : World) : Calls Tryd.prog 13 #[.int .i64 31] w fun e w' => e = .returned (.int .i64 30) ∧ Upd [] w w' := by
  go_enter Tryd.func13, Tryd.ntmps13
  go_wp2
  go_ret
  exact ⟨rfl, (Upd.refl _ _).alloc _⟩

theorem len_any (n : Int) (h0 : 0 ≤ n) (h1 : n ≤ 31) (w : World) : Calls Tryd.prog 13 #[.int .i64 n] w fun e w' => e = .returned (.int .i64 (lengthOf n)) ∧ Upd [] w w' := by
  have : n = 0 ∨ n = 1 ∨ n = 2 ∨ n = 3 ∨ n = 4 ∨ n = 5 ∨ n = 6 ∨ n = 7 ∨ n = 8 ∨ n = 9 ∨ n = 10 ∨ n = 11 ∨ n = 12 ∨ n = 13 ∨ n = 14 ∨ n = 15 ∨ n = 16 ∨ n = 17 ∨ n = 18 ∨ n = 19 ∨ n = 20 ∨ n = 21 ∨ n = 22 ∨ n = 23 ∨ n = 24 ∨ n = 25 ∨ n = 26 ∨ n = 27 ∨ n = 28 ∨ n = 29 ∨ n = 30 ∨ n = 31 := by omega
  rcases this with rfl | rfl | rfl | rfl | rfl | rfl | rfl | rfl | rfl | rfl | rfl | rfl | rfl | rfl | rfl | rfl | rfl | rfl | rfl | rfl | rfl | rfl | rfl | rfl | rfl | rfl | rfl | rfl | rfl | rfl | rfl | rfl
  · exact len_0 w
  · exact len_1 w
  · exact len_2 w
  · exact len_3 w
  · exact len_4 w
  · exact len_5 w
  · exact len_6 w
  · exact len_7 w
  · exact len_8 w
  · exact len_9 w
  · exact len_10 w
  · exact len_11 w
  · exact len_12 w
  · exact len_13 w
  · exact len_14 w
  · exact len_15 w
  · exact len_16 w
  · exact len_17 w
  · exact len_18 w
  · exact len_19 w
  · exact len_20 w
  · exact len_21 w
  · exact len_22 w
  · exact len_23 w
  · exact len_24 w
  · exact len_25 w
  · exact len_26 w
  · exact len_27 w
  · exact len_28 w
  · exact len_29 w
  · exact len_30 w
  · exact len_31 w
end Go.Proofs.YtonhhjihmbcfnaaDoor

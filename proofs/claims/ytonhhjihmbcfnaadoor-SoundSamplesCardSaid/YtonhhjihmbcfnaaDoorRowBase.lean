/- What every row of this seat wants: the tables out of the row's list, a world for the witness, the end of a row's step. -/
import Derived.Test.YtonhhjihmbcfnaaDoorCards
import Derived.Test.YtonhhjihmbcfnaaDoorTie
import Derived.Test.YtonhhjihmbcfnaaDoorL0
import Derived.ProofKit
import Derived.OpenShut
import Derived.Deep.DeepHandedRow
import Derived.Lib.LaidTab
import Derived.Stop.LaidErr
import Derived.Test.YtonhhjihmbcfnaaDoorActs
namespace Go.Proofs.YtonhhjihmbcfnaaDoor
open Go.ChangeShapes Go.WideShapes Go.ChangeAt Go.RowKit
set_option linter.unusedSimpArgs false
set_option linter.unusedVariables false

theorem own : ownKnob Tryd.prog.godebug = none := by kernel_rfl
theorem gLens : Tryd.prog.globalNamed "kotatsu/tone.lengths" = some 4 := by kernel_rfl
theorem gLensT : (Tryd.prog.globals[4]?).map (·.type) = some 92 := by kernel_rfl
theorem gNoises : Tryd.prog.globalNamed "kotatsu/tone.noises" = some 0 := by kernel_rfl
theorem gNoisesT : (Tryd.prog.globals[0]?).map (·.type) = some 84 := by kernel_rfl
theorem gDuties : Tryd.prog.globalNamed "kotatsu/tone.duties" = some 3 := by kernel_rfl
theorem gDutiesT : (Tryd.prog.globals[3]?).map (·.type) = some 60 := by kernel_rfl
theorem gRates : Tryd.prog.globalNamed "kotatsu/sound.rates" = some 2 := by kernel_rfl
theorem gRatesT : (Tryd.prog.globals[2]?).map (·.type) = some 84 := by kernel_rfl
theorem gWhen : Tryd.prog.globalNamed "kotatsu/sound.when" = some 1 := by kernel_rfl
theorem gWhenT : (Tryd.prog.globals[1]?).map (·.type) = some 88 := by kernel_rfl
theorem cells92 : Tryd.prog.cellsOf 92 = 32 := by kernel_rfl
theorem cells84 : Tryd.prog.cellsOf 84 = 16 := by kernel_rfl
theorem cells60 : Tryd.prog.cellsOf 60 = 4 := by kernel_rfl
theorem cells88 : Tryd.prog.cellsOf 88 = 8 := by kernel_rfl
theorem cells44 : Tryd.prog.cellsOf 44 = 4 := by kernel_rfl
theorem cells26 : Tryd.prog.cellsOf 26 = 1 := by kernel_rfl
theorem cells5 : Tryd.prog.cellsOf 5 = 1 := by kernel_rfl
theorem cells3 : Tryd.prog.cellsOf 3 = 1 := by kernel_rfl

theorem tabs_of {rest : List (String × DataW Unit)} {W : World} (h : laidMet Tryd.prog (("kotatsu/tone.lengths", Rows.laid_kotatsu_tone_lengths) :: ("kotatsu/tone.noises", Rows.laid_kotatsu_tone_noises) :: ("kotatsu/tone.duties", Rows.laid_kotatsu_tone_duties) :: rest) W) : Tabs W := by
  have t1 : Lib.TabIs Tryd.prog W "kotatsu/tone.lengths" .u8 lens := Lib.tabIs_of_head gLens gLensT Tryd.underlying92 Tryd.underlying5 cells5 cells92 h
  have h2 := laidMet.tail h
  have t2 : Lib.TabIs Tryd.prog W "kotatsu/tone.noises" .u16 noises := Lib.tabIs_of_head gNoises gNoisesT Tryd.underlying84 Tryd.underlying26 cells26 cells84 h2
  have h3 := laidMet.tail h2
  have t3 : Lib.TabIs Tryd.prog W "kotatsu/tone.duties" .u8 duties := Lib.tabIs_of_head gDuties gDutiesT Tryd.underlying60 Tryd.underlying5 cells5 cells60 h3
  exact ⟨fun n a b => t1.cell gLens n.toNat (by simp [lens]; omega), fun n a b => t2.cell gNoises n.toNat (by simp [noises]; omega), fun n a b => t3.cell gDuties n.toNat (by simp [duties]; omega)⟩

theorem when_of {rest : List (String × DataW Unit)} {W : World} (h : laidMet Tryd.prog (("kotatsu/sound.when", Rows.laid_kotatsu_sound_when) :: rest) W) :
    ∀ i : Nat, i < 8 → W.cell? ⟨1, i, none⟩ = some (.int .i64 (([7457, 14913, 22371, 29829, 7457, 14913, 22371, 37281] : List Int).getD i 0)) := by
  obtain ⟨ps, ⟨g, t, cs, fuel, p, q, hg, ht, hvar, hd, _, _⟩, _⟩ := h
  obtain rfl := Option.some.inj (gWhen.symm.trans hg)
  obtain rfl := Option.some.inj (gWhenT.symm.trans ht)
  obtain ⟨xs, m, rfl, hx, hlen, hn, hel⟩ := DataW.trod_array Tryd.underlying88 hd
  simp only [Prod.mk.injEq] at hx
  obtain ⟨hx1, _⟩ := hx
  have e1 : ∀ i : Nat, (xs.map (·.1))[i]? = ([Lib.tabData .i64 [7457, 14913, 22371, 29829], Lib.tabData .i64 [7457, 14913, 22371, 37281]] : List (DataW Unit))[i]? := by
    intro i
    have : (DataW.agg (xs.map (·.1)) : DataW Unit) = .agg [Lib.tabData .i64 [7457, 14913, 22371, 29829], Lib.tabData .i64 [7457, 14913, 22371, 37281]] := hx1.symm
    injection this with this
    rw [this]
  have h0 := hel 0 (by decide)
  have h1 := hel 1 (by decide)
  rw [cells44] at h0 h1
  have f0 : ∃ y, xs[0]? = some (Lib.tabData .i64 [7457, 14913, 22371, 29829], y) := by
    have := e1 0
    simp only [List.getElem?_map, List.getElem?_cons_zero, Option.map_eq_some_iff] at this
    obtain ⟨⟨a, b⟩, hab, rfl⟩ := this
    exact ⟨b, hab⟩
  have f1 : ∃ y, xs[1]? = some (Lib.tabData .i64 [7457, 14913, 22371, 37281], y) := by
    have := e1 1
    simp only [List.getElem?_map, List.getElem?_cons_succ, List.getElem?_cons_zero, Option.map_eq_some_iff] at this
    obtain ⟨⟨a, b⟩, hab, rfl⟩ := this
    exact ⟨b, hab⟩
  obtain ⟨y0, f0⟩ := f0
  obtain ⟨y1, f1⟩ := f1
  rw [f0] at h0
  rw [f1] at h1
  have g0 := Lib.cells_of_tab Tryd.underlying44 Tryd.underlying3 cells3 cells44 h0
  have g1 := Lib.cells_of_tab Tryd.underlying44 Tryd.underlying3 cells3 cells44 h1
  intro i hi
  have hc := World.var?_cell hg hvar i
  rw [hc]
  have k0 : ∀ j, j < 4 → cs.toList[j]? = ([Value.int .i64 7457, .int .i64 14913, .int .i64 22371, .int .i64 29829] : List Value)[j]? := by
    intro j hj
    have := congrArg (·[j]?) g0
    simp only [List.getElem?_take, List.getElem?_drop, hj, if_true] at this
    simpa using this
  have k1 : ∀ j, j < 4 → cs.toList[4 + j]? = ([Value.int .i64 7457, .int .i64 14913, .int .i64 22371, .int .i64 37281] : List Value)[j]? := by
    intro j hj
    have := congrArg (·[j]?) g1
    simp only [List.getElem?_take, List.getElem?_drop, hj, if_true] at this
    simpa using this
  have hcs : cs[i]? = cs.toList[i]? := by simp
  rw [hcs]
  have hcase : i = 0 ∨ i = 1 ∨ i = 2 ∨ i = 3 ∨ i = 4 ∨ i = 5 ∨ i = 6 ∨ i = 7 := by omega
  rcases hcase with rfl | rfl | rfl | rfl | rfl | rfl | rfl | rfl
  · exact k0 0 (by omega)
  · exact k0 1 (by omega)
  · exact k0 2 (by omega)
  · exact k0 3 (by omega)
  · exact k1 0 (by omega)
  · exact k1 1 (by omega)
  · exact k1 2 (by omega)
  · exact k1 3 (by omega)

theorem tabs2_of {W : World} (h : laidMet Tryd.prog [("kotatsu/tone.lengths", Rows.laid_kotatsu_tone_lengths), ("kotatsu/tone.noises", Rows.laid_kotatsu_tone_noises), ("kotatsu/tone.duties", Rows.laid_kotatsu_tone_duties), ("kotatsu/sound.rates", Rows.laid_kotatsu_sound_rates), ("kotatsu/sound.when", Rows.laid_kotatsu_sound_when)] W) : Tabs2 W := by
  have h4 := laidMet.tail (laidMet.tail (laidMet.tail h))
  have t4 : Lib.TabIs Tryd.prog W "kotatsu/sound.rates" .u16 rates := Lib.tabIs_of_head gRates gRatesT Tryd.underlying84 Tryd.underlying26 cells26 cells84 h4
  have hw := when_of (laidMet.tail h4)
  exact ⟨tabs_of h, fun n a b => t4.cell gRates n.toNat (by simp [rates]; omega), hw 0 (by omega), hw 1 (by omega), hw 2 (by omega), hw 3 (by omega), hw 4 (by omega), hw 5 (by omega), hw 6 (by omega), hw 7 (by omega)⟩

/-- A world for the witness: the settled one, each table holding what its initialiser lays. -/
noncomputable def layAt (g : Nat) (cs : Array Value) (h : Array Obj) : Array Obj := h.modify g fun
  | .cells _ t frozen => .cells cs t frozen
  | o => o
noncomputable def laidWorld (os : Os) : World :=
  { World.holding Tryd.prog os ⟨#[], #[], []⟩ with heap := layAt 4 (lens.map (Value.int .u8)).toArray (layAt 3 (duties.map (Value.int .u8)).toArray (layAt 2 (rates.map (Value.int .u16)).toArray (layAt 1 ([7457, 14913, 22371, 29829, 7457, 14913, 22371, 37281].map (Value.int .i64)).toArray (layAt 0 (noises.map (Value.int .u16)).toArray (World.holding Tryd.prog os ⟨#[], #[], []⟩).heap)))) }

/-- A reading of an argument stays behind a call that turned nothing that was there. -/
theorem trod_keep {H : Type} {enc : TypeId × Value → H} {t : TypeId} (hr : Tryd.prog.readableRec t = true) (hrow : t < Tryd.prog.types.size) {W W' : World} {v : Value} {d : DataW H} {ps : List MemPlace} {sp : Nat → Bool}
    (h : DataW.Trod enc Tryd.prog W 0 (fun _ => true) true t v d ps) (hb : Below W.heap.size W W') (hlt : ∀ x ∈ ps, x.block < W.heap.size) (hsp : ∀ x ∈ ps, sp x.block = true) : DataW.Trod enc Tryd.prog W' 0 sp true t v d ps :=
  WideElems.Trod_stays (by kernel_rfl) hr hrow h (fun x hx => hb.same (hlt x hx)) hsp

/-- The end of a row's step: nothing that was there has turned. -/
theorem post_upd {H : Type} {enc : TypeId × Value → H} {P : Program} {f : Func} {s : ChangeSpec} {apart fresh handsOn again : Bool} {W W' : World} {args : Array Value} {v : Value} {ds gs : List (DataW H)} {before pa pv : List MemPlace}
    (hW : DataW.Whole enc P f.params.toList s.vars apart W args.toList ds gs before)
    (hres : ∀ (b : Nat) (sp : Nat → Bool) (hd : Bool), DataW.TrodAll enc P W' b sp hd f.resultTypes.toList (v.resultList f.resultTypes.size) (s.fn H (ds ++ gs)).results [])
    (hargs : ∀ sp : Nat → Bool, (∀ p ∈ before, sp p.block = true) → DataW.TrodAll enc P W' 0 sp true f.params.toList args.toList (s.fn H (ds ++ gs)).args pa)
    (hvars : ∀ sp : Nat → Bool, (∀ p ∈ before, sp p.block = true) → DataW.TrodVars enc P W' sp s.vars (s.fn H (ds ++ gs)).vars pv)
    (hps : before = pa ++ pv) (hb : Below W.heap.size W W')
    (hok : ∀ (j : Nat) (t : TypeId) (r : Value), f.resultTypes[j]? = some t → (v.resultList f.resultTypes.size)[j]? = some r → Value.okWide P W' .any 0 t r) :
    s.post enc P f apart fresh handsOn again W args v W' := by
  have hlt : ∀ p ∈ before, p.block < W.heap.size := fun p hp => hW.lt p hp
  have hold : ∀ p ∈ before, (fun b => decide (b < W.heap.size)) p.block = true := fun p hp => by simpa using hlt p hp
  refine ⟨ds, gs, before, [], pa, pv, hW, hres _ _ _, hargs _ hold, hvars _ hold, World.keptBut_mono (fun p hp => ⟨hp, ?_⟩) (hb.frame (· ∈ before)), fun _ => ?_⟩
  · rw [hps, List.mem_append] at hp
    exact Or.inr hp
  · obtain ⟨_, _, _, _, _, hz, hn⟩ := hW
    refine ⟨hok, _, _, ([] ++ pa) ++ pv, ⟨[] ++ pa, pv, trodAll_append (hargs _ (fun _ _ => rfl)) (hres _ _ _), hvars _ (fun _ _ => rfl), rfl, ?_, ?_⟩, ?_⟩
    · intro b off hp
      have hin : MemPlace.cell b off ∈ before := by rw [hps]; simpa using hp
      rw [hb.frozen (hlt _ hin)]
      exact hz b off hin
    · intro ha
      have := hn ha
      rw [hps] at this
      simpa using this
    · intro p hp _
      rw [hps]
      simpa using hp
end Go.Proofs.YtonhhjihmbcfnaaDoor

import Derived.Lib.Hide
import Derived.Test.YtonhhjihmbcfnaaDoorD3
namespace Go.Proofs.YtonhhjihmbcfnaaDoor
open Go.RowKit
set_option linter.unusedSimpArgs false
set_option linter.unusedVariables false

set_option maxHeartbeats 1000000 in
theorem out_c0 (k : Hd) (ha : k.Apart) (s : Sound) (wf : s.WF) (B : Nat) (w : World) (hT : Tabs w) (h : SoundAt w k s) (hB : w.cell? ⟨B, 0, none⟩ = some (.pointer (some ⟨k.b, 0, none⟩))) :
    Calls Tryd.prog 39 #[.int .i64 0, .pointer (some ⟨B, 0, none⟩)] w (Tells (.int .i64 s.t0.out) w) := by
  have c0 : _ = some (Value.pointer (some ⟨k.p0, 0, none⟩)) := h.snd.cell 0
  have hbd := Tone.out_bd wf.t0
  go_enter Tryd.func39, Tryd.ntmps39
  go_wp2_with fail
  refine (tone_out k.p0 s.t0 wf.t0 _ hT ha.g0 h.t0).mono ?_
  rintro e w1 ⟨rfl, n1, rfl⟩
  go_wp2
  go_ret
  exact ⟨rfl, (by repeat (first | with_reducible exact Same.refl _ | with_reducible apply Same.drewN | with_reducible apply Same.drew))⟩

set_option maxHeartbeats 1000000 in
theorem out_c1 (k : Hd) (ha : k.Apart) (s : Sound) (wf : s.WF) (B : Nat) (w : World) (hT : Tabs w) (h : SoundAt w k s) (hB : w.cell? ⟨B, 0, none⟩ = some (.pointer (some ⟨k.b, 0, none⟩))) :
    Calls Tryd.prog 39 #[.int .i64 1, .pointer (some ⟨B, 0, none⟩)] w (Tells (.int .i64 s.t1.out) w) := by
  have c1 : _ = some (Value.pointer (some ⟨k.p1, 0, none⟩)) := h.snd.cell 1
  have hbd := Tone.out_bd wf.t1
  go_enter Tryd.func39, Tryd.ntmps39
  go_wp2_with fail
  refine (tone_out k.p1 s.t1 wf.t1 _ hT ha.g1 h.t1).mono ?_
  rintro e w1 ⟨rfl, n1, rfl⟩
  go_wp2
  go_ret
  exact ⟨rfl, (by repeat (first | with_reducible exact Same.refl _ | with_reducible apply Same.drewN | with_reducible apply Same.drew))⟩

set_option maxHeartbeats 1000000 in
theorem out_c2 (k : Hd) (ha : k.Apart) (s : Sound) (wf : s.WF) (B : Nat) (w : World) (hT : Tabs w) (h : SoundAt w k s) (hB : w.cell? ⟨B, 0, none⟩ = some (.pointer (some ⟨k.b, 0, none⟩))) :
    Calls Tryd.prog 39 #[.int .i64 2, .pointer (some ⟨B, 0, none⟩)] w (Tells (.int .i64 s.t2.out) w) := by
  have c2 : _ = some (Value.pointer (some ⟨k.p2, 0, none⟩)) := h.snd.cell 2
  have hbd := Tone.out_bd wf.t2
  go_enter Tryd.func39, Tryd.ntmps39
  go_wp2_with fail
  refine (tone_out k.p2 s.t2 wf.t2 _ hT ha.g2 h.t2).mono ?_
  rintro e w1 ⟨rfl, n1, rfl⟩
  go_wp2
  go_ret
  exact ⟨rfl, (by repeat (first | with_reducible exact Same.refl _ | with_reducible apply Same.drewN | with_reducible apply Same.drew))⟩

set_option maxHeartbeats 1000000 in
theorem out_c3 (k : Hd) (ha : k.Apart) (s : Sound) (wf : s.WF) (B : Nat) (w : World) (hT : Tabs w) (h : SoundAt w k s) (hB : w.cell? ⟨B, 0, none⟩ = some (.pointer (some ⟨k.b, 0, none⟩))) :
    Calls Tryd.prog 39 #[.int .i64 3, .pointer (some ⟨B, 0, none⟩)] w (Tells (.int .i64 s.t3.out) w) := by
  have c3 : _ = some (Value.pointer (some ⟨k.p3, 0, none⟩)) := h.snd.cell 3
  have hbd := Tone.out_bd wf.t3
  go_enter Tryd.func39, Tryd.ntmps39
  go_wp2_with fail
  refine (tone_out k.p3 s.t3 wf.t3 _ hT ha.g3 h.t3).mono ?_
  rintro e w1 ⟨rfl, n1, rfl⟩
  go_wp2
  go_ret
  exact ⟨rfl, (by repeat (first | with_reducible exact Same.refl _ | with_reducible apply Same.drewN | with_reducible apply Same.drew))⟩

theorem Tabs.same {w w' : World} (h : Tabs w) (hs : Same w w') : Tabs w' := by
  obtain ⟨n, rfl⟩ := hs; exact ⟨h.lens, h.noises, h.duties⟩
set_option maxHeartbeats 1000000 in
theorem snd_out (k : Hd) (ha : k.Apart) (s : Sound) (wf : s.WF) (w : World) (hT : Tabs w) (h : SoundAt w k s) :
    Calls Tryd.prog 18 #[k.ptr] w (fun e w' => e = .returned (.int .i64 s.out) ∧ Upd [] w w') := by
  have b0 := Tone.out_bd wf.t0
  have b1 := Tone.out_bd wf.t1
  have b2 := Tone.out_bd wf.t2
  have b3 := Tone.out_bd wf.t3
  have b4 := wf.m.level
  have he : s.out = 752 * (s.t0.out + s.t1.out) + 851 * s.t2.out + 494 * s.t3.out + 335 * s.m.level := rfl
  have He := Lib.hid he
  clear he
  unfold Hd.ptr
  have hN : At (w.alloc (.cells #[.pointer (some ⟨k.b, 0, none⟩)] 23)) w.heap.size [.pointer (some ⟨k.b, 0, none⟩)] 23 := At.new _ _ _
  have hU : Upd [] w (w.alloc (.cells #[.pointer (some ⟨k.b, 0, none⟩)] 23)) := (Upd.refl _ _).alloc _
  have h2 := h.alloc (.cells #[.pointer (some ⟨k.b, 0, none⟩)] 23)
  have hT2 := hT.upd hU (by simp)
  go_enter Tryd.func18, Tryd.ntmps18
  go_wp2_with fail
  generalize (w.alloc (.cells #[.pointer (some ⟨k.b, 0, none⟩)] 23)) = W at *
  have hB : W.cell? ⟨w.heap.size, 0, none⟩ = some (.pointer (some ⟨k.b, 0, none⟩)) := hN.cell 0
  have HQ0 := Lib.hid (fun n => out_c0 k ha s wf _ (W.drewN n) (hT2.same ⟨n, rfl⟩) (h2.same ⟨n, rfl⟩) hB)
  have HQ1 := Lib.hid (fun n => out_c1 k ha s wf _ (W.drewN n) (hT2.same ⟨n, rfl⟩) (h2.same ⟨n, rfl⟩) hB)
  have HQ2 := Lib.hid (fun n => out_c2 k ha s wf _ (W.drewN n) (hT2.same ⟨n, rfl⟩) (h2.same ⟨n, rfl⟩) hB)
  have HQ3 := Lib.hid (fun n => out_c3 k ha s wf _ (W.drewN n) (hT2.same ⟨n, rfl⟩) (h2.same ⟨n, rfl⟩) hB)
  have c8 : _ = some (Value.int .u8 s.m.level) := h2.snd.cell 8
  go_wp2_with fail
  go_quiet ((go_at_call 39; first | (with_reducible exact Tells.quiet (HQ0.out _)) | (with_reducible exact Tells.quiet (HQ1.out _)) | (with_reducible exact Tells.quiet (HQ2.out _)) | (with_reducible exact Tells.quiet (HQ3.out _))))
  go_wp2
  go_ret
  refine ⟨?_, hU.drewN _⟩
  rw [He.out]
  refine ret_int ?_
  omega
end Go.Proofs.YtonhhjihmbcfnaaDoor

/- MbapFrames: whatever the frame, its bytes are the document's, or it is refused: the call returns true, and the input reads as it did. -/
import Derived.Test.YtabjlanomebonaaRows
import Derived.Test.YtabjlanomebonaaHandFrames
import Derived.Test.YtabjlanomebonaaOpen
namespace Go.Proofs.Ytabjlanomebonaa.mbapFrames
open Go.ChangeShapes Go.WideShapes Go.ChangeAt Go.RowKit Go.Proofs.Ytabjlanomebonaa.Open
set_option linter.unusedVariables false
theorem own : ownKnob Try.prog.godebug = none := by kernel_rfl
theorem laidOut : laidOutB Try.prog = true := by kernel_rfl
set_option maxRecDepth 100000 in
set_option maxHeartbeats 2000000 in
theorem lifted (os : Os) (started : os.Started) (H : Type) (enc : TypeId × Value → H) :
    ReturnsInHanded {} Try.checked os 5 .any (Rows.mbapFramesSpec.pre6 enc Try.prog Try.f5 Rows.mbapFramesRow.domain false) (Rows.mbapFramesSpec.post enc Try.prog Try.f5 false true false false) := by
  refine returnsInHanded_of_change_sized (C := Try.checked) own started (by kernel_rfl) Try.func5
    (ChangeSpec.witness6 (enc := enc) (C := Try.checked) false ⟨#[], #[.agg #[.int .i64 0, .int .i64 0, .slice none 0 0]], []⟩ 8 (by kernel_rfl) (by kernel_rfl) (by kernel_rfl) (by kernel_rfl)) ?_
  intro W base args ds gs before hval0 hW hcnd hsz0 _
  have hval : ∀ (j : Nat) t v, Try.f5.params[j]? = some t → args[j]? = some v → Value.okWide Try.prog W .any base t v := hval0
  have hW' := hW
  obtain ⟨p, q, hA0, hV, rfl, hfz, hnd⟩ := hW
  have hA : DataW.TrodAll enc Try.prog W 0 (fun _ => true) true Try.f5.params.toList args.toList ds p := hA0
  rw [Try.params5] at hA hval
  obtain ⟨v0, vs0, d0, ds0, p0, q0, hargs, rfl, rfl, h0, r0⟩ := trodAll_cons hA
  obtain ⟨rfl, rfl, rfl⟩ := trodAll_nil r0
  obtain rfl : args = #[v0] := by cases args; simp_all
  obtain ⟨rfl, rfl⟩ := trodVars_none hV
  have k0 := h0
  have lt0 : ∀ x ∈ p0, x.block < W.heap.size := by obtain ⟨m, hm⟩ := k0; exact DataW.trod_lt m _ _ _ hm
  obtain ⟨v0_0, v0_1, v0_2, y0_0, y0_1, y0_2, m0, rfl, _, _, g0_0, g0_1, g0_2⟩ := agg_3 Try.underlying37 (by kernel_rfl) (by kernel_rfl) (hval 0 37 v0 rfl rfl) h0
  obtain ⟨n0_0, rfl, wf0_0⟩ := open_int1 Try.underlying3 g0_0
  obtain ⟨n0_1, rfl, wf0_1⟩ := open_int1 Try.underlying3 g0_1
  obtain ⟨A0_2, c0_2, l0_2, rfl, hc0_2, hv0_2, wf0_2⟩ := open_nums Try.underlying22 Try.underlying5 (by kernel_rfl) g0_2
  clear hA0 hval0 hsz0
  refine (HandFrames.frames_walk n0_0 n0_1 A0_2 c0_2 l0_2 W (wf_i64 wf0_0) (wf_i64 wf0_1) ⟨hv0_2⟩ ⟨hc0_2⟩ (fun x hx => wf_u8 (wf0_2 x hx))).mono fun e W' ⟨he, bel⟩ => ?_
  subst he
  exact ⟨_, rfl, _, _, _, [], _, [], hW', trodAll_mk1 (shut_bool Try.underlying4 _), (trodAll_cons_mk (Below.trod laidOut (by kernel_rfl) (of_decide_eq_true (by kernel_rfl)) k0 bel lt0) trodAll_mk0), rfl, bel.frame _, fun h => by cases h⟩
theorem over : Rows.mbapFramesRow.holds Try.pinned (OpenSpec.ofChange Rows.mbapFramesSpec) :=
  OpenClaim.holds_of_wide 5 Try.f5 rfl rfl rfl rfl rfl rfl rfl ⟨rfl, rfl, rfl, rfl, rfl⟩ rfl rfl rfl rfl rfl (by kernel_rfl) Try.func5 (by kernel_rfl)
    (of_decide_eq_true (by kernel_rfl)) (by unfold Func.isWrapper; first | (rw [if_pos (by decide +kernel)]; kernel_rfl) | (rw [if_neg (by decide +kernel)]; exact ⟨rfl, rfl⟩))
    (fun os started H enc _ => lifted os started H enc)
theorem proved : Rows.MbapFramesSaid := over
#print axioms proved
end Go.Proofs.Ytabjlanomebonaa.mbapFrames
namespace Go.Proofs.Ytabjlanomebonaa
/-- The row, under a short name, for the claim. -/
theorem mbapFrames_holds : Rows.MbapFramesSaid := mbapFrames.proved
end Go.Proofs.Ytabjlanomebonaa

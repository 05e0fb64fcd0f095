/- MbapParts: whatever the frames and however their bytes are parted, they are told as they were and nothing is left: the call returns true, and the input reads as it did. -/
import Derived.Test.YtabjlanomebonaaRows
import Derived.Test.YtabjlanomebonaaHandMParts
import Derived.Test.YtabjlanomebonaaOpen
namespace Go.Proofs.Ytabjlanomebonaa.mbapParts
open Go.ChangeShapes Go.WideShapes Go.ChangeAt Go.RowKit Go.Proofs.Ytabjlanomebonaa.Open
set_option linter.unusedVariables false
theorem own : ownKnob Try.prog.godebug = none := by kernel_rfl
theorem laidOut : laidOutB Try.prog = true := by kernel_rfl
set_option maxRecDepth 100000 in
set_option maxHeartbeats 2000000 in
theorem lifted (os : Os) (started : os.Started) (H : Type) (enc : TypeId × Value → H) :
    ReturnsInHanded {} Try.checked os 7 .any (Rows.mbapPartsSpec.pre6 enc Try.prog Try.f7 Rows.mbapPartsRow.domain false) (Rows.mbapPartsSpec.post enc Try.prog Try.f7 false true false false) := by
  refine returnsInHanded_of_change_sized (C := Try.checked) own started (by kernel_rfl) Try.func7
    (ChangeSpec.witness6 (enc := enc) (C := Try.checked) false ⟨#[], #[.slice none 0 0, .slice none 0 0], []⟩ 8 (by kernel_rfl) (by kernel_rfl) (by kernel_rfl) (by kernel_rfl)) ?_
  intro W base args ds gs before hval0 hW hcnd hsz0 _
  have hval : ∀ (j : Nat) t v, Try.f7.params[j]? = some t → args[j]? = some v → Value.okWide Try.prog W .any base t v := hval0
  have hW' := hW
  obtain ⟨p, q, hA0, hV, rfl, hfz, hnd⟩ := hW
  have hA : DataW.TrodAll enc Try.prog W 0 (fun _ => true) true Try.f7.params.toList args.toList ds p := hA0
  rw [Try.params7] at hA hval
  obtain ⟨v0, vs0, d0, ds0, p0, q0, hargs, rfl, rfl, h0, r0⟩ := trodAll_cons hA
  obtain ⟨v1, vs1, d1, ds1, p1, q1, rfl, rfl, rfl, h1, r1⟩ := trodAll_cons r0
  obtain ⟨rfl, rfl, rfl⟩ := trodAll_nil r1
  obtain rfl : args = #[v0, v1] := by cases args; simp_all
  obtain ⟨rfl, rfl⟩ := trodVars_none hV
  have k0 := h0
  have lt0 : ∀ x ∈ p0, x.block < W.heap.size := by obtain ⟨m, hm⟩ := k0; exact DataW.trod_lt m _ _ _ hm
  obtain ⟨A0, n0, c0, rfl⟩ := okWide_slice Try.underlying45 (hval 0 45 v0 rfl rfl)
  obtain ⟨fuel0, hf0⟩ := h0
  simp only [Value.cells] at hf0
  obtain ⟨A0', c0', l0, hvv0, hc0, hv0, wf0⟩ := OpenS.open_T37 hf0
  simp only [Value.slice.injEq] at hvv0
  obtain ⟨rfl, rfl, rfl⟩ := hvv0
  have k1 := h1
  have lt1 : ∀ x ∈ p1, x.block < W.heap.size := by obtain ⟨m, hm⟩ := k1; exact DataW.trod_lt m _ _ _ hm
  obtain ⟨A1, n1, c1, rfl⟩ := okWide_slice Try.underlying23 (hval 1 23 v1 rfl rfl)
  obtain ⟨fuel1, hf1⟩ := h1
  simp only [Value.cells] at hf1
  obtain ⟨A1', c1', l1, hvv1, hc1, hv1, wf1⟩ := open_nums Try.underlying23 Try.underlying3 (by kernel_rfl) hf1
  simp only [Value.slice.injEq] at hvv1
  obtain ⟨rfl, rfl, rfl⟩ := hvv1
  clear hA0 hval0 hsz0
  refine (HandMParts.mp_walk A0 c0 l0 A1 c1 l1 W ⟨hv0⟩ ⟨hc0⟩ wf0 ⟨hv1⟩ ⟨hc1⟩ (fun x hx => wf_i64 (wf1 x hx))).mono fun e W' ⟨he, bel⟩ => ?_
  subst he
  exact ⟨_, rfl, _, _, _, [], _, [], hW', trodAll_mk1 (shut_bool Try.underlying4 _), (trodAll_cons_mk (Below.trod laidOut (by kernel_rfl) (of_decide_eq_true (by kernel_rfl)) k0 bel lt0) (trodAll_cons_mk (Below.trod laidOut (by kernel_rfl) (of_decide_eq_true (by kernel_rfl)) k1 bel lt1) trodAll_mk0)), rfl, bel.frame _, fun h => by cases h⟩
theorem over : Rows.mbapPartsRow.holds Try.pinned (OpenSpec.ofChange Rows.mbapPartsSpec) :=
  OpenClaim.holds_of_wide 7 Try.f7 rfl rfl rfl rfl rfl rfl rfl ⟨rfl, rfl, rfl, rfl, rfl⟩ rfl rfl rfl rfl rfl (by kernel_rfl) Try.func7 (by kernel_rfl)
    (of_decide_eq_true (by kernel_rfl)) (by unfold Func.isWrapper; first | (rw [if_pos (by decide +kernel)]; kernel_rfl) | (rw [if_neg (by decide +kernel)]; exact ⟨rfl, rfl⟩))
    (fun os started H enc _ => lifted os started H enc)
theorem proved : Rows.MbapPartsSaid := over
#print axioms proved
end Go.Proofs.Ytabjlanomebonaa.mbapParts
namespace Go.Proofs.Ytabjlanomebonaa
/-- The row, under a short name, for the claim. -/
theorem mbapParts_holds : Rows.MbapPartsSaid := mbapParts.proved
end Go.Proofs.Ytabjlanomebonaa

/- MbapFeeds: a stream fed part by part tells just what is told of all that was fed, and what was fed may be written over; for all parts. -/
import Derived.Test.YtabjlanomebonaaRows
import Derived.Test.YtabjlanomebonaaYFdW
import Derived.Test.YtabjlanomebonaaYOpen
namespace Go.Proofs.Ytabjlanomebonaa.mbapFeeds
open Go.ChangeShapes Go.WideShapes Go.ChangeAt Go.RowKit Go.Proofs.Ytabjlanomebonaa.Open
set_option linter.unusedVariables false
theorem own : ownKnob Try.prog.godebug = none := by kernel_rfl
theorem laidOut : laidOutB Try.prog = true := by kernel_rfl
set_option maxRecDepth 100000 in
set_option maxHeartbeats 2000000 in
theorem lifted (os : Os) (started : os.Started) (H : Type) (enc : TypeId × Value → H) :
    ReturnsInHanded {} Try.checked os 6 .any (Rows.mbapFeedsSpec.pre6 enc Try.prog Try.f6 Rows.mbapFeedsRow.domain false) (Rows.mbapFeedsSpec.post enc Try.prog Try.f6 false true false false) := by
  refine returnsInHanded_of_change_sized (C := Try.checked) own started (by kernel_rfl) Try.func6
    (ChangeSpec.witness6 (enc := enc) (C := Try.checked) false ⟨#[], #[.slice none 0 0], []⟩ 8 (by kernel_rfl) (by kernel_rfl) (by kernel_rfl) (by kernel_rfl)) ?_
  intro W base args ds gs before hval0 hW hcnd hsz0 _
  have hval : ∀ (j : Nat) t v, Try.f6.params[j]? = some t → args[j]? = some v → Value.okWide Try.prog W .any base t v := hval0
  have hW' := hW
  obtain ⟨p, q, hA0, hV, rfl, hfz, hnd⟩ := hW
  have hA : DataW.TrodAll enc Try.prog W 0 (fun _ => true) true Try.f6.params.toList args.toList ds p := hA0
  rw [Try.params6] at hA hval
  obtain ⟨v0, vs0, d0, ds0, p0, q0, hargs, rfl, rfl, h0, r0⟩ := trodAll_cons hA
  obtain ⟨rfl, rfl, rfl⟩ := trodAll_nil r0
  obtain rfl : args = #[v0] := by cases args; simp_all
  obtain ⟨rfl, rfl⟩ := trodVars_none hV
  have k0 := h0
  have lt0 : ∀ x ∈ p0, x.block < W.heap.size := by obtain ⟨m, hm⟩ := k0; exact DataW.trod_lt m _ _ _ hm
  obtain ⟨A0, n0, c0, rfl⟩ := okWide_slice Try.underlying28 (hval 0 28 v0 rfl rfl)
  obtain ⟨fuel0, hf0⟩ := h0
  simp only [Value.cells] at hf0
  obtain ⟨A0', c0', l0, hvv0, hc0, hv0, wf0⟩ := Go.Proofs.Ytabjlanomebonaa.FdW.open_parts (ds := []) (gs := []) (by rw [Try.params6] at hsz0; exact hsz0) hf0
  simp only [Value.slice.injEq] at hvv0
  obtain ⟨rfl, rfl, rfl⟩ := hvv0
  clear hA0 hval0 hsz0
  refine (Go.Proofs.Ytabjlanomebonaa.FdW.feeds_walk A0 c0 l0 W ⟨hv0⟩ ⟨hc0⟩ wf0).mono fun e W' ⟨he, bel⟩ => ?_
  subst he
  exact ⟨_, rfl, _, _, _, [], _, [], hW', trodAll_mk1 (shut_bool Try.underlying4 _), (trodAll_cons_mk (Below.trod laidOut (by kernel_rfl) (of_decide_eq_true (by kernel_rfl)) k0 bel lt0) trodAll_mk0), rfl, bel.frame _, fun h => by cases h⟩
theorem over : Rows.mbapFeedsRow.holds Try.pinned (OpenSpec.ofChange Rows.mbapFeedsSpec) :=
  OpenClaim.holds_of_wide 6 Try.f6 rfl rfl rfl rfl rfl rfl rfl ⟨rfl, rfl, rfl, rfl, rfl⟩ rfl rfl rfl rfl rfl (by kernel_rfl) Try.func6 (by kernel_rfl)
    (of_decide_eq_true (by kernel_rfl)) (by unfold Func.isWrapper; first | (rw [if_pos (by decide +kernel)]; kernel_rfl) | (rw [if_neg (by decide +kernel)]; exact ⟨rfl, rfl⟩))
    (fun os started H enc _ => lifted os started H enc)
theorem proved : Rows.MbapFeedsSaid := over
#print axioms proved
end Go.Proofs.Ytabjlanomebonaa.mbapFeeds
namespace Go.Proofs.Ytabjlanomebonaa
/-- The row, under a short name, for the claim. -/
theorem mbapFeeds_holds : Rows.MbapFeedsSaid := mbapFeeds.proved
end Go.Proofs.Ytabjlanomebonaa

/- SlaveReads: whatever the sizes, the numbers set ahead and the request, what is written is read and nothing else is turned: the call returns true, and the input reads as it did. -/
import Derived.Test.YtocicifgglkaeaaRows
import Derived.Test.YtocicifgglkaeaaYHandSReads
import Derived.Test.YtocicifgglkaeaaYOpen
namespace Go.Proofs.Ytocicifgglkaeaa.slaveReads
open Go.ChangeShapes Go.WideShapes Go.ChangeAt Go.RowKit Go.Proofs.Ytocicifgglkaeaa.Open
set_option linter.unusedVariables false
theorem own : ownKnob Try.prog.godebug = none := by kernel_rfl
theorem laidOut : laidOutB Try.prog = true := by kernel_rfl
set_option maxRecDepth 100000 in
set_option maxHeartbeats 2000000 in
theorem lifted (os : Os) (started : os.Started) (H : Type) (enc : TypeId × Value → H) :
    ReturnsInHanded {} Try.checked os 5 .any (Rows.slaveReadsSpec.pre6 enc Try.prog Try.f5 Rows.slaveReadsRow.domain false) (Rows.slaveReadsSpec.post enc Try.prog Try.f5 false true false false) := by
  refine returnsInHanded_of_change_sized (C := Try.checked) own started (by kernel_rfl) Try.func5
    (ChangeSpec.witness6 (enc := enc) (C := Try.checked) false ⟨#[], #[.int .i64 0, .int .i64 0, .slice none 0 0, .agg #[.int .i64 0, .int .i64 0, .int .i64 0, .slice none 0 0, .int .i64 0, .int .i64 0, .int .i64 0]], []⟩ 8 (by kernel_rfl) (by kernel_rfl) (by kernel_rfl) (by kernel_rfl)) ?_
  intro W base args ds gs before hval0 hW hcnd hsz0 _
  have hval : ∀ (j : Nat) t v, Try.f5.params[j]? = some t → args[j]? = some v → Value.okWide Try.prog W .any base t v := hval0
  have hW' := hW
  obtain ⟨p, q, hA0, hV, rfl, hfz, hnd⟩ := hW
  have hA : DataW.TrodAll enc Try.prog W 0 (fun _ => true) true Try.f5.params.toList args.toList ds p := hA0
  rw [Try.params5] at hA hval
  obtain ⟨v0, vs0, d0, ds0, p0, q0, hargs, rfl, rfl, h0, r0⟩ := trodAll_cons hA
  obtain ⟨v1, vs1, d1, ds1, p1, q1, rfl, rfl, rfl, h1, r1⟩ := trodAll_cons r0
  obtain ⟨v2, vs2, d2, ds2, p2, q2, rfl, rfl, rfl, h2, r2⟩ := trodAll_cons r1
  obtain ⟨v3, vs3, d3, ds3, p3, q3, rfl, rfl, rfl, h3, r3⟩ := trodAll_cons r2
  obtain ⟨rfl, rfl, rfl⟩ := trodAll_nil r3
  obtain rfl : args = #[v0, v1, v2, v3] := by cases args; simp_all
  obtain ⟨rfl, rfl⟩ := trodVars_none hV
  obtain ⟨n0, rfl, rfl, rfl, w0⟩ := open_int Try.underlying3 (hval 0 3 v0 rfl rfl) h0
  obtain ⟨n1, rfl, rfl, rfl, w1⟩ := open_int Try.underlying3 (hval 1 3 v1 rfl rfl) h1
  have k2 := h2
  have lt2 : ∀ x ∈ p2, x.block < W.heap.size := by obtain ⟨m, hm⟩ := k2; exact DataW.trod_lt m _ _ _ hm
  obtain ⟨A2, n2, c2, rfl⟩ := okWide_slice Try.underlying22 (hval 2 22 v2 rfl rfl)
  obtain ⟨fuel2, hf2⟩ := h2
  simp only [Value.cells] at hf2
  obtain ⟨A2', c2', l2, hvv2, hc2, hv2, wf2⟩ := open_nums Try.underlying22 Try.underlying3 (by kernel_rfl) hf2
  simp only [Value.slice.injEq] at hvv2
  obtain ⟨rfl, rfl, rfl⟩ := hvv2
  have k3 := h3
  have lt3 : ∀ x ∈ p3, x.block < W.heap.size := by obtain ⟨m, hm⟩ := k3; exact DataW.trod_lt m _ _ _ hm
  obtain ⟨v3_0, v3_1, v3_2, v3_3, v3_4, v3_5, v3_6, y3_0, y3_1, y3_2, y3_3, y3_4, y3_5, y3_6, m3, rfl, _, _, g3_0, g3_1, g3_2, g3_3, g3_4, g3_5, g3_6⟩ := agg_7 Try.underlying24 (by kernel_rfl) (by kernel_rfl) (hval 3 24 v3 rfl rfl) h3
  obtain ⟨n3_0, rfl, wf3_0⟩ := open_int1 Try.underlying3 g3_0
  obtain ⟨n3_1, rfl, wf3_1⟩ := open_int1 Try.underlying3 g3_1
  obtain ⟨n3_2, rfl, wf3_2⟩ := open_int1 Try.underlying3 g3_2
  obtain ⟨A3_3, c3_3, l3_3, rfl, hc3_3, hv3_3, wf3_3⟩ := open_nums Try.underlying22 Try.underlying3 (by kernel_rfl) g3_3
  obtain ⟨n3_4, rfl, wf3_4⟩ := open_int1 Try.underlying3 g3_4
  obtain ⟨n3_5, rfl, wf3_5⟩ := open_int1 Try.underlying3 g3_5
  obtain ⟨n3_6, rfl, wf3_6⟩ := open_int1 Try.underlying3 g3_6
  clear hA0 hval0 hsz0
  refine (Go.Proofs.Ytocicifgglkaeaa.HandSReads.reads_walk n0 n1 A2 c2 l2 n3_0 n3_1 n3_2 A3_3 c3_3 l3_3 n3_4 n3_5 n3_6 W (wf_i64 w0) (wf_i64 w1) ⟨hv2⟩ ⟨hc2⟩ (fun x hx => wf_i64 (wf2 x hx)) (wf_i64 wf3_0) (wf_i64 wf3_1) (wf_i64 wf3_2) ⟨hv3_3⟩ ⟨hc3_3⟩ (fun x hx => wf_i64 (wf3_3 x hx)) (wf_i64 wf3_4) (wf_i64 wf3_5) (wf_i64 wf3_6)).mono fun e W' ⟨he, bel⟩ => ?_
  subst he
  exact ⟨_, rfl, _, _, _, [], _, [], hW', trodAll_mk1 (shut_bool Try.underlying4 _), (trodAll_cons_mk (shut_int Try.underlying3 w0) (trodAll_cons_mk (shut_int Try.underlying3 w1) (trodAll_cons_mk (Below.trod laidOut (by kernel_rfl) (of_decide_eq_true (by kernel_rfl)) k2 bel lt2) (trodAll_cons_mk (Below.trod laidOut (by kernel_rfl) (of_decide_eq_true (by kernel_rfl)) k3 bel lt3) trodAll_mk0)))), rfl, bel.frame _, fun h => by cases h⟩
theorem over : Rows.slaveReadsRow.holds Try.pinned (OpenSpec.ofChange Rows.slaveReadsSpec) :=
  OpenClaim.holds_of_wide 5 Try.f5 rfl rfl rfl rfl rfl rfl rfl ⟨rfl, rfl, rfl, rfl, rfl⟩ rfl rfl rfl rfl rfl (by kernel_rfl) Try.func5 (by kernel_rfl)
    (of_decide_eq_true (by kernel_rfl)) (by unfold Func.isWrapper; first | (rw [if_pos (by decide +kernel)]; kernel_rfl) | (rw [if_neg (by decide +kernel)]; exact ⟨rfl, rfl⟩))
    (fun os started H enc _ => lifted os started H enc)
theorem proved : Rows.SlaveReadsSaid := over
#print axioms proved
end Go.Proofs.Ytocicifgglkaeaa.slaveReads
namespace Go.Proofs.Ytocicifgglkaeaa
/-- The row, under a short name, for the claim. -/
theorem slaveReads_holds : Rows.SlaveReadsSaid := slaveReads.proved
end Go.Proofs.Ytocicifgglkaeaa

/- SlaveNil: whatever the request and the numbers, a slave that is nil answers ErrNil: the call returns true, and the input reads as it did. -/
import Derived.Test.YtocicifgglkaeaaRows
import Derived.Test.YtocicifgglkaeaaYHandSNil
import Derived.Test.YtocicifgglkaeaaYOpen
namespace Go.Proofs.Ytocicifgglkaeaa.slaveNil
open Go.ChangeShapes Go.WideShapes Go.ChangeAt Go.RowKit Go.Proofs.Ytocicifgglkaeaa.Open
set_option linter.unusedVariables false
theorem own : ownKnob Try.prog.godebug = none := by kernel_rfl
theorem laidOut : laidOutB Try.prog = true := by kernel_rfl
set_option maxRecDepth 100000 in
set_option maxHeartbeats 2000000 in
theorem lifted (os : Os) (started : os.Started) (H : Type) (enc : TypeId × Value → H) :
    ReturnsInHanded {} Try.checked os 6 .any (Rows.slaveNilSpec.pre6 enc Try.prog Try.f6 Rows.slaveNilRow.domain false) (Rows.slaveNilSpec.post enc Try.prog Try.f6 false true false false) := by
  refine returnsInHanded_of_change_sized (C := Try.checked) own started (by kernel_rfl) Try.func6
    (ChangeSpec.witness6 (enc := enc) (C := Try.checked) false ⟨#[], #[.agg #[.int .i64 0, .int .i64 0, .int .i64 0, .slice none 0 0, .int .i64 0, .int .i64 0, .int .i64 0], .int .i64 0, .int .i64 0], []⟩ 8 (by kernel_rfl) (by kernel_rfl) (by kernel_rfl) (by kernel_rfl)) ?_
  intro W base args ds gs before hval0 hW hcnd hsz0 _
  have hval : ∀ (j : Nat) t v, Try.f6.params[j]? = some t → args[j]? = some v → Value.okWide Try.prog W .any base t v := hval0
  have hW' := hW
  obtain ⟨p, q, hA0, hV, rfl, hfz, hnd⟩ := hW
  have hA : DataW.TrodAll enc Try.prog W 0 (fun _ => true) true Try.f6.params.toList args.toList ds p := hA0
  rw [Try.params6] at hA hval
  obtain ⟨v0, vs0, d0, ds0, p0, q0, hargs, rfl, rfl, h0, r0⟩ := trodAll_cons hA
  obtain ⟨v1, vs1, d1, ds1, p1, q1, rfl, rfl, rfl, h1, r1⟩ := trodAll_cons r0
  obtain ⟨v2, vs2, d2, ds2, p2, q2, rfl, rfl, rfl, h2, r2⟩ := trodAll_cons r1
  obtain ⟨rfl, rfl, rfl⟩ := trodAll_nil r2
  obtain rfl : args = #[v0, v1, v2] := by cases args; simp_all
  obtain ⟨rfl, rfl⟩ := trodVars_none hV
  have k0 := h0
  have lt0 : ∀ x ∈ p0, x.block < W.heap.size := by obtain ⟨m, hm⟩ := k0; exact DataW.trod_lt m _ _ _ hm
  obtain ⟨v0_0, v0_1, v0_2, v0_3, v0_4, v0_5, v0_6, y0_0, y0_1, y0_2, y0_3, y0_4, y0_5, y0_6, m0, rfl, _, _, g0_0, g0_1, g0_2, g0_3, g0_4, g0_5, g0_6⟩ := agg_7 Try.underlying24 (by kernel_rfl) (by kernel_rfl) (hval 0 24 v0 rfl rfl) h0
  obtain ⟨n0_0, rfl, wf0_0⟩ := open_int1 Try.underlying3 g0_0
  obtain ⟨n0_1, rfl, wf0_1⟩ := open_int1 Try.underlying3 g0_1
  obtain ⟨n0_2, rfl, wf0_2⟩ := open_int1 Try.underlying3 g0_2
  obtain ⟨A0_3, c0_3, l0_3, rfl, hc0_3, hv0_3, wf0_3⟩ := open_nums Try.underlying22 Try.underlying3 (by kernel_rfl) g0_3
  obtain ⟨n0_4, rfl, wf0_4⟩ := open_int1 Try.underlying3 g0_4
  obtain ⟨n0_5, rfl, wf0_5⟩ := open_int1 Try.underlying3 g0_5
  obtain ⟨n0_6, rfl, wf0_6⟩ := open_int1 Try.underlying3 g0_6
  obtain ⟨n1, rfl, rfl, rfl, w1⟩ := open_int Try.underlying3 (hval 1 3 v1 rfl rfl) h1
  obtain ⟨n2, rfl, rfl, rfl, w2⟩ := open_int Try.underlying3 (hval 2 3 v2 rfl rfl) h2
  clear hA0 hval0 hsz0
  refine (Go.Proofs.Ytocicifgglkaeaa.HandSNil.nil_walk n0_0 n0_1 n0_2 A0_3 c0_3 l0_3 n0_4 n0_5 n0_6 n1 n2 W (wf_i64 wf0_0) (wf_i64 wf0_1) (wf_i64 wf0_2) ⟨hv0_3⟩ ⟨hc0_3⟩ (fun x hx => wf_i64 (wf0_3 x hx)) (wf_i64 wf0_4) (wf_i64 wf0_5) (wf_i64 wf0_6) (wf_i64 w1) (wf_i64 w2)).mono fun e W' ⟨he, bel⟩ => ?_
  subst he
  exact ⟨_, rfl, _, _, _, [], _, [], hW', trodAll_mk1 (shut_bool Try.underlying4 _), (trodAll_cons_mk (Below.trod laidOut (by kernel_rfl) (of_decide_eq_true (by kernel_rfl)) k0 bel lt0) (trodAll_cons_mk (shut_int Try.underlying3 w1) (trodAll_cons_mk (shut_int Try.underlying3 w2) trodAll_mk0))), rfl, bel.frame _, fun h => by cases h⟩
theorem over : Rows.slaveNilRow.holds Try.pinned (OpenSpec.ofChange Rows.slaveNilSpec) :=
  OpenClaim.holds_of_wide 6 Try.f6 rfl rfl rfl rfl rfl rfl rfl ⟨rfl, rfl, rfl, rfl, rfl⟩ rfl rfl rfl rfl rfl (by kernel_rfl) Try.func6 (by kernel_rfl)
    (of_decide_eq_true (by kernel_rfl)) (by unfold Func.isWrapper; first | (rw [if_pos (by decide +kernel)]; kernel_rfl) | (rw [if_neg (by decide +kernel)]; exact ⟨rfl, rfl⟩))
    (fun os started H enc _ => lifted os started H enc)
theorem proved : Rows.SlaveNilSaid := over
#print axioms proved
end Go.Proofs.Ytocicifgglkaeaa.slaveNil
namespace Go.Proofs.Ytocicifgglkaeaa
/-- The row, under a short name, for the claim. -/
theorem slaveNil_holds : Rows.SlaveNilSaid := slaveNil.proved
end Go.Proofs.Ytocicifgglkaeaa

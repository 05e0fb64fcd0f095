/- A parameter that is a script of calls, opened. (printed by gen_slv13.py) -/
import Derived.Test.YtocicifgglkaeaaZD6
import Derived.Test.YtocicifgglkaeaaYOpen
import Derived.Deep.Slices
import Derived.Deep.Fields
namespace Go.Proofs.Ytocicifgglkaeaa.OpenO
open Go.ChangeShapes Go.WideShapes Go.ChangeAt Go.RowKit Go.Joins Go.Deep Go.Proofs.Ytocicifgglkaeaa.Open Go.Proofs.Ytocicifgglkaeaa.SlvO Go.Proofs.YtocicifgglkaeaaW.PrintWords
set_option linter.unusedVariables false
section
variable {H : Type} {enc : TypeId × Value → H} {w : World} {base : Nat} {held : Bool}
set_option maxRecDepth 100000 in
set_option maxHeartbeats 4000000 in
theorem one42 {fuel : Nat} {cs : List Value} {x : DataW H × List MemPlace} (h : DataW.trod enc Try.prog w base (fun _ => true) held fuel 42 cs = some x) (hl : cs.length = 11) :
    ∃ (s : Opc) (A2 : Option Addr) (c2 : Nat), cs = [.int .i64 s.call, .int .i64 s.kind, .int .i64 s.addr, .int .i64 s.val, .int .i64 s.f, .int .i64 s.a, .int .i64 s.c, .slice A2 s.v.length c2, .int .i64 s.t, .int .i64 s.n, .int .i64 s.o] ∧ s.v.length ≤ c2 ∧ Kd.C (Kd.int .i64) w A2 s.v.length s.v := by
  match cs, hl with
  | [v0, v1, v2, v3, v4, v5, v6, v7, v8, v9, v10], _ =>
    obtain ⟨ys, n', hn', hy, hlen, hyl, hf⟩ := DataW.trod_struct Try.underlying42 h
    have h0 := hf 0 _ rfl
    have h1 := hf 1 _ rfl
    have h2 := hf 2 _ rfl
    have h3 := hf 3 _ rfl
    have h4 := hf 4 _ rfl
    match ys, hyl with
    | [y0, y1, y2, y3, y4], _ =>
      have g0 : DataW.trod enc Try.prog w base (fun _ => true) held n' 3 [v0] = some y0 := h0
      have g1 : DataW.trod enc Try.prog w base (fun _ => true) held n' 3 [v1] = some y1 := h1
      have g2 : DataW.trod enc Try.prog w base (fun _ => true) held n' 3 [v2] = some y2 := h2
      have g3 : DataW.trod enc Try.prog w base (fun _ => true) held n' 3 [v3] = some y3 := h3
      have g4 : DataW.trod enc Try.prog w base (fun _ => true) held n' 24 [v4, v5, v6, v7, v8, v9, v10] = some y4 := h4
      obtain ⟨a0, rfl, _⟩ := open_int1 Try.underlying3 g0
      obtain ⟨a1, rfl, _⟩ := open_int1 Try.underlying3 g1
      obtain ⟨a2, rfl, _⟩ := open_int1 Try.underlying3 g2
      obtain ⟨a3, rfl, _⟩ := open_int1 Try.underlying3 g3
      obtain ⟨zs, m', hm', hz, hzl, hzn, hg⟩ := DataW.trod_struct Try.underlying24 g4
      have k0 := hg 0 _ rfl
      have k1 := hg 1 _ rfl
      have k2 := hg 2 _ rfl
      have k3 := hg 3 _ rfl
      have k4 := hg 4 _ rfl
      have k5 := hg 5 _ rfl
      have k6 := hg 6 _ rfl
      match zs, hzn with
      | [z0, z1, z2, z3, z4, z5, z6], _ =>
        have j0 : DataW.trod enc Try.prog w base (fun _ => true) held m' 3 [v4] = some z0 := k0
        have j1 : DataW.trod enc Try.prog w base (fun _ => true) held m' 3 [v5] = some z1 := k1
        have j2 : DataW.trod enc Try.prog w base (fun _ => true) held m' 3 [v6] = some z2 := k2
        have j3 : DataW.trod enc Try.prog w base (fun _ => true) held m' 22 [v7] = some z3 := k3
        have j4 : DataW.trod enc Try.prog w base (fun _ => true) held m' 3 [v8] = some z4 := k4
        have j5 : DataW.trod enc Try.prog w base (fun _ => true) held m' 3 [v9] = some z5 := k5
        have j6 : DataW.trod enc Try.prog w base (fun _ => true) held m' 3 [v10] = some z6 := k6
        obtain ⟨b0, rfl, _⟩ := open_int1 Try.underlying3 j0
        obtain ⟨b1, rfl, _⟩ := open_int1 Try.underlying3 j1
        obtain ⟨b2, rfl, _⟩ := open_int1 Try.underlying3 j2
        obtain ⟨A2, c2, l, rfl, hc, hv, _⟩ := open_nums Try.underlying22 Try.underlying3 (by kernel_rfl) j3
        obtain ⟨b4, rfl, _⟩ := open_int1 Try.underlying3 j4
        obtain ⟨b5, rfl, _⟩ := open_int1 Try.underlying3 j5
        obtain ⟨b6, rfl, _⟩ := open_int1 Try.underlying3 j6
        exact ⟨⟨a0, a1, a2, a3, b0, b1, b2, l, b4, b5, b6⟩, A2, c2, rfl, hc, hv⟩
set_option maxRecDepth 100000 in
set_option maxHeartbeats 4000000 in
theorem open_T42 {fuel : Nat} {v : Value} {x : DataW H × List MemPlace} (hf : DataW.trod enc Try.prog w base (fun _ => true) held fuel 36 [v] = some x) :
    ∃ (A : Option Addr) (c : Nat) (ls : List Opc), v = .slice A ls.length c ∧ ls.length ≤ c ∧ Kd.C k42 w A ls.length ls ∧ True := by
  rcases open_slice Try.underlying36 hf with ⟨hcs, _⟩ | ⟨a, len, cap, m, n, D, Pl, hcs, hb, hl, hm, hmm, hx, hi⟩
  · exact ⟨none, 0, [], by simpa using hcs, Nat.le_refl _, Kd.C_nil _ _, trivial⟩
  have h3 : Try.prog.cellsOf 42 = 11 := by kernel_rfl
  simp only [if_true] at hmm
  have each : ∀ r, r < len → ∃ s : Opc, ∃ (A2 : Option Addr) (c2 : Nat), (∀ (j : Nat) (u : Value), ([.int .i64 s.call, .int .i64 s.kind, .int .i64 s.addr, .int .i64 s.val, .int .i64 s.f, .int .i64 s.a, .int .i64 s.c, .slice A2 s.v.length c2, .int .i64 s.t, .int .i64 s.n, .int .i64 s.o] : List Value)[j]? = some u → w.cell? (a.add (r * 11 + j)) = some u) ∧ s.v.length ≤ c2 ∧ Kd.C (Kd.int .i64) w A2 s.v.length s.v := by
    intro r hr
    obtain ⟨cs', hc, ht'⟩ := hi r (by omega)
    rw [h3] at hc
    obtain ⟨_, hcl, hat⟩ := World.cells?_some hc
    obtain ⟨s, A2, c2, rfl, g1, g2⟩ := one42 ht' hcl
    refine ⟨s, A2, c2, fun j u hu => ?_, g1, g2⟩
    have hj : j < 11 := (List.getElem?_eq_some_iff.1 hu).1
    rw [← Go.Deep.add_add, hat j hj, hu]
  have ex : ∃ f : Nat → Opc, ∀ r, r < len → ∃ (A2 : Option Addr) (c2 : Nat), (∀ (j : Nat) (u : Value), ([.int .i64 (f r).call, .int .i64 (f r).kind, .int .i64 (f r).addr, .int .i64 (f r).val, .int .i64 (f r).f, .int .i64 (f r).a, .int .i64 (f r).c, .slice A2 (f r).v.length c2, .int .i64 (f r).t, .int .i64 (f r).n, .int .i64 (f r).o] : List Value)[j]? = some u → w.cell? (a.add (r * 11 + j)) = some u) ∧ (f r).v.length ≤ c2 ∧ Kd.C (Kd.int .i64) w A2 (f r).v.length (f r).v := by
    refine ⟨fun r => if h : r < len then (each r h).choose else z42, fun r hr => ?_⟩
    have e := (each r hr).choose_spec
    simp only [dif_pos hr]
    exact e
  obtain ⟨f, hf'⟩ := ex
  have hle : ((List.range len).map f).length = len := by simp
  refine ⟨some a, cap, (List.range len).map f, by rw [hle]; simpa using hcs, by omega, ?_, trivial⟩
  rw [hle]
  refine ⟨hle, by unfold maxLen at hm; omega, fun _ => ⟨a, rfl, fun j p hj => ?_⟩⟩
  have hj' : j < len := by have := (List.getElem?_eq_some_iff.1 hj).1; omega
  have hp : f j = p := by simpa [List.getElem?_map, List.getElem?_range hj'] using hj
  obtain ⟨A2, c2, e1, e2, e3⟩ := hf' j hj'
  rw [hp] at e1 e2 e3
  exact ⟨_, rfl, k42_mk w p e2 e3, fun i u hu => e1 i u hu⟩
end
end Go.Proofs.Ytocicifgglkaeaa.OpenO

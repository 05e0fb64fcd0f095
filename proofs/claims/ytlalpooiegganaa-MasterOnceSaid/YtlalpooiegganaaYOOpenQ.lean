/- Parameters that are rows of requests, or of calls, opened. -/
import Derived.Test.YtlalpooiegganaaYOOpen
import Derived.Test.YtlalpooiegganaaZO5
import Derived.Deep.Slices
import Derived.Deep.Fields
namespace Go.Proofs.Ytlalpooiegganaa.OpenQ
open Go.ChangeShapes Go.WideShapes Go.ChangeAt Go.RowKit Go.Joins Go.Deep Go.Proofs.Ytlalpooiegganaa.Open Go.Proofs.Ytlalpooiegganaa.PK Go.Proofs.YtlalpooiegganaaW.PrintWords
set_option linter.unusedVariables false
section
variable {H : Type} {enc : TypeId × Value → H} {w : World} {base : Nat} {held : Bool}
set_option maxRecDepth 100000 in
theorem one31 {fuel : Nat} {cs : List Value} {x : DataW H × List MemPlace} (h : DataW.trod enc Try.prog w base (fun _ => true) held fuel 31 cs = some x) (hl : cs.length = 7) :
 ∃ (s : S31) (A3 : Option Addr) (c3 : Nat), cs = [.int .i64 s.f0, .int .i64 s.f1, .int .i64 s.f2, .slice A3 s.f3.length c3, .int .i64 s.f4, .int .i64 s.f5, .int .i64 s.f6] ∧ s.f3.length ≤ c3 ∧ Kd.C (Kd.int .i64) w A3 s.f3.length s.f3 := by
 match cs, hl with
 | [v0, v1, v2, v3, v4, v5, v6], _ =>
  obtain ⟨ys, n', hn', hy, hlen, hyl, hf⟩ := DataW.trod_struct Try.underlying31 h
  have h0 := hf 0 _ rfl
  have h1 := hf 1 _ rfl
  have h2 := hf 2 _ rfl
  have h3 := hf 3 _ rfl
  have h4 := hf 4 _ rfl
  have h5 := hf 5 _ rfl
  have h6 := hf 6 _ rfl
  match ys, hyl with
  | [y0, y1, y2, y3, y4, y5, y6], _ =>
   have g0 : DataW.trod enc Try.prog w base (fun _ => true) held n' 3 [v0] = some y0 := h0
   have g1 : DataW.trod enc Try.prog w base (fun _ => true) held n' 3 [v1] = some y1 := h1
   have g2 : DataW.trod enc Try.prog w base (fun _ => true) held n' 3 [v2] = some y2 := h2
   have g3 : DataW.trod enc Try.prog w base (fun _ => true) held n' 29 [v3] = some y3 := h3
   have g4 : DataW.trod enc Try.prog w base (fun _ => true) held n' 3 [v4] = some y4 := h4
   have g5 : DataW.trod enc Try.prog w base (fun _ => true) held n' 3 [v5] = some y5 := h5
   have g6 : DataW.trod enc Try.prog w base (fun _ => true) held n' 3 [v6] = some y6 := h6
   obtain ⟨a0, rfl, _⟩ := open_int1 Try.underlying3 g0
   obtain ⟨a1, rfl, _⟩ := open_int1 Try.underlying3 g1
   obtain ⟨a2, rfl, _⟩ := open_int1 Try.underlying3 g2
   obtain ⟨A3, c3, l, rfl, hc, hv, hw⟩ := open_nums Try.underlying29 Try.underlying3 (by kernel_rfl) g3
   obtain ⟨a4, rfl, _⟩ := open_int1 Try.underlying3 g4
   obtain ⟨a5, rfl, _⟩ := open_int1 Try.underlying3 g5
   obtain ⟨a6, rfl, _⟩ := open_int1 Try.underlying3 g6
   exact ⟨⟨a0, a1, a2, l, a4, a5, a6⟩, A3, c3, rfl, hc, hv⟩
set_option maxRecDepth 100000 in
theorem open_T31 {fuel : Nat} {v : Value} {x : DataW H × List MemPlace} (hf : DataW.trod enc Try.prog w base (fun _ => true) held fuel 22 [v] = some x) :
 ∃ (A : Option Addr) (c : Nat) (ls : List S31), v = .slice A ls.length c ∧ ls.length ≤ c ∧ Kd.C k31 w A ls.length ls ∧ True := by
 rcases open_slice Try.underlying22 hf with ⟨hcs, _⟩ | ⟨a, len, cap, m, n, D, Pl, hcs, hb, hl, hm, hmm, hx, hi⟩
 ·exact ⟨none, 0, [], by simpa using hcs, Nat.le_refl _, Kd.C_nil _ _, trivial⟩
 have h3 : Try.prog.cellsOf 31 = 7 := by kernel_rfl
 simp only [if_true] at hmm
 have each : ∀ r, r < len → ∃ s : S31, ∃ (A3 : Option Addr) (c3 : Nat), (∀ (j : Nat) (u : Value), ([.int .i64 s.f0, .int .i64 s.f1, .int .i64 s.f2, .slice A3 s.f3.length c3, .int .i64 s.f4, .int .i64 s.f5, .int .i64 s.f6] : List Value)[j]? = some u → w.cell? (a.add (r * 7 + j)) = some u) ∧ s.f3.length ≤ c3 ∧ Kd.C (Kd.int .i64) w A3 s.f3.length s.f3 := by
  intro r hr
  obtain ⟨cs', hc, ht'⟩ := hi r (by omega)
  rw [h3] at hc
  obtain ⟨_, hcl, hat⟩ := World.cells?_some hc
  obtain ⟨s, A3, c3, rfl, g1, g2⟩ := one31 ht' hcl
  refine ⟨s, A3, c3, fun j u hu => ?_, g1, g2⟩
  have hj : j < 7 := (List.getElem?_eq_some_iff.1 hu).1
  rw [← Go.Deep.add_add, hat j hj, hu]
 have ex : ∃ f : Nat → S31, ∀ r, r < len → ∃ (A3 : Option Addr) (c3 : Nat), (∀ (j : Nat) (u : Value), ([.int .i64 (f r).f0, .int .i64 (f r).f1, .int .i64 (f r).f2, .slice A3 (f r).f3.length c3, .int .i64 (f r).f4, .int .i64 (f r).f5, .int .i64 (f r).f6] : List Value)[j]? = some u → w.cell? (a.add (r * 7 + j)) = some u) ∧ (f r).f3.length ≤ c3 ∧ Kd.C (Kd.int .i64) w A3 (f r).f3.length (f r).f3 := by
  refine ⟨fun r => if h : r < len then (each r h).choose else z31, fun r hr => ?_⟩
  have e := (each r hr).choose_spec
  simp only [dif_pos hr]
  exact e
 obtain ⟨f, hf'⟩ := ex
 have hle : ((List.range len).map f).length = len := by simp
 refine ⟨some a, cap, (List.range len).map f, by rw [hle]; simpa using hcs, by omega, ?_, trivial⟩
 rw [hle]
 refine ⟨hle, by unfold maxLen at hm; omega, fun _ => ⟨a, rfl, fun j p hj => ?_⟩⟩
 have hj' : j < len := by have := (List.getElem?_eq_some_iff.1 hj).1; omega
 have hp : f j = p := by simpa [List.getElem?_map, List.getElem?_range hj'] using hj
 obtain ⟨A3, c3, e1, e2, e3⟩ := hf' j hj'
 rw [hp] at e1 e2 e3
 exact ⟨_, rfl, k31_mk w p e2 e3, fun i u hu => e1 i u hu⟩
def OkB (o : S61) : Prop := ∀ x ∈ o.f4, 0 ≤ x ∧ x < 256
set_option maxRecDepth 100000 in
theorem one61 {fuel : Nat} {cs : List Value} {x : DataW H × List MemPlace} (h : DataW.trod enc Try.prog w base (fun _ => true) held fuel 61 cs = some x) (hl : cs.length = 12) :
 ∃ (s : S61) (A6 : Option Addr) (c6 : Nat) (A10 : Option Addr) (c10 : Nat), cs = [.int .i64 s.f0, .int .i64 s.f1, .int .i64 s.f2, .int .i64 s.f3.f0, .int .i64 s.f3.f1, .int .i64 s.f3.f2, .slice A6 s.f3.f3.length c6, .int .i64 s.f3.f4, .int .i64 s.f3.f5, .int .i64 s.f3.f6, .slice A10 s.f4.length c10, .int .i64 s.f5] ∧ s.f3.f3.length ≤ c6 ∧ Kd.C (Kd.int .i64) w A6 s.f3.f3.length s.f3.f3 ∧ s.f4.length ≤ c10 ∧ Kd.C (Kd.int .u8) w A10 s.f4.length s.f4 ∧ OkB s := by
 match cs, hl with
 | [v0, v1, v2, v3, v4, v5, v6, v7, v8, v9, v10, v11], _ =>
  obtain ⟨ys, n', hn', hy, hlen, hyl, hf⟩ := DataW.trod_struct Try.underlying61 h
  have h0 := hf 0 _ rfl
  have h1 := hf 1 _ rfl
  have h2 := hf 2 _ rfl
  have h3 := hf 3 _ rfl
  have h4 := hf 4 _ rfl
  have h5 := hf 5 _ rfl
  match ys, hyl with
  | [y0, y1, y2, y3, y4, y5], _ =>
   have g0 : DataW.trod enc Try.prog w base (fun _ => true) held n' 3 [v0] = some y0 := h0
   have g1 : DataW.trod enc Try.prog w base (fun _ => true) held n' 3 [v1] = some y1 := h1
   have g2 : DataW.trod enc Try.prog w base (fun _ => true) held n' 3 [v2] = some y2 := h2
   have g3 : DataW.trod enc Try.prog w base (fun _ => true) held n' 31 [v3, v4, v5, v6, v7, v8, v9] = some y3 := h3
   have g4 : DataW.trod enc Try.prog w base (fun _ => true) held n' 43 [v10] = some y4 := h4
   have g5 : DataW.trod enc Try.prog w base (fun _ => true) held n' 3 [v11] = some y5 := h5
   obtain ⟨a0, rfl, _⟩ := open_int1 Try.underlying3 g0
   obtain ⟨a1, rfl, _⟩ := open_int1 Try.underlying3 g1
   obtain ⟨a2, rfl, _⟩ := open_int1 Try.underlying3 g2
   obtain ⟨q, A6, c6, e, k1, k2⟩ := one31 g3 rfl
   obtain ⟨A10, c10, l, rfl, hc, hv, hw⟩ := open_nums Try.underlying43 Try.underlying5 (by kernel_rfl) g4
   obtain ⟨a5, rfl, _⟩ := open_int1 Try.underlying3 g5
   simp only [List.cons.injEq, and_true] at e
   obtain ⟨rfl, rfl, rfl, rfl, rfl, rfl, rfl⟩ := e
   exact ⟨⟨a0, a1, a2, q, l, a5⟩, A6, c6, A10, c10, rfl, k1, k2, hc, hv, fun x hx => wf_u8 (hw x hx)⟩
set_option maxRecDepth 100000 in
theorem open_T61 {fuel : Nat} {v : Value} {x : DataW H × List MemPlace} (hf : DataW.trod enc Try.prog w base (fun _ => true) held fuel 53 [v] = some x) :
 ∃ (A : Option Addr) (c : Nat) (ls : List S61), v = .slice A ls.length c ∧ ls.length ≤ c ∧ Kd.C k61 w A ls.length ls ∧ ∀ s ∈ ls, OkB s := by
 rcases open_slice Try.underlying53 hf with ⟨hcs, _⟩ | ⟨a, len, cap, m, n, D, Pl, hcs, hb, hl, hm, hmm, hx, hi⟩
 ·exact ⟨none, 0, [], by simpa using hcs, Nat.le_refl _, Kd.C_nil _ _, fun s hs => by simp at hs⟩
 have h3 : Try.prog.cellsOf 61 = 12 := by kernel_rfl
 simp only [if_true] at hmm
 have each : ∀ r, r < len → ∃ s : S61, ∃ (A6 : Option Addr) (c6 : Nat) (A10 : Option Addr) (c10 : Nat), (∀ (j : Nat) (u : Value), ([.int .i64 s.f0, .int .i64 s.f1, .int .i64 s.f2, .int .i64 s.f3.f0, .int .i64 s.f3.f1, .int .i64 s.f3.f2, .slice A6 s.f3.f3.length c6, .int .i64 s.f3.f4, .int .i64 s.f3.f5, .int .i64 s.f3.f6, .slice A10 s.f4.length c10, .int .i64 s.f5] : List Value)[j]? = some u → w.cell? (a.add (r * 12 + j)) = some u) ∧ s.f3.f3.length ≤ c6 ∧ Kd.C (Kd.int .i64) w A6 s.f3.f3.length s.f3.f3 ∧ s.f4.length ≤ c10 ∧ Kd.C (Kd.int .u8) w A10 s.f4.length s.f4 ∧ OkB s := by
  intro r hr
  obtain ⟨cs', hc, ht'⟩ := hi r (by omega)
  rw [h3] at hc
  obtain ⟨_, hcl, hat⟩ := World.cells?_some hc
  obtain ⟨s, A6, c6, A10, c10, rfl, g1, g2, g3, g4, g5⟩ := one61 ht' hcl
  refine ⟨s, A6, c6, A10, c10, fun j u hu => ?_, g1, g2, g3, g4, g5⟩
  have hj : j < 12 := (List.getElem?_eq_some_iff.1 hu).1
  rw [← Go.Deep.add_add, hat j hj, hu]
 have ex : ∃ f : Nat → S61, ∀ r, r < len → ∃ (A6 : Option Addr) (c6 : Nat) (A10 : Option Addr) (c10 : Nat), (∀ (j : Nat) (u : Value), ([.int .i64 (f r).f0, .int .i64 (f r).f1, .int .i64 (f r).f2, .int .i64 (f r).f3.f0, .int .i64 (f r).f3.f1, .int .i64 (f r).f3.f2, .slice A6 (f r).f3.f3.length c6, .int .i64 (f r).f3.f4, .int .i64 (f r).f3.f5, .int .i64 (f r).f3.f6, .slice A10 (f r).f4.length c10, .int .i64 (f r).f5] : List Value)[j]? = some u → w.cell? (a.add (r * 12 + j)) = some u) ∧ (f r).f3.f3.length ≤ c6 ∧ Kd.C (Kd.int .i64) w A6 (f r).f3.f3.length (f r).f3.f3 ∧ (f r).f4.length ≤ c10 ∧ Kd.C (Kd.int .u8) w A10 (f r).f4.length (f r).f4 ∧ OkB (f r) := by
  refine ⟨fun r => if h : r < len then (each r h).choose else z61, fun r hr => ?_⟩
  have e := (each r hr).choose_spec
  simp only [dif_pos hr]
  exact e
 obtain ⟨f, hf'⟩ := ex
 have hle : ((List.range len).map f).length = len := by simp
 refine ⟨some a, cap, (List.range len).map f, by rw [hle]; simpa using hcs, by omega, ?_, fun s hs => ?_⟩
 ·rw [hle]
  refine ⟨hle, by unfold maxLen at hm; omega, fun _ => ⟨a, rfl, fun j p hj => ?_⟩⟩
  have hj' : j < len := by have := (List.getElem?_eq_some_iff.1 hj).1; omega
  have hp : f j = p := by simpa [List.getElem?_map, List.getElem?_range hj'] using hj
  obtain ⟨A6, c6, A10, c10, e1, e2, e3, e4, e5, _⟩ := hf' j hj'
  rw [hp] at e1 e2 e3 e4 e5
  exact ⟨_, rfl, k61_mk w p e2 e3 e4 e5, fun i u hu => e1 i u hu⟩
 ·obtain ⟨r, hr', rfl⟩ := List.mem_map.1 hs
  obtain ⟨_, _, _, _, _, _, _, _, _, e6⟩ := hf' r (by simpa using hr')
  exact e6
end
end Go.Proofs.Ytlalpooiegganaa.OpenQ
/- The laws' parameters, opened: as the contracts read them. (printed by rows.py) -/
import Derived.Test.YtlalpooiegganaaZO5
import Derived.WalkKit
import Derived.ProofKit
import Derived.OpenShut
import Derived.ShutString
import Derived.ChangeOld
import Derived.Below
import Derived.SizedLaws
import Derived.Deep.Matrix
import Derived.Lib.SmallJoins
namespace Go.Proofs.Ytlalpooiegganaa.Open
open Go.ChangeShapes Go.WideShapes Go.ChangeAt Go.RowKit Go.Joins Go.Deep Go.Proofs.YtlalpooiegganaaW.PrintWords Go.Proofs.YtlalpooiegganaaW.PrintLast Go.Proofs.YtlalpooiegganaaW.PrintMore
set_option linter.unusedVariables false
set_option linter.unusedSimpArgs false
section
variable {H : Type} {enc : TypeId × Value → H} {P : Program} {w : World} {base : Nat} {held : Bool}
theorem nums_C {k : IntKind} {a : Option Addr} {len cap : Nat} {zs : List Int} (h : (a = none ∧ len = 0 ∧ cap = 0 ∧ zs = []) ∨ ∃ x, a = some x ∧ len ≤ cap ∧ cap ≤ maxLen ∧ zs.length = cap ∧ (∀ i, i < zs.length → w.cell? (x.add i) = some (.int k (zs.getD i 0))) ∧ ∀ n ∈ zs, (Lit.int k n).wf = true) :
 ∃ l : List Int, len = l.length ∧ l.length ≤ cap ∧ Kd.C (Kd.int k) w a l.length l ∧ ∀ x ∈ l, (Lit.int k x).wf = true := by
 obtain ⟨l, e, hr, hm, hw, hc⟩ := ReadsInt.ofRowC h
 exact ⟨l, e, hc, Kd.C_of_reads (d := (0 : Int)) (h1 := fun _ => rfl) hr, hw⟩
theorem open_nums {t e : TypeId} {k : IntKind} (ht : P.underlying t = some (.slice e)) (he : P.underlying e = some (.int k)) (hc : P.cellsOf e = 1) {fuel : Nat} {v : Value} {x : DataW H × List MemPlace} (hf : DataW.trod enc P w base (fun _ => true) held fuel t [v] = some x) :
 ∃ (A : Option Addr) (c : Nat) (l : List Int), v = .slice A l.length c ∧ l.length ≤ c ∧ Kd.C (Kd.int k) w A l.length l ∧ ∀ x ∈ l, (Lit.int k x).wf = true := by
 rcases open_ints ht he hc hf with ⟨hcs, _⟩ | ⟨x, l, c, zs, hcs, _, hl, hm, hz, _, hcell, hwz⟩
 ·obtain ⟨l, e, h1, h2, h3⟩ := nums_C (w := w) (k := k) (a := none) (len := 0) (cap := 0) (zs := []) (.inl ⟨rfl, rfl, rfl, rfl⟩)
  exact ⟨none, 0, l, by rw [← e]; simpa using hcs, h1, h2, h3⟩
 ·obtain ⟨l', e, h1, h2, h3⟩ := nums_C (w := w) (k := k) (a := some x) (len := l) (cap := c) (zs := zs) (.inr ⟨_, rfl, hl, hm, by simpa using hz, hcell, hwz⟩)
  exact ⟨some x, c, l', by rw [← e]; simpa using hcs, h1, h2, h3⟩
theorem open_rows {t e q : TypeId} {k : IntKind} (ht : P.underlying t = some (.slice e)) (he : P.underlying e = some (.slice q)) (hq : P.underlying q = some (.int k)) (ce : P.cellsOf e = 1) (cq : P.cellsOf q = 1) {fuel : Nat} {v : Value} {x : DataW H × List MemPlace} (hf : DataW.trod enc P w base (fun _ => true) held fuel t [v] = some x) :
 ∃ (A : Option Addr) (c : Nat) (ls : List (List Int)), v = .slice A ls.length c ∧ ls.length ≤ c ∧ Kd.C (Kd.slice q (Kd.int k)) w A ls.length ls ∧ ∀ l ∈ ls, ∀ x ∈ l, (Lit.int k x).wf = true := by
 rcases open_int_rows ht he hq ce cq hf with ⟨hcs, _⟩ | ⟨a, len, cap, A, L, C, Z, hcs, _, hl, hm, _, hr⟩
 ·exact ⟨none, 0, [], by simpa using hcs, Nat.le_refl _, Kd.C_nil _ _, fun l hl => by simp at hl⟩
 ·have hrow : ∀ r, r < len → ∃ l : List Int, L r = l.length ∧ l.length ≤ C r ∧ Kd.C (Kd.int k) w (A r) l.length l ∧ (∀ x ∈ l, (Lit.int k x).wf = true) ∧ l = (Z r).take (L r) := by
   intro r hlt
   obtain ⟨_, h1, h2, h3, h4, h5, h6⟩ := hr r (by omega)
   have hlen : ((Z r).take (L r)).length = L r := by rw [List.length_take]; omega
   refine ⟨_, hlen.symm, by omega, ?_, fun x hx => h4 x (List.mem_of_mem_take hx), rfl⟩
   refine Kd.C_of_reads (enc := Value.int k) (d := (0 : Int)) (h1 := fun _ => rfl) (show ReadsInt w k (A r) _ _ from ⟨rfl, by unfold maxLen at h2; omega, fun hp => ?_⟩)
   match hA : A r with
   | none => have := h5 hA; omega
   | some a' =>
    refine ⟨a', rfl, fun j hj => ?_⟩
    have := (h6 a' hA).2 j (by omega)
    rw [this]
    congr 2
    rw [List.getD_eq_getElem?_getD, List.getD_eq_getElem?_getD, List.getElem?_take, if_pos (by omega)]
  have hle : ((List.range len).map fun r => (Z r).take (L r)).length = len := by simp
  refine ⟨some a, cap, (List.range len).map fun r => (Z r).take (L r), by rw [hle]; simpa using hcs, by omega, ?_, fun l hl x hx => ?_⟩
  ·rw [hle]
   refine ⟨hle, by unfold maxLen at hm; omega, fun _ => ⟨a, rfl, fun j p hj => ?_⟩⟩
   have hj' : j < len := by have := (List.getElem?_eq_some_iff.1 hj).1; omega
   have hp : (Z j).take (L j) = p := by simpa [List.getElem?_map, List.getElem?_range hj'] using hj
   obtain ⟨l, e1, e2, e3, _, e5⟩ := hrow j hj'
   refine ⟨[.slice (A j) (L j) (C j)], rfl, ⟨A j, C j, by rw [← hp, ← e5, e1], by rw [← hp, ← e5]; exact e2, by rw [← hp, ← e5]; exact e3⟩, fun i u hu => ?_⟩
   have hi : i = 0 := by have := (List.getElem?_eq_some_iff.1 hu).1; simpa using this
   subst hi
   have hu' : Value.slice (A j) (L j) (C j) = u := by simpa using hu
   rw [← hu', show j * (Kd.slice q (Kd.int k)).sz + 0 = j from by show j * 1 + 0 = j; omega]
   exact (hr j (by omega)).1
  ·obtain ⟨r, hr', rfl⟩ := List.mem_map.1 hl
   obtain ⟨l', _, _, _, e4, e5⟩ := hrow r (by simpa using hr')
   exact e4 x (by rw [e5]; exact hx)
theorem open_int1 {t : TypeId} {k : IntKind} (ht : P.underlying t = some (.int k)) {fuel : Nat} {v : Value} {x : DataW H × List MemPlace} (hf : DataW.trod enc P w base (fun _ => true) held fuel t [v] = some x) : ∃ n : Int, v = .int k n ∧ (Lit.int k n).wf = true := by
 obtain ⟨n, hcs, _, hw⟩ := DataW.trod_int ht hf
 exact ⟨n, by simpa using hcs, hw⟩
theorem wf_u8 {x : Int} (h : (Lit.int .u8 x).wf = true) : 0 ≤ x ∧ x < 256 := by
 have this := h
 simp only [Lit.wf, Bool.and_eq_true, decide_eq_true_eq] at this
 rw [show IntKind.u8.min = 0 from rfl, show IntKind.u8.max = 255 from rfl] at this
 omega
theorem wf_i64 {x : Int} (h : (Lit.int .i64 x).wf = true) : -9223372036854775808 ≤ x ∧ x ≤ 9223372036854775807 := by
 have this := h
 simp only [Lit.wf, Bool.and_eq_true, decide_eq_true_eq] at this
 rw [show IntKind.i64.min = -9223372036854775808 from rfl, show IntKind.i64.max = 9223372036854775807 from rfl] at this
 omega
end
end Go.Proofs.Ytlalpooiegganaa.Open
/- MbapFeeds as its row takes it. (printed by gen_feeds.py) -/
import Derived.Test.YtabjlanomebonaaYHandFeeds
import Derived.Test.YtabjlanomebonaaYOpen
namespace Go.Proofs.Ytabjlanomebonaa.FdW
open Go.ChangeShapes Go.WideShapes Go.ChangeAt Go.RowKit Go.Joins Go.Deep Go.Proofs.YtabjlanomebonaaW.PrintWords Go.Proofs.YtabjlanomebonaaW.PrintLast Go.Proofs.YtabjlanomebonaaW.PrintMore Go.Proofs.Ytabjlanomebonaa.Core Go.Proofs.Ytabjlanomebonaa.Wk Go.Proofs.Ytabjlanomebonaa.FdA Go.Proofs.Ytabjlanomebonaa.HandFeeds Go.Proofs.Ytabjlanomebonaa.Open
set_option linter.unusedVariables false
set_option linter.unusedSimpArgs false
section
variable {H : Type} {enc : TypeId × Value → H} {P : Program} {w : World} {base : Nat} {held : Bool}
theorem weights_all {H : Type} {P : Program} {e : TypeId} : ∀ {ds : List (DataW H)} {d : DataW H} {n : Nat}, d ∈ ds → n ∈ d.weights P e → n ∈ DataW.weightsAll P e ds
  | x :: r, d, n, h, hn => by
    simp only [DataW.weightsAll, List.mem_append]
    rcases List.mem_cons.1 h with rfl | h
    · exact .inl hn
    · exact .inr (weights_all h hn)
theorem open_rowsL {t e q : TypeId} {k : IntKind} (ht : P.underlying t = some (.slice e)) (he : P.underlying e = some (.slice q)) (hq : P.underlying q = some (.int k)) (ce : P.cellsOf e = 1) (cq : P.cellsOf q = 1) {fuel : Nat} {v : Value} {x : DataW H × List MemPlace} (bq : P.bytesOf q = 1) (hf : DataW.trod enc P w base (fun _ => true) held fuel t [v] = some x) (hsz : ∀ n ∈ x.1.weights P t, n ≤ reachBytes) :
    ∃ (A : Option Addr) (c : Nat) (ls : List (List Int)), v = .slice A ls.length c ∧ ls.length ≤ c ∧ Kd.C (Kd.slice q (Kd.int k)) w A ls.length ls ∧ ∀ l ∈ ls, (∀ x ∈ l, (Lit.int k x).wf = true) ∧ l.length ≤ 140737488355328 := by
  rcases open_int_rows ht he hq ce cq hf with ⟨hcs, _⟩ | ⟨a, len, cap, A, L, C, Z, hcs, _, hl, hm, hx, hr⟩
  · exact ⟨none, 0, [], by simpa using hcs, Nat.le_refl _, Kd.C_nil _ _, fun l hl => by simp at hl⟩
  · have hrow : ∀ r, r < len → ∃ l : List Int, L r = l.length ∧ l.length ≤ C r ∧ Kd.C (Kd.int k) w (A r) l.length l ∧ ((∀ x ∈ l, (Lit.int k x).wf = true) ∧ l.length ≤ 140737488355328) ∧ l = (Z r).take (L r) := by
      intro r hlt
      obtain ⟨_, h1, h2, h3, h4, h5, h6⟩ := hr r (by omega)
      have hlen : ((Z r).take (L r)).length = L r := by rw [List.length_take]; omega
      refine ⟨_, hlen.symm, by omega, ?_, ⟨fun x hx => h4 x (List.mem_of_mem_take hx), ?hlen⟩, rfl⟩
      case hlen =>
        rcases hA : A r with _ | a'
        · have := h5 hA; omega
        · subst hx
          have h8 := hsz ((L r + (C r - L r)) * P.bytesOf q) (by
            simp only [DataW.weights, ht]
            refine List.mem_cons_of_mem _ (List.mem_append_left _ (weights_all (List.mem_map.2 ⟨r, List.mem_range.2 hlt, rfl⟩) ?_))
            rw [hA]
            simp only [intRow, DataW.weights, he]
            refine List.mem_cons.2 (.inl ?_)
            congr 1
            simp only [lits, List.length_map, List.length_take, List.length_drop]
            omega)
          rw [bq] at h8
          have := reachBytes_lt
          omega
      refine Kd.C_of_reads (enc := Value.int k) (d := (0 : Int)) (h1 := fun _ => rfl) (show ReadsInt w k (A r) _ _ from ⟨rfl, by unfold maxLen at h2; omega, fun hp => ?_⟩)
      match hA : A r with
      | none => have := h5 hA; omega
      | some a' =>
        refine ⟨a', rfl, fun j hj => ?_⟩
        have := (h6 a' hA).2 j (by omega)
        rw [this]
        congr 2
        rw [List.getD_eq_getElem?_getD, List.getD_eq_getElem?_getD, List.getElem?_take, if_pos (by omega)]
    have hle : ((List.range len).map fun r => (Z r).take (L r)).length = len := by simp
    refine ⟨some a, cap, (List.range len).map fun r => (Z r).take (L r), by rw [hle]; simpa using hcs, by omega, ?_, fun l hl => ?_⟩
    · rw [hle]
      refine ⟨hle, by unfold maxLen at hm; omega, fun _ => ⟨a, rfl, fun j p hj => ?_⟩⟩
      have hj' : j < len := by have := (List.getElem?_eq_some_iff.1 hj).1; omega
      have hp : (Z j).take (L j) = p := by simpa [List.getElem?_map, List.getElem?_range hj'] using hj
      obtain ⟨l, e1, e2, e3, _, e5⟩ := hrow j hj'
      refine ⟨[.slice (A j) (L j) (C j)], rfl, ⟨A j, C j, by rw [← hp, ← e5, e1], by rw [← hp, ← e5]; exact e2, by rw [← hp, ← e5]; exact e3⟩, fun i u hu => ?_⟩
      have hi : i = 0 := by have := (List.getElem?_eq_some_iff.1 hu).1; simpa using this
      subst hi
      have hu' : Value.slice (A j) (L j) (C j) = u := by simpa using hu
      rw [← hu', show j * (Kd.slice q (Kd.int k)).sz + 0 = j from by show j * 1 + 0 = j; omega]
      exact (hr j (by omega)).1
    · obtain ⟨r, hr', rfl⟩ := List.mem_map.1 hl
      obtain ⟨l', _, _, _, e4, e5⟩ := hrow r (by simpa using hr')
      rw [← e5]; exact e4
end
theorem open_parts {H : Type} {enc : TypeId × Value → H} {w : World} {base : Nat} {held : Bool} {fuel : Nat} {v : Value} {d : DataW H} {p : List MemPlace} {ts : List TypeId} {ds gs : List (DataW H)} (hsz : (DataW.weightsEach Try.prog (#[28].toList ++ ts) (d :: ds ++ gs)).all (· ≤ reachBytes) = true) (hf : DataW.trod enc Try.prog w base (fun _ => true) held fuel 28 [v] = some (d, p)) :
    ∃ (A : Option Addr) (c : Nat) (ls : List (List Int)), v = .slice A ls.length c ∧ ls.length ≤ c ∧ Kd.C (Kd.slice 5 (Kd.int .u8)) w A ls.length ls ∧ ∀ l ∈ ls, (∀ x ∈ l, (Lit.int .u8 x).wf = true) ∧ l.length ≤ 140737488355328 :=
  open_rowsL Try.underlying28 Try.underlying22 Try.underlying5 (by kernel_rfl) (by kernel_rfl) (by kernel_rfl) hf (fun n hn => of_decide_eq_true (List.all_eq_true.1 hsz n (DataW.weights_mem_each (j := 0) (t := 28) rfl rfl n hn)))
theorem feeds_walk (A : Option Addr) (c : Nat) (ls : List (List Int)) (w : World) (hv : Aside0 (Kd.C (Kd.slice 5 (Kd.int .u8)) w A ls.length ls)) (hc : Aside0 (ls.length ≤ c)) (hw : ∀ l ∈ ls, (∀ x ∈ l, (Lit.int .u8 x).wf = true) ∧ l.length ≤ 140737488355328) : Calls Try.prog 6 #[.slice A ls.length c] w fun e w' => e = .returned (.bool true) ∧ Below w.heap.size w w' := by
  have hr : RowE (Kd.slice 5 (Kd.int .u8)) (fun k => w.heap.size ≤ k) w A ls.length ls := RowE.old hv.out (fun _ h => h)
  obtain ⟨b, hf, hfew⟩ := few_b (cc := c) hr rfl (fun l hl => (hw l hl).2)
  cases b with
  | false => exact feeds_no A c ls.length w hf
  | true => exact feeds_yes A c ls ls.length w hr rfl (fun l hl x hx => wf_u8 ((hw l hl).1 x hx)) hf (hfew rfl)
end Go.Proofs.Ytabjlanomebonaa.FdW

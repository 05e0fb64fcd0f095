/- Laws for the walks by hand: a copy of bytes, a cut to its own length, what is held made stronger in a region. -/
import Derived.Test.YtmbiofcibnpccaaExtD
namespace Go.Proofs.Ytmbiofcibnpccaa.ExtE
open Go.RowKit Go.Proofs.YtmbiofcibnpccaaW.PrintWords Go.Proofs.YtmbiofcibnpccaaW.PrintLast Go.Proofs.YtmbiofcibnpccaaW.PrintMore Go.Proofs.Ytmbiofcibnpccaa.Ext Go.Proofs.Ytmbiofcibnpccaa.ExtC Go.Proofs.Ytmbiofcibnpccaa.ExtD
set_option linter.unusedVariables false
set_option linter.unusedSimpArgs false

/-- What is held of the world may be made stronger on the way. -/
theorem more_ {P : Program} {ops : Array Oper} {Q : Exit → Act → World → Prop} {md : Region.Mode} {S S' : World → Prop} (hS : ∀ w, S' w → S w) : ∀ (fuel : Nat) (l : Array Bool) (a : Act) (w : World),
    S' w → wpAnyLast P md ops Q S' [] fuel l a w → wpAnyLast P md ops Q S [] fuel l a w
  | 0, _, _, _, _, h => h
  | fuel + 1, l, a, w, hw, h => ⟨h.1, fun i hi => wpOp_mono (fun a' w' hh => ⟨fun hn _ => hS _ (hh.1 hn hw), more_ hS fuel _ a' w' (hh.1 (by simp) hw) hh.2⟩) (h.2 i hi)⟩
theorem more1_ {P : Program} {ops : Array Oper} {Q : Exit → Act → World → Prop} {md : Region.Mode} {S S' : World → Prop} {fuel : Nat} {l : Array Bool} {a : Act} {w : World} (hS : ∀ w, S' w → S w)
    (hw : S' w) (h : S' w → wpAnyLast P md ops Q S' [] fuel l a w) : wpAnyLast P md ops Q S [] fuel l a w := more_ hS fuel l a w hw (h hw)

/-- 'append([]byte{}, x...)': a copy, all that was there stays. -/
theorem wp_copy_lit {P : Program} {ops : Array Oper} {rest : List Oper} {o : Oper} {a : Act} {Q : Exit → Act → World → Prop} {W0 : World} (hgd : o.guard = none) (s x : Operand) (t e : TypeId) (k : IntKind)
    (ho : o.op = .call { callee := .builtin .append, args := #[s, x], argTypes := #[t, t] }) (ht : P.underlying t = some (.slice e)) (hinfo : (P.info? e).map (fun i => (i.zero, i.size, i.bytes)) = some (some (.int k 0), 1, 1))
    (ys : List Int) (A : Option Addr) (c : Nat) (hs : a.eval s = .slice (some ⟨W0.heap.size, 0, none⟩) 0 0) (hx : a.eval x = .slice A ys.length c) (HC : Kd.C (Kd.int k) W0 A ys.length ys) (hl : ys.length ≤ 140737488355328)
    (h : ∀ A' c' w1, Kd.C (Kd.int k) w1 A' ys.length ys → ys.length ≤ c' → Below W0.heap.size W0 w1 → wpList P ops Q rest (a.put o.dst (.slice A' ys.length c')) w1) :
    wpList P ops Q (o :: rest) a (W0.alloc (.cells #[] e)) := by
  have hown := own_lit W0 W0.heap.size e k [] (Nat.le_refl _) (by simp)
  refine print_append_row (w0 := W0) W0.heap.size hgd s x t e k 1 ho ht hinfo (by omega) _ [] ys A ys.length c hs hx hown (ReadsInt.below (Kd.reads_of_C HC) (below_alloc (Below.refl _ _) _)) (below_alloc (Below.refl _ _) _) (by simp) (by simp; omega) ?_
  intro v1 w1 HO HB _ _
  obtain ⟨A1, c1, rfl, hc1, HC1⟩ := Kd.R_reads (Kd.R_of_own (ok := fun _ => True) HO (fun _ _ => trivial))
  exact h A1 c1 w1 HC1 hc1 HB

theorem full3 {P : Program} (t e : TypeId) (kl km : IntKind) {i : TypeInfo} (ht : P.underlying t = some (.slice e)) (hi : P.info? e = some i) (hsz : i.size = 1) (A : Option Addr) (n c : Nat) (hc : n ≤ c) :
    ∀ W : World, (Instr.slice t (.slice A n c) none (some (.int kl (n : Int))) (some (.int km (n : Int)))).run P W = .ok (.slice A n n) W := by
  intro W
  have hel : P.elem t = e := by simp [Program.elem, ht]
  have hu : P.underlying t = some (.slice (P.elem t)) := by rw [hel]; exact ht
  have ha : (A.map fun x => x.add 0) = A := by cases A <;> simp [Addr.add]
  rw [run_slice_hm W t A n c hu kl km (n : Int) (n : Int) (by omega) (by omega) (by omega), hel]
  simp [sizeOf, typeInfo, hi, hsz, sliced, Result.andThen, ha]
end Go.Proofs.Ytmbiofcibnpccaa.ExtE

/- PduParses: whatever the bytes, they are read as the request that the document says, or refused: the call returns true, and the input reads as it did. -/
import Derived.Test.YtocicifgglkaeaaYPHandParses
import Derived.Test.YtocicifgglkaeaaYPMthF
import Derived.Test.YtocicifgglkaeaaYPExtR
namespace Go.Proofs.Ytocicifgglkaeaa.WalkPduParses
open Go.RowKit Go.Proofs.YtocicifgglkaeaaW.PrintWords Go.Proofs.YtocicifgglkaeaaW.PrintLast Go.Proofs.YtocicifgglkaeaaW.PrintMore Go.Proofs.Ytocicifgglkaeaa.ExtF Go.Proofs.Ytocicifgglkaeaa.ExtP Go.Proofs.Ytocicifgglkaeaa.ExtQ Go.Proofs.Ytocicifgglkaeaa.PP Go.Proofs.Ytocicifgglkaeaa.PQ Go.Proofs.Ytocicifgglkaeaa.ExtM Go.Proofs.Ytocicifgglkaeaa.MathP Go.Proofs.Ytocicifgglkaeaa.Mth Go.Proofs.Ytocicifgglkaeaa.MthD Go.Proofs.Ytocicifgglkaeaa.ExtR
set_option linter.unusedVariables false
theorem wf8 {x : Int} (h : (Lit.int .u8 x).wf = true) : 0 ≤ x ∧ x < 256 := by
 have this := h
 simp only [Lit.wf, Bool.and_eq_true, decide_eq_true_eq] at this
 rw [show IntKind.u8.min = 0 from rfl, show IntKind.u8.max = 255 from rfl] at this
 omega
theorem bytes_of {l : List Int} (h : ∀ x ∈ l, (Lit.int .u8 x).wf = true) : Bytes l := fun x hx => wf8 (h x hx)
theorem small_f (fn a1 a2 : Int) (l : List Int) (a4 a5 a6 : Int) : PR.basculelaw03_small.f fn a1 a2 l a4 a5 a6 = some (decide (l.length ≤ 2100)) := by
 unfold PR.basculelaw03_small.f
 exact congrArg some (decide_eq_decide.2 (by omega))
theorem walk (A2 : Option Addr) (len2 cap2 : Nat) (z2 : List Int) (w : World) (w2 : IsRow .u8 w A2 len2 cap2 z2) : Calls Try.prog 8 #[.slice A2 len2 cap2] w fun e w' => e = .returned (.bool true) ∧ Below w.heap.size w w' := by
 obtain ⟨b, rfl, hr2, hm2, hw2, hc2⟩ := ReadsInt.ofRowC w2
 have HV_b := Aside0.mk (Kd.C_of_reads (d := (0 : Int)) (h1 := fun _ => rfl) hr2)
 have HC_b := Aside0.mk hc2
 have hby : Bytes b := bytes_of hw2
 obtain ⟨K, hK⟩ : ∃ K, 300000 ≤ K := ⟨300000, Nat.le_refl _⟩
 by_cases hb6 : (600 : Int) < (b.length : Int)
 case pos => exact HandParses.parses_long A2 cap2 b w HV_b HC_b (decide_eq_true hb6)
 have h2 := decide_eq_false hb6
 obtain ⟨f0, f1, f2, pl, f4, f5, f6, h | h⟩ := MthF.rparse K (by omega) hby (by omega)
 ·exact HandParses.parses_all K A2 cap2 b f0 f1 f2 pl f4 f5 f6 w HV_b HC_b h2 (by omega) ⟨h.1⟩ ⟨h.2.1⟩ ⟨same_f K f0 f1 f2 pl f4 f5 f6 (by omega) (by omega)⟩
 ·exact HandParses.parses_not K A2 cap2 b 0 0 0 [] 0 0 0 0 0 0 [] 0 0 0 w HV_b HC_b h2 (by omega) ⟨h.1⟩ ⟨h.2⟩ ⟨same_f K 0 0 0 [] 0 0 0 (by simp) (by simp; omega)⟩
end Go.Proofs.Ytocicifgglkaeaa.WalkPduParses
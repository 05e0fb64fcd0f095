/- PduReads: whatever the request and the bytes, they are read as the answer that the document says, or refused: the call returns true, and the input reads as it did. -/
import Derived.Test.YtocicifgglkaeaaYRHandReads
import Derived.Test.YtocicifgglkaeaaYRMthE
import Derived.Test.YtocicifgglkaeaaYRExtR
namespace Go.Proofs.Ytocicifgglkaeaa.WalkPduReads
open Go.RowKit Go.Proofs.YtocicifgglkaeaaW.PrintWords Go.Proofs.YtocicifgglkaeaaW.PrintLast Go.Proofs.YtocicifgglkaeaaW.PrintMore Go.Proofs.Ytocicifgglkaeaa.ExtF Go.Proofs.Ytocicifgglkaeaa.ExtP Go.Proofs.Ytocicifgglkaeaa.ExtQ Go.Proofs.Ytocicifgglkaeaa.PP Go.Proofs.Ytocicifgglkaeaa.PQ Go.Proofs.Ytocicifgglkaeaa.ExtM Go.Proofs.Ytocicifgglkaeaa.MathP Go.Proofs.Ytocicifgglkaeaa.Mth Go.Proofs.Ytocicifgglkaeaa.MthD Go.Proofs.Ytocicifgglkaeaa.ExtR
set_option linter.unusedVariables false
theorem wf8 {x : Int} (h : (Lit.int .u8 x).wf = true) : 0 ≤ x ∧ x < 256 := by
 have this := h
 simp only [Lit.wf, Bool.and_eq_true, decide_eq_true_eq] at this
 rw [show IntKind.u8.min = 0 from rfl, show IntKind.u8.max = 255 from rfl] at this
 omega
theorem bytes_of {l : List Int} (h : ∀ x ∈ l, (Lit.int .u8 x).wf = true) : Bytes l := fun x hx => wf8 (h x hx)
theorem small_f (fn a1 a2 : Int) (l : List Int) (a4 a5 a6 : Int) : PR.basculelaw03_small.f fn a1 a2 l a4 a5 a6 = some (decide (l.length ≤ 2100)) := by
 unfold PR.basculelaw03_small.f
 exact congrArg some (decide_eq_decide.2 (by omega))
theorem walk (fn a1 a2 : Int) (A0 : Option Addr) (len0 cap0 : Nat) (z0 : List Int) (a4 a5 a6 : Int) (A2 : Option Addr) (len2 cap2 : Nat) (z2 : List Int) (w : World) (w0 : IsRow .i64 w A0 len0 cap0 z0) (w2 : IsRow .u8 w A2 len2 cap2 z2) : Calls Try.prog 10 #[.agg #[.int .i64 fn, .int .i64 a1, .int .i64 a2, .slice A0 len0 cap0, .int .i64 a4, .int .i64 a5, .int .i64 a6], .slice A2 len2 cap2] w fun e w' => e = .returned (.bool true) ∧ Below w.heap.size w w' := by
 obtain ⟨l, rfl, hr0, hm0, hw0, hc0⟩ := ReadsInt.ofRowC w0
 have HV_l := Aside0.mk (Kd.C_of_reads (d := (0 : Int)) (h1 := fun _ => rfl) hr0)
 have HC_l := Aside0.mk hc0
 obtain ⟨b, rfl, hr2, hm2, hw2, hc2⟩ := ReadsInt.ofRowC w2
 have HV_b := Aside0.mk (Kd.C_of_reads (d := (0 : Int)) (h1 := fun _ => rfl) hr2)
 have HC_b := Aside0.mk hc2
 have hby : Bytes b := bytes_of hw2
 obtain ⟨K, hK⟩ : ∃ K, 300000 ≤ K := ⟨300000, Nat.le_refl _⟩
 by_cases hs : l.length ≤ 2100
 case neg => exact HandReads.reads_long fn a1 a2 A0 cap0 l a4 a5 a6 A2 cap2 b w HV_l HC_l HV_b HC_b ⟨by rw [small_f, decide_eq_false hs]⟩
 have fsm : Aside0 (PR.basculelaw03_small.f fn a1 a2 l a4 a5 a6 = some true) := ⟨by rw [small_f, decide_eq_true hs]⟩
 by_cases hb6 : (600 : Int) < (b.length : Int)
 case pos => exact HandReads.reads_long2 fn a1 a2 A0 cap0 l a4 a5 a6 A2 cap2 b w HV_l HC_l HV_b HC_b fsm (decide_eq_true hb6)
 have h2 := decide_eq_false hb6
 cases hm : mayB fn a1 a2 l a4 a5 a6
 case false => exact HandReads.reads_no K [] 0 fn a1 a2 A0 cap0 l a4 a5 a6 A2 cap2 b w HV_l HC_l HV_b HC_b fsm h2 ⟨pap_no K fn a1 a2 l a4 a5 a6 b (by omega) (by omega) hm⟩ ⟨hm⟩ ⟨anssame_f K [] 0 (by simp) (by simp; omega)⟩
 have fy := pap_yes K (by omega) hm b hby (by omega)
 have ry := MthE.rap_yes K (by omega) hm b hby (by omega)
 cases ho : ansP fn a1 a2 l a4 a5 a6 b
 case none => rw [ho] at fy ry; exact HandReads.reads_not K [] 0 fn a1 a2 A0 cap0 l a4 a5 a6 A2 cap2 b [] 0 w HV_l HC_l HV_b HC_b fsm h2 ⟨fy⟩ ⟨hm⟩ ⟨ry⟩ ⟨anssame_f K [] 0 (by simp) (by simp; omega)⟩
 case some x =>
  obtain ⟨xl, xc⟩ := x
  rw [ho] at fy ry
  obtain ⟨hn, he⟩ := ansP_is ho
  have I := may_is hm
  have J := ans_is hn
  have hxl : xl.length ≤ 2500 := by
   have h4 := I.cnt
   by_cases c0 : xc = 0
   ·by_cases c5 : fn = 1 ∨ fn = 2 ∨ fn = 3 ∨ fn = 4 ∨ fn = 23
    ·have := J.len c0 c5; have := h4 c5; omega
    ·rw [J.nov c0 c5]; simp
   ·rw [J.none c0]; simp
  exact HandReads.reads_all K xl xc fn a1 a2 A0 cap0 l a4 a5 a6 A2 cap2 b w HV_l HC_l HV_b HC_b fsm h2 ⟨fy⟩ ⟨hm⟩ ⟨ry⟩ ⟨anssame_f K xl xc (by omega) (by omega)⟩
end Go.Proofs.Ytocicifgglkaeaa.WalkPduReads
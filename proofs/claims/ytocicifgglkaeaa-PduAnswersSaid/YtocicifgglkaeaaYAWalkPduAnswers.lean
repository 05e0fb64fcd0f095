/- PduAnswers: whatever the request and the answer, whether it may be and its bytes are the document's: the call returns true, and the input reads as it did. -/
import Derived.Test.YtocicifgglkaeaaYAHandAnswers
import Derived.Test.YtocicifgglkaeaaZA5
import Derived.Test.YtocicifgglkaeaaYAExtR
namespace Go.Proofs.Ytocicifgglkaeaa.WalkPduAnswers
open Go.RowKit Go.Proofs.YtocicifgglkaeaaW.PrintWords Go.Proofs.YtocicifgglkaeaaW.PrintLast Go.Proofs.YtocicifgglkaeaaW.PrintMore Go.Proofs.Ytocicifgglkaeaa.ExtF Go.Proofs.Ytocicifgglkaeaa.ExtP Go.Proofs.Ytocicifgglkaeaa.ExtQ Go.Proofs.Ytocicifgglkaeaa.PP Go.Proofs.Ytocicifgglkaeaa.PQ Go.Proofs.Ytocicifgglkaeaa.ExtM Go.Proofs.Ytocicifgglkaeaa.MathP Go.Proofs.Ytocicifgglkaeaa.Mth Go.Proofs.Ytocicifgglkaeaa.MthD Go.Proofs.Ytocicifgglkaeaa.ExtR
set_option linter.unusedVariables false
theorem wf8 {x : Int} (h : (Lit.int .u8 x).wf = true) : 0 ≤ x ∧ x < 256 := by
 have this := h
 simp only [Lit.wf, Bool.and_eq_true, decide_eq_true_eq] at this
 rw [show IntKind.u8.min = 0 from rfl, show IntKind.u8.max = 255 from rfl] at this
 omega
theorem bytes_of {l : List Int} (h : ∀ x ∈ l, (Lit.int .u8 x).wf = true) : Bytes l := fun x hx => wf8 (h x hx)
theorem small_f (fn a1 a2 : Int) (l : List Int) (a4 a5 a6 : Int) : PR.basculelaw03_small.f fn a1 a2 l a4 a5 a6 = some (decide (l.length ≤ 2100)) := by
 unfold PR.basculelaw03_small.f
 exact congrArg some (decide_eq_decide.2 (by omega))
theorem walk (fn a1 a2 : Int) (A0 : Option Addr) (len0 cap0 : Nat) (z0 : List Int) (a4 a5 a6 : Int) (A1 : Option Addr) (len1 cap1 : Nat) (z1 : List Int) (code : Int) (w : World) (w0 : IsRow .i64 w A0 len0 cap0 z0) (w1 : IsRow .i64 w A1 len1 cap1 z1) : Calls Try.prog 9 #[.agg #[.int .i64 fn, .int .i64 a1, .int .i64 a2, .slice A0 len0 cap0, .int .i64 a4, .int .i64 a5, .int .i64 a6], .agg #[.slice A1 len1 cap1, .int .i64 code]] w fun e w' => e = .returned (.bool true) ∧ Below w.heap.size w w' := by
 obtain ⟨l, rfl, hr0, hm0, hw0, hc0⟩ := ReadsInt.ofRowC w0
 have HV_l := Aside0.mk (Kd.C_of_reads (d := (0 : Int)) (h1 := fun _ => rfl) hr0)
 have HC_l := Aside0.mk hc0
 obtain ⟨al, rfl, hr1, hm1, hw1, hc1⟩ := ReadsInt.ofRowC w1
 have HV_al := Aside0.mk (Kd.C_of_reads (d := (0 : Int)) (h1 := fun _ => rfl) hr1)
 have HC_al := Aside0.mk hc1
 obtain ⟨K, hK⟩ : ∃ K, 300000 ≤ K := ⟨300000, Nat.le_refl _⟩
 by_cases hs : l.length ≤ 2100
 case neg => exact HandAnswers.answers_long fn a1 a2 A0 cap0 l a4 a5 a6 A1 cap1 al code w HV_l HC_l HV_al HC_al ⟨by rw [small_f, decide_eq_false hs]⟩
 have fsm : Aside0 (PR.basculelaw03_small.f fn a1 a2 l a4 a5 a6 = some true) := ⟨by rw [small_f, decide_eq_true hs]⟩
 by_cases ha : (2100 : Int) < (al.length : Int)
 case pos => exact HandAnswers.answers_long2 fn a1 a2 A0 cap0 l a4 a5 a6 A1 cap1 al code w HV_l HC_l HV_al HC_al fsm (decide_eq_true ha)
 have h2 := decide_eq_false ha
 cases hm : mayB fn a1 a2 l a4 a5 a6
 case false => exact HandAnswers.answers_no K fn a1 a2 A0 cap0 l a4 a5 a6 A1 cap1 al code w HV_l HC_l HV_al HC_al fsm h2 ⟨ansbytes_no K fn a1 a2 l a4 a5 a6 al code (by omega) (by omega) (by omega) (by omega) (fun x => Bool.false_ne_true (hm.symm.trans x.1))⟩ ⟨hm⟩
 have I := may_is hm
 have fam := rans_f K fn a1 a2 l a4 a5 a6 al code (by omega) (by omega)
 cases hn : ansMayB fn a2 al code
 case false => exact HandAnswers.answers_not K fn a1 a2 A0 cap0 l a4 a5 a6 A1 cap1 al code w HV_l HC_l HV_al HC_al fsm h2 ⟨ansbytes_no K fn a1 a2 l a4 a5 a6 al code (by omega) (by omega) (by omega) (by omega) (fun x => Bool.false_ne_true (hn.symm.trans x.2))⟩ ⟨hm⟩ ⟨by rw [fam, hn]⟩
 have J := ans_is hn
 have hz : (ansB fn a1 a2 l a4 a5 a6 al code).length ≤ 253 := by
  have h3 := I.regs; have h4 := I.cnt; have h5 := I.fns
  by_cases c0 : code = 0
  ·rw [ansB_len I c0]
   by_cases c1 : fn = 1 ∨ fn = 2
   ·have := J.len c0 (by omega); have := h4 (by omega); rw [if_pos c1]; omega
   rw [if_neg c1]
   by_cases c2 : fn = 3 ∨ fn = 4 ∨ fn = 23
   ·have := J.len c0 (by omega); have := h3 (by omega); rw [if_pos c2]; omega
   rw [if_neg c2]
   by_cases c3 : fn = 15 ∨ fn = 16
   ·rw [if_pos c3]; omega
   rw [if_neg c3, reqB_len I]; split <;> (try split) <;> (try split) <;> (try split) <;> omega
  ·unfold ansB; rw [if_neg c0]; simp
 exact HandAnswers.answers_all K _ fn a1 a2 A0 cap0 l a4 a5 a6 A1 cap1 al code w HV_l HC_l HV_al HC_al fsm h2 (decide_eq_true (by omega)) ⟨ansbytes_yes K fn a1 a2 l a4 a5 a6 al code (by omega) hm hn (by omega)⟩ ⟨hm⟩ ⟨by rw [fam, hn]⟩ ⟨ransbytes_yes K fn a1 a2 l a4 a5 a6 al code (by omega) hm hn (by omega)⟩
end Go.Proofs.Ytocicifgglkaeaa.WalkPduAnswers
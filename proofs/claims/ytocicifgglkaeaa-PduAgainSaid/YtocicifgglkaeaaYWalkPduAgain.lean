/- PduAgain: whatever the bytes and the request, what is read is laid down as the same bytes: the call returns true, and the input reads as it did. -/
import Derived.Test.YtocicifgglkaeaaYHandAgain
import Derived.Test.YtocicifgglkaeaaZA5
namespace Go.Proofs.Ytocicifgglkaeaa.WalkPduAgain
open Go.RowKit Go.Proofs.YtocicifgglkaeaaW.PrintWords Go.Proofs.YtocicifgglkaeaaW.PrintLast Go.Proofs.YtocicifgglkaeaaW.PrintMore Go.Proofs.Ytocicifgglkaeaa.ExtF Go.Proofs.Ytocicifgglkaeaa.ExtP Go.Proofs.Ytocicifgglkaeaa.ExtQ Go.Proofs.Ytocicifgglkaeaa.PP Go.Proofs.Ytocicifgglkaeaa.PQ Go.Proofs.Ytocicifgglkaeaa.ExtM Go.Proofs.Ytocicifgglkaeaa.MathP Go.Proofs.Ytocicifgglkaeaa.Mth Go.Proofs.Ytocicifgglkaeaa.MthD Go.Proofs.Ytocicifgglkaeaa.ExtR
set_option linter.unusedVariables false
theorem wf8 {x : Int} (h : (Lit.int .u8 x).wf = true) : 0 ≤ x ∧ x < 256 := by
  have this := h
  simp only [Lit.wf, Bool.and_eq_true, decide_eq_true_eq] at this
  rw [show IntKind.u8.min = 0 from rfl, show IntKind.u8.max = 255 from rfl] at this
  omega
theorem bytes_of {l : List Int} (h : ∀ x ∈ l, (Lit.int .u8 x).wf = true) : Bytes l := fun x hx => wf8 (h x hx)
theorem small_f (fn a1 a2 : Int) (l : List Int) (a4 a5 a6 : Int) : PR.basculelaw03_small.f fn a1 a2 l a4 a5 a6 = some (decide (l.length ≤ 2100)) := by
  unfold PR.basculelaw03_small.f
  exact congrArg some (decide_eq_decide.2 (by omega))

theorem walk (A2 : Option Addr) (len2 cap2 : Nat) (z2 : List Int) (fn a1 a2 : Int) (A0 : Option Addr) (len0 cap0 : Nat) (z0 : List Int) (a4 a5 a6 : Int) (w : World) (w2 : IsRow .u8 w A2 len2 cap2 z2) (w0 : IsRow .i64 w A0 len0 cap0 z0) : Calls Try.prog 12 #[.slice A2 len2 cap2, .agg #[.int .i64 fn, .int .i64 a1, .int .i64 a2, .slice A0 len0 cap0, .int .i64 a4, .int .i64 a5, .int .i64 a6]] w fun e w' => e = .returned (.bool true) ∧ Below w.heap.size w w' := by
  obtain ⟨b, rfl, hr2, hm2, hw2, hc2⟩ := ReadsInt.ofRowC w2
  have HV_b := Aside0.mk (Kd.C_of_reads (d := (0 : Int)) (h1 := fun _ => rfl) hr2)
  have HC_b := Aside0.mk hc2
  have hby : Bytes b := bytes_of hw2
  obtain ⟨l, rfl, hr0, hm0, hw0, hc0⟩ := ReadsInt.ofRowC w0
  have HV_l := Aside0.mk (Kd.C_of_reads (d := (0 : Int)) (h1 := fun _ => rfl) hr0)
  have HC_l := Aside0.mk hc0
  obtain ⟨K, hK⟩ : ∃ K, 300000 ≤ K := ⟨300000, Nat.le_refl _⟩
  by_cases hs : l.length ≤ 2100
  case neg => exact HandAgain.again_long A2 cap2 b fn a1 a2 A0 cap0 l a4 a5 a6 w HV_b HC_b HV_l HC_l ⟨by rw [small_f, decide_eq_false hs]⟩
  have fsm : Aside0 (PR.basculelaw03_small.f fn a1 a2 l a4 a5 a6 = some true) := ⟨by rw [small_f, decide_eq_true hs]⟩
  by_cases hb6 : (600 : Int) < (b.length : Int)
  case pos => exact HandAgain.again_long2 A2 cap2 b fn a1 a2 A0 cap0 l a4 a5 a6 w HV_b HC_b HV_l HC_l fsm (decide_eq_true hb6)
  have h2 := decide_eq_false hb6
  obtain ⟨f0, f1, f2, pl, f4, f5, f6, hp⟩ := parse_is hby (by omega)
  have hx : ∃ xl xc xe, Aside0 (PR.pdu_AnswerParse.f K fn a1 a2 l a4 a5 a6 b = some (xl, xc, xe)) ∧ ((xe = 0 ∧ Aside0 (pdu_AnswerBytes.f K fn a1 a2 l a4 a5 a6 xl xc = some (b, 0))) ∨ ((xe == 0) = false ∧ (xe != 0) = true)) := by
    cases hm : mayB fn a1 a2 l a4 a5 a6
    case false => exact ⟨[], 0, 1, ⟨pap_no K fn a1 a2 l a4 a5 a6 b (by omega) (by omega) hm⟩, .inr ⟨rfl, rfl⟩⟩
    have fy := pap_yes K (by omega) hm b hby (by omega)
    cases ho : ansP fn a1 a2 l a4 a5 a6 b
    case none => rw [ho] at fy; exact ⟨[], 0, 4, ⟨fy⟩, .inr ⟨rfl, rfl⟩⟩
    case some x =>
      obtain ⟨xl, xc⟩ := x
      rw [ho] at fy
      obtain ⟨hn, he⟩ := ansP_is ho
      have I := may_is hm
      have J := ans_is hn
      have hxl : xl.length ≤ 2500 := by
        have h4 := I.cnt
        by_cases c0 : xc = 0
        · by_cases c5 : fn = 1 ∨ fn = 2 ∨ fn = 3 ∨ fn = 4 ∨ fn = 23
          · have := J.len c0 c5; have := h4 c5; omega
          · rw [J.nov c0 c5]; simp
        · rw [J.none c0]; simp
      have fb := ansbytes_yes K fn a1 a2 l a4 a5 a6 xl xc (by omega) hm hn hxl
      rw [he] at fb
      exact ⟨xl, xc, 0, ⟨fy⟩, .inl ⟨rfl, ⟨fb⟩⟩⟩
  obtain ⟨xl, xc, xe, fap, hx⟩ := hx
  rcases hp with ⟨fp, hm, he⟩ | fp
  · have fb := bytes_yes K f0 f1 f2 pl f4 f5 f6 (by omega) hm
    rw [he] at fb
    rcases hx with ⟨rfl, fab⟩ | ⟨h0, h1⟩
    · exact HandAgain.again_0_0 K A2 cap2 b fn a1 a2 A0 cap0 l a4 a5 a6 f0 f1 f2 pl f4 f5 f6 xl xc w HV_b HC_b HV_l HC_l fsm h2 ⟨fp⟩ ⟨fb⟩ fap fab
    · exact HandAgain.again_0_xe K A2 cap2 b fn a1 a2 A0 cap0 l a4 a5 a6 f0 f1 f2 pl f4 f5 f6 xl xc xe w HV_b HC_b HV_l HC_l fsm h2 ⟨fp⟩ ⟨fb⟩ fap h0 h1
  · rcases hx with ⟨rfl, fab⟩ | ⟨h0, h1⟩
    · exact HandAgain.again_4_0 K A2 cap2 b fn a1 a2 A0 cap0 l a4 a5 a6 f0 f1 f2 pl f4 f5 f6 xl xc w HV_b HC_b HV_l HC_l fsm h2 ⟨fp⟩ fap fab
    · exact HandAgain.again_4_xe K A2 cap2 b fn a1 a2 A0 cap0 l a4 a5 a6 f0 f1 f2 pl f4 f5 f6 xl xc xe w HV_b HC_b HV_l HC_l fsm h2 ⟨fp⟩ fap h0 h1
end Go.Proofs.Ytocicifgglkaeaa.WalkPduAgain

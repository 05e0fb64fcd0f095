/- PduSizes: whatever the request and the answer, their bytes are as long as their function says: the call returns true, and the input reads as it did. -/
import Derived.Test.YtocicifgglkaeaaYHandSizes
import Derived.Test.YtocicifgglkaeaaZA5
namespace Go.Proofs.Ytocicifgglkaeaa.WalkPduSizes
open Go.RowKit Go.Proofs.YtocicifgglkaeaaW.PrintWords Go.Proofs.YtocicifgglkaeaaW.PrintLast Go.Proofs.YtocicifgglkaeaaW.PrintMore Go.Proofs.Ytocicifgglkaeaa.ExtF Go.Proofs.Ytocicifgglkaeaa.ExtP Go.Proofs.Ytocicifgglkaeaa.ExtQ Go.Proofs.Ytocicifgglkaeaa.PP Go.Proofs.Ytocicifgglkaeaa.PQ Go.Proofs.Ytocicifgglkaeaa.ExtM Go.Proofs.Ytocicifgglkaeaa.MathP Go.Proofs.Ytocicifgglkaeaa.Mth Go.Proofs.Ytocicifgglkaeaa.MthD Go.Proofs.Ytocicifgglkaeaa.ExtR
set_option linter.unusedVariables false
theorem wf8 {x : Int} (h : (Lit.int .u8 x).wf = true) : 0 ≤ x ∧ x < 256 := by
  have this := h
  simp only [Lit.wf, Bool.and_eq_true, decide_eq_true_eq] at this
  rw [show IntKind.u8.min = 0 from rfl, show IntKind.u8.max = 255 from rfl] at this
  omega
theorem bytes_of {l : List Int} (h : ∀ x ∈ l, (Lit.int .u8 x).wf = true) : Bytes l := fun x hx => wf8 (h x hx)
theorem small_f (fn a1 a2 : Int) (l : List Int) (a4 a5 a6 : Int) : PR.basculelaw03_small.f fn a1 a2 l a4 a5 a6 = some (decide (l.length ≤ 2100)) := by
  unfold PR.basculelaw03_small.f
  exact congrArg some (decide_eq_decide.2 (by omega))

theorem walk (fn a1 a2 : Int) (A0 : Option Addr) (len0 cap0 : Nat) (z0 : List Int) (a4 a5 a6 : Int) (A1 : Option Addr) (len1 cap1 : Nat) (z1 : List Int) (code : Int) (w : World) (w0 : IsRow .i64 w A0 len0 cap0 z0) (w1 : IsRow .i64 w A1 len1 cap1 z1) : Calls Try.prog 13 #[.agg #[.int .i64 fn, .int .i64 a1, .int .i64 a2, .slice A0 len0 cap0, .int .i64 a4, .int .i64 a5, .int .i64 a6], .agg #[.slice A1 len1 cap1, .int .i64 code]] w fun e w' => e = .returned (.bool true) ∧ Below w.heap.size w w' := by
  obtain ⟨l, rfl, hr0, hm0, hw0, hc0⟩ := ReadsInt.ofRowC w0
  have HV_l := Aside0.mk (Kd.C_of_reads (d := (0 : Int)) (h1 := fun _ => rfl) hr0)
  have HC_l := Aside0.mk hc0
  obtain ⟨al, rfl, hr1, hm1, hw1, hc1⟩ := ReadsInt.ofRowC w1
  have HV_al := Aside0.mk (Kd.C_of_reads (d := (0 : Int)) (h1 := fun _ => rfl) hr1)
  have HC_al := Aside0.mk hc1
  obtain ⟨K, hK⟩ : ∃ K, 300000 ≤ K := ⟨300000, Nat.le_refl _⟩
  by_cases hs : l.length ≤ 2100
  case neg => exact HandSizes.sizes_long fn a1 a2 A0 cap0 l a4 a5 a6 A1 cap1 al code w HV_l HC_l HV_al HC_al ⟨by rw [small_f, decide_eq_false hs]⟩
  have fsm : Aside0 (PR.basculelaw03_small.f fn a1 a2 l a4 a5 a6 = some true) := ⟨by rw [small_f, decide_eq_true hs]⟩
  by_cases ha : (2100 : Int) < (al.length : Int)
  case pos => exact HandSizes.sizes_long2 fn a1 a2 A0 cap0 l a4 a5 a6 A1 cap1 al code w HV_l HC_l HV_al HC_al fsm (decide_eq_true ha)
  have h2 := decide_eq_false ha
  cases hm : mayB fn a1 a2 l a4 a5 a6
  case false => exact HandSizes.sizes_no K fn a1 a2 A0 cap0 l a4 a5 a6 A1 cap1 al code w HV_l HC_l HV_al HC_al fsm h2 ⟨bytes_no K fn a1 a2 l a4 a5 a6 (by omega) (by omega) hm⟩
  have I := may_is hm
  have hfn := I.fns
  have hs := req_size I
  have fb : Aside0 (pdu_Bytes.f K fn a1 a2 l a4 a5 a6 = some (reqB fn a1 a2 l a4 a5 a6, 0)) := ⟨bytes_yes K fn a1 a2 l a4 a5 a6 (by omega) hm⟩
  have hq0 := Aside0.mk (cand_req I).1
  have hql := Aside0.mk (reqB_len I)
  have hzl' := fun c0 => ansB_len (al := al) (code := code) I c0
  generalize reqB fn a1 a2 l a4 a5 a6 = q at fb hq0 hql hs hzl'
  have P := fun z => HandSizes.sizes_all K q z fn a1 a2 A0 cap0 l a4 a5 a6 A1 cap1 al code w HV_l HC_l HV_al HC_al fsm h2 fb (by omega) ⟨by omega⟩ hq0 (by omega) (by omega) hql
  cases hn : ansMayB fn a2 al code
  case false => exact HandSizes.sizes_req K q fn a1 a2 A0 cap0 l a4 a5 a6 A1 cap1 al code w HV_l HC_l HV_al HC_al fsm h2 fb (by omega) ⟨by omega⟩ hq0 (by omega) (by omega) hql ⟨ansbytes_no K fn a1 a2 l a4 a5 a6 al code (by omega) (by omega) (by omega) (by omega) (fun x => Bool.false_ne_true (hn.symm.trans x.2))⟩
  have J := ans_is hn
  have fab : Aside0 (pdu_AnswerBytes.f K fn a1 a2 l a4 a5 a6 al code = some (ansB fn a1 a2 l a4 a5 a6 al code, 0)) := ⟨ansbytes_yes K fn a1 a2 l a4 a5 a6 al code (by omega) hm hn (by omega)⟩
  by_cases c0 : code = 0
  · have hl := hzl' c0
    exact P _ fab ⟨by rw [hl]; split <;> (try split) <;> (try split) <;> omega⟩ ⟨ansB_hd I c0⟩ (by simp [c0]) (by simp [c0]) ⟨hl⟩ (by omega)
  · have e : ansB fn a1 a2 l a4 a5 a6 al code = [fn + 128, code] := by unfold ansB; rw [if_neg c0]
    have hcd := J.cd
    exact HandSizes.sizes_code K q _ fn a1 a2 A0 cap0 l a4 a5 a6 A1 cap1 al code w HV_l HC_l HV_al HC_al fsm h2 fb (by omega) ⟨by omega⟩ hq0 (by omega) (by omega) hql fab ⟨by rw [e]; rfl⟩ ⟨by rw [e]; rfl⟩ ⟨by rw [e]; rfl⟩ hcd.1 (by omega) (beq_eq_false_iff_ne.2 c0) (bne_iff_ne.2 c0)
end Go.Proofs.Ytocicifgglkaeaa.WalkPduSizes

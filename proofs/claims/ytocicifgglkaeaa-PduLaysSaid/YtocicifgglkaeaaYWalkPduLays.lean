/- PduLays: whatever the request, whether it may be and its bytes are as the document says: the call returns true, and the input reads as it did. -/
import Derived.Test.YtocicifgglkaeaaYHandLays
import Derived.Test.YtocicifgglkaeaaZL5
import Derived.Test.YtocicifgglkaeaaYExtR
namespace Go.Proofs.Ytocicifgglkaeaa.WalkPduLays
open Go.RowKit Go.Proofs.YtocicifgglkaeaaW.PrintWords Go.Proofs.YtocicifgglkaeaaW.PrintLast Go.Proofs.YtocicifgglkaeaaW.PrintMore Go.Proofs.Ytocicifgglkaeaa.ExtF Go.Proofs.Ytocicifgglkaeaa.ExtP Go.Proofs.Ytocicifgglkaeaa.ExtQ Go.Proofs.Ytocicifgglkaeaa.PP Go.Proofs.Ytocicifgglkaeaa.PQ Go.Proofs.Ytocicifgglkaeaa.ExtM Go.Proofs.Ytocicifgglkaeaa.MathP Go.Proofs.Ytocicifgglkaeaa.Mth Go.Proofs.Ytocicifgglkaeaa.MthD Go.Proofs.Ytocicifgglkaeaa.ExtR
set_option linter.unusedVariables false
theorem wf8 {x : Int} (h : (Lit.int .u8 x).wf = true) : 0 ≤ x ∧ x < 256 := by
  have this := h
  simp only [Lit.wf, Bool.and_eq_true, decide_eq_true_eq] at this
  rw [show IntKind.u8.min = 0 from rfl, show IntKind.u8.max = 255 from rfl] at this
  omega
theorem bytes_of {l : List Int} (h : ∀ x ∈ l, (Lit.int .u8 x).wf = true) : Bytes l := fun x hx => wf8 (h x hx)
theorem small_f (fn a1 a2 : Int) (l : List Int) (a4 a5 a6 : Int) : PR.basculelaw03_small.f fn a1 a2 l a4 a5 a6 = some (decide (l.length ≤ 2100)) := by
  unfold PR.basculelaw03_small.f
  exact congrArg some (decide_eq_decide.2 (by omega))

theorem walk (fn a1 a2 : Int) (A0 : Option Addr) (len0 cap0 : Nat) (z0 : List Int) (a4 a5 a6 : Int) (w : World) (w0 : IsRow .i64 w A0 len0 cap0 z0) : Calls Try.prog 7 #[.agg #[.int .i64 fn, .int .i64 a1, .int .i64 a2, .slice A0 len0 cap0, .int .i64 a4, .int .i64 a5, .int .i64 a6]] w fun e w' => e = .returned (.bool true) ∧ Below w.heap.size w w' := by
  obtain ⟨l, rfl, hr0, hm0, hw0, hc0⟩ := ReadsInt.ofRowC w0
  have HV_l := Aside0.mk (Kd.C_of_reads (d := (0 : Int)) (h1 := fun _ => rfl) hr0)
  have HC_l := Aside0.mk hc0
  obtain ⟨K, hK⟩ : ∃ K, 300000 ≤ K := ⟨300000, Nat.le_refl _⟩
  by_cases hs : l.length ≤ 2100
  case neg => exact HandLays.lays_long fn a1 a2 A0 cap0 l a4 a5 a6 w HV_l HC_l ⟨by rw [small_f, decide_eq_false hs]⟩
  have fsm : Aside0 (PR.basculelaw03_small.f fn a1 a2 l a4 a5 a6 = some true) := ⟨by rw [small_f, decide_eq_true hs]⟩
  have hch := check_f K fn a1 a2 l a4 a5 a6 (by omega) (by omega)
  have fin : Aside0 (PR.basculeref01_Ints.f K l l = some true) := ⟨ints_same l (by omega) K (by omega)⟩
  cases hm : mayB fn a1 a2 l a4 a5 a6
  case false => exact HandLays.lays_all K fn a1 a2 A0 cap0 l a4 a5 a6 [] 1 false w HV_l HC_l fsm hs ⟨by rw [hch, hm]; rfl⟩ ⟨bytes_no K fn a1 a2 l a4 a5 a6 (by omega) (by omega) hm⟩ fin ⟨hm⟩ (fun _ => ⟨rfl, rfl⟩) (fun e => by cases e)
  have I := may_is hm
  have hq := reqB_len I
  have hn := I.len
  have hq2 : (reqB fn a1 a2 l a4 a5 a6).length ≤ 253 := by
    have hmo := I.most
    rw [hq]
    by_cases c : fn = 23
    · have h3 : l.length ≤ 121 := ExtV.len_23 (c ▸ hm)
      rw [if_neg (by omega), if_neg (by omega), if_neg (by omega), if_pos c]; omega
    · rw [if_neg c]; split <;> (try split) <;> (try split) <;> omega
  exact HandLays.lays_all K fn a1 a2 A0 cap0 l a4 a5 a6 (reqB fn a1 a2 l a4 a5 a6) 0 true w HV_l HC_l fsm hs ⟨by rw [hch, hm]; rfl⟩ ⟨bytes_yes K fn a1 a2 l a4 a5 a6 (by omega) hm⟩ fin ⟨hm⟩ (fun e => by cases e) (fun _ => ⟨rfl, decide_eq_true (by omega), ⟨rbytes_yes K fn a1 a2 l a4 a5 a6 (by omega) hm⟩⟩)
end Go.Proofs.Ytocicifgglkaeaa.WalkPduLays

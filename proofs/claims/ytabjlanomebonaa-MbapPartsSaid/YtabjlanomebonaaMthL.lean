/- Plain words of frames: what is told and what is left are all bytes. -/
import Derived.Test.YtabjlanomebonaaMthG
namespace Go.Proofs.Ytabjlanomebonaa.MthL
open Go.RowKit Go.Proofs.YtabjlanomebonaaW.PrintWords Go.Proofs.Ytabjlanomebonaa.Ext Go.Proofs.Ytabjlanomebonaa.ExtC Go.Proofs.Ytabjlanomebonaa.StrA Go.Proofs.Ytabjlanomebonaa.StrB Go.Proofs.Ytabjlanomebonaa.PZ Go.Proofs.Ytabjlanomebonaa.MthF Go.Proofs.Ytabjlanomebonaa.MthG
set_option linter.unusedVariables false
theorem head_frame {b : List Int} (hby : Bytes b) (h6 : ¬ b.length < 6) (hb : ¬ bad b) (hs : ¬ (b.length : Int) < 6 + wd b 4) :
    mayA (wd b 0) (rd b 6) (pduOf b) ∧ frameB (wd b 0) (rd b 6) (pduOf b) = b.take (6 + wd b 4).toNat ∧ (pduOf b).length + 7 = (6 + wd b 4).toNat ∧ (6 + wd b 4).toNat ≤ b.length := by
  obtain ⟨n1, n2, n3⟩ := not_bad hb
  have hl : (pduOf b).length + 7 = (6 + wd b 4).toNat := by unfold pduOf; rw [List.length_drop, List.length_take]; omega
  have hw0 := wd_bd hby 0
  have hr6 := rd_b hby 6
  refine ⟨⟨hw0.1, hw0.2, hr6.1, by omega, by omega, by omega⟩, ?_, hl, by omega⟩
  have q0 := rd_b hby 0; have q1 := rd_b hby 1; have q2 := rd_b hby 2; have q3 := rd_b hby 3; have q4 := rd_b hby 4; have q5 := rd_b hby 5
  have d0 : wd b 0 = 256 * rd b 0 + rd b 1 := rfl
  have d2 : wd b 2 = 256 * rd b 2 + rd b 3 := rfl
  have d4 : wd b 4 = 256 * rd b 4 + rd b 5 := rfl
  have e1 : wd b 0 / 256 = rd b 0 := by omega
  have e2 : wd b 0 % 256 = rd b 1 := by omega
  have e3 : (0 : Int) = rd b 2 := by omega
  have e4 : (0 : Int) = rd b 3 := by omega
  have e5 : (((pduOf b).length : Int) + 1) / 256 = rd b 4 := by omega
  have e6 : (((pduOf b).length : Int) + 1) % 256 = rd b 5 := by omega
  have hf : frameB (wd b 0) (rd b 6) (pduOf b) = [rd b 0, rd b 1, rd b 2, rd b 3, rd b 4, rd b 5, rd b 6] ++ pduOf b := by
    unfold frameB
    rw [e1, e2, e5, e6, ← e3, ← e4]
  rw [hf]
  have h7 : [rd b 0, rd b 1, rd b 2, rd b 3, rd b 4, rd b 5, rd b 6] = (b.take (6 + wd b 4).toNat).take 7 := by
    rw [List.take_take, Nat.min_eq_left (by omega)]
    clear hf e1 e2 e3 e4 e5 e6 d0 d2 d4 q0 q1 q2 q3 q4 q5 hw0 hr6 hl n1 hb hby
    have h8 : 8 ≤ b.length := by omega
    clear hs n2 n3 h6
    match b, h8 with
    | _ :: _ :: _ :: _ :: _ :: _ :: _ :: _, _ => rfl
  rw [h7]
  unfold pduOf
  exact List.take_append_drop _ _
/-- The places at which the frames begin. -/
theorem allF_tells : ∀ (K : Nat) (b : List Int) (fs : List S37) (r : List Int), b.length < K → Bytes b → allF K b = (fs, r, false) →
    ∃ q : Nat → Nat, q 0 = 0 ∧ q fs.length + r.length = b.length ∧ ∀ i, i < fs.length → mayA (rd_T37 fs i).f0 (rd_T37 fs i).f1 (rd_T37 fs i).f2 ∧ q (i + 1) = q i + (frameB (rd_T37 fs i).f0 (rd_T37 fs i).f1 (rd_T37 fs i).f2).length ∧ q (i + 1) ≤ b.length ∧ (b.take (q (i + 1))).drop (q i) = frameB (rd_T37 fs i).f0 (rd_T37 fs i).f1 (rd_T37 fs i).f2
  | 0, _, _, _, h, _, _ => by omega
  | k + 1, b, fs, r, h, hby, he => by
    unfold allF at he
    by_cases h6 : b.length < 6
    · rw [if_pos h6] at he
      simp only [Prod.mk.injEq] at he
      obtain ⟨rfl, rfl, _⟩ := he
      exact ⟨fun _ => 0, rfl, by simp, fun i hi => by simp at hi⟩
    rw [if_neg h6] at he
    by_cases hb : bad b
    · rw [if_pos hb] at he
      simp only [Prod.mk.injEq] at he
      exact absurd he.2.2 (by simp)
    rw [if_neg hb] at he
    by_cases hs : (b.length : Int) < 6 + wd b 4
    · rw [if_pos hs] at he
      simp only [Prod.mk.injEq] at he
      obtain ⟨rfl, rfl, _⟩ := he
      exact ⟨fun _ => 0, rfl, by simp, fun i hi => by simp at hi⟩
    rw [if_neg hs] at he
    have hlt := rest_lt h6 hb hs
    obtain ⟨hm, hf, hl, hle⟩ := head_frame hby h6 hb hs
    have hrl : (restOf b).length + (6 + wd b 4).toNat = b.length := by unfold restOf; rw [List.length_drop]; omega
    obtain ⟨fs', r', br', he'⟩ : ∃ fs' r' br', allF k (restOf b) = (fs', r', br') := ⟨_, _, _, rfl⟩
    rw [he'] at he
    simp only [Prod.mk.injEq] at he
    obtain ⟨rfl, rfl, rfl⟩ := he
    obtain ⟨q, hq0, hqe, hq⟩ := allF_tells k (restOf b) fs' r' (by omega) (fun x hx => hby x (List.mem_of_mem_drop hx)) he'
    refine ⟨fun i => match i with | 0 => 0 | i + 1 => (6 + wd b 4).toNat + q i, rfl, by show (6 + wd b 4).toNat + q fs'.length + _ = _; omega, ?_⟩
    intro i hi
    match i with
    | 0 =>
      refine ⟨hm, ?_, ?_, ?_⟩
      · show (6 + wd b 4).toNat + q 0 = 0 + (frameB (wd b 0) (rd b 6) (pduOf b)).length
        rw [hq0, hf, List.length_take]; omega
      · show (6 + wd b 4).toNat + q 0 ≤ b.length
        omega
      · show (b.take ((6 + wd b 4).toNat + q 0)).drop 0 = frameB (wd b 0) (rd b 6) (pduOf b)
        rw [hq0, hf]; rfl
    | i + 1 =>
      obtain ⟨a1, a2, a3, a4⟩ := hq i (by simp at hi; omega)
      have er : rd_T37 (⟨wd b 0, rd b 6, pduOf b⟩ :: fs') ((i + 1 : Nat) : Int) = rd_T37 fs' (i : Int) := rfl
      rw [er]
      refine ⟨a1, ?_, ?_, ?_⟩
      · show (6 + wd b 4).toNat + q (i + 1) = (6 + wd b 4).toNat + q i + _
        omega
      · show (6 + wd b 4).toNat + q (i + 1) ≤ _
        omega
      · show (b.take ((6 + wd b 4).toNat + q (i + 1))).drop ((6 + wd b 4).toNat + q i) = _
        rw [← a4]
        unfold restOf
        rw [← List.drop_drop, List.drop_take, Nat.add_sub_cancel_left]
end Go.Proofs.Ytabjlanomebonaa.MthL

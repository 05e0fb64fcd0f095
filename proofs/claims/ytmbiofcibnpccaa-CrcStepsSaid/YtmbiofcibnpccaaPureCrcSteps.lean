/- A step is the document's, or refused; a sum is that of the bytes ahead, and steps: the plain statement of CrcSteps. -/
import Derived.Test.YtmbiofcibnpccaaPAllx4
import Derived.Test.YtmbiofcibnpccaaMathB
namespace Go.Proofs.Ytmbiofcibnpccaa.Pure
open Go.RowKit Go.Proofs.Ytmbiofcibnpccaa.PAll Go.Proofs.YtmbiofcibnpccaaW.PrintWords Go.Proofs.YtmbiofcibnpccaaW.PrintLast Go.Proofs.Ytmbiofcibnpccaa.Ext Go.Proofs.Ytmbiofcibnpccaa.ExtC Go.Proofs.Ytmbiofcibnpccaa.ExtD Go.Proofs.Ytmbiofcibnpccaa.Math
set_option linter.unusedVariables false

theorem both_f (a b : List Int) (h : a.length + b.length ≤ 140737488350000) : basculeref01_Both.f a b = some (a ++ b) := by
  unfold basculeref01_Both.f
  rw [if_pos (by simp; omega)]
  simp only [Option.bind_some]
  rw [if_pos (by simp; omega)]
  simp

theorem steps_l0 (a b : List Int) (ha : Bytes a) (hb : Bytes b) (hla : a.length ≤ 600) (hlb : b.length ≤ 600) (d : Nat) :
    ∀ (k i n : Nat), i + d = b.length → n = crcN 65535 (a ++ b.take i) → d < k → basculelaw02_CrcSteps.l0 k a b (n : Int) (i : Int) = some true := by
  induction d with
  | zero =>
    intro k i n hi hn hk
    obtain ⟨k, rfl⟩ : ∃ m, k = m + 1 := ⟨k - 1, by omega⟩
    simp only [basculelaw02_CrcSteps.l0]
    rw [if_neg (by omega)]
    rw [List.take_of_length_le (by omega)] at hn
    have hab : Bytes (a ++ b) := fun x hx => (List.mem_append.1 hx).elim (ha x) (hb x)
    rw [both_f a b (by omega)]
    simp only [basculelaw02_awake.f, Option.bind_some]
    rw [if_pos trivial, sum_f hab (by simp; omega), ← hn]
    simp
  | succ d ih =>
    intro k i n hi hn hk
    obtain ⟨k, rfl⟩ : ∃ m, k = m + 1 := ⟨k - 1, by omega⟩
    simp only [basculelaw02_CrcSteps.l0]
    have h1 := hb b[i] (List.getElem_mem _)
    obtain ⟨p, hp⟩ := Int.eq_ofNat_of_zero_le h1.1
    rw [hp] at h1
    have hbt : Bytes (a ++ b.take i) := fun x hx => (List.mem_append.1 hx).elim (ha x) (fun h => hb x (List.mem_of_mem_take h))
    have hlt := crcN_lt _ 65535 (by omega) hbt
    rw [if_pos (by omega), if_pos (by omega), rd_nat i (by omega), hp, crcStep_f n p (by omega) (by omega)]
    simp only [Option.bind_some]
    have hw : wrap64 ((i : Int) + 1) = ((i + 1 : Nat) : Int) := by rw [wrap64_id _ (by omega) (by omega)]; omega
    rw [if_pos trivial, hw]
    refine ih k (i + 1) _ (by omega) ?_ (by omega)
    rw [take_snoc_ b i (by omega), ← List.append_assoc, crcN_snoc, ← hn, hp]
    rfl

theorem CrcSteps : basculelaw02_CrcSteps.Pure := by
  intro s x a b hs hx _ _ ha _ _ hb
  replace ha := bytes_of ha
  replace hb := bytes_of hb
  replace hs := wf64 hs
  replace hx := wf8 hx
  refine ⟨b.length + 100, ?_⟩
  unfold basculelaw02_CrcSteps.f basculelaw02_small.f
  simp only [Option.bind_some]
  by_cases hl : (a.length : Int) ≤ 600
  · rw [if_pos (by simpa using hl)]
    by_cases hl2 : (b.length : Int) ≤ 600
    · rw [show (!decide ((b.length : Int) ≤ 600)) = false from by simp; omega]
      have hj1 : basculelaw02_CrcSteps.j1 (b.length + 99) a b = some true := by
        simp only [basculelaw02_CrcSteps.j1]
        rw [sum_f ha (by omega)]
        simp only [Option.bind_some]
        exact steps_l0 a b ha hb (by omega) (by omega) b.length _ 0 _ (by omega) (by simp) (by omega)
      simp only [basculelaw02_CrcSteps.j0]
      rw [if_neg (by simp)]
      obtain ⟨p, rfl⟩ := Int.eq_ofNat_of_zero_le hx.1
      by_cases hw : 0 ≤ s ∧ s ≤ 65535
      · obtain ⟨n, rfl⟩ := Int.eq_ofNat_of_zero_le hw.1
        rw [crcStep_f n p (by omega) (by omega)]
        unfold basculeref01_Is.f
        simp only [Option.bind_some]
        rw [if_pos (by omega)]
        simp only [Option.bind_some]
        rw [if_pos (by simp; omega), if_pos trivial, wrap64_id _ (by omega) (by omega), refStep_f _ n p (by omega) (by omega) (by omega)]
        simp only [Option.bind_some]
        rw [if_pos trivial, hj1]
      · have hst : crc_Step.f s (p : Int) = some (0, 1) := by
          unfold crc_Step.f
          by_cases h0 : s < 0
          · rw [if_pos h0]
          · rw [if_neg h0, if_pos (by omega)]
        have his : basculeref01_Is.f s = some false := by
          unfold basculeref01_Is.f
          by_cases h0 : s ≥ 0
          · rw [if_pos h0]; simp; omega
          · rw [if_neg h0]
        rw [hst, his]
        simp only [Option.bind_some]
        rw [if_neg (by simp), if_pos trivial, if_pos trivial, hj1]
    · rw [show (!decide ((b.length : Int) ≤ 600)) = true from by simp; omega]
      simp only [basculelaw02_CrcSteps.j0]
      rw [if_pos trivial]
  · rw [if_neg (by simpa using hl)]
    simp only [basculelaw02_CrcSteps.j0]
    rw [if_pos trivial]
end Go.Proofs.Ytmbiofcibnpccaa.Pure

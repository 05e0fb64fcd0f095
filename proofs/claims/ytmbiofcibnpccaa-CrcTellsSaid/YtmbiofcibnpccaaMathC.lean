/- What the small functions of layer 1 come to. -/
import Derived.Test.YtmbiofcibnpccaaPAllx4
import Derived.Test.YtmbiofcibnpccaaMath
import Derived.Test.YtmbiofcibnpccaaExtE
namespace Go.Proofs.Ytmbiofcibnpccaa.MathC
open Go.RowKit Go.Proofs.Ytmbiofcibnpccaa.PAll Go.Proofs.Ytmbiofcibnpccaa.PB Go.Proofs.YtmbiofcibnpccaaW.PrintWords Go.Proofs.YtmbiofcibnpccaaW.PrintLast Go.Proofs.Ytmbiofcibnpccaa.Ext Go.Proofs.Ytmbiofcibnpccaa.ExtC Go.Proofs.Ytmbiofcibnpccaa.ExtD Go.Proofs.Ytmbiofcibnpccaa.Math
set_option linter.unusedVariables false

theorem small1 (l : List Int) (b : Bool) (h : decide ((l.length : Int) ≤ 2000) = b) : basculelaw01_small.f l = some b := by unfold basculelaw01_small.f; rw [h]
theorem both_f (a b : List Int) (h : a.length + b.length ≤ 140737488350000) : basculeref01_Both.f a b = some (a ++ b) := by
  unfold basculeref01_Both.f
  rw [if_pos (by simp; omega)]
  simp only [Option.bind_some]
  rw [if_pos (by simp; omega)]
  simp
theorem put_f (l : List Int) (a : Int) (h : 0 ≤ a ∧ a ≤ 65535) (hl : l.length ≤ 1000000000) : wire_Put.f l a = some (l ++ [a / 256, a % 256], 0) := by
  unfold wire_Put.f wire_behind.f
  rw [if_neg (by omega), if_neg (by omega), if_pos (by omega)]
  simp only [Option.bind_some]
  rw [if_pos (by simp; omega), show a / 256 % 256 = a / 256 from by omega]
theorem put_no (l : List Int) (a : Int) (h : ¬ (0 ≤ a ∧ a ≤ 65535)) : wire_Put.f l a = some ([], 1) := by
  unfold wire_Put.f
  by_cases h0 : a < 0
  · rw [if_pos h0]
  · rw [if_neg h0, if_pos (by omega)]
theorem is_f (a : Int) : basculeref01_Is.f a = some (decide (0 ≤ a ∧ a ≤ 65535)) := by
  unfold basculeref01_Is.f
  by_cases h0 : a ≥ 0
  · rw [if_pos h0]
    congr 1
    rw [Bool.eq_iff_iff]
    simp
    omega
  · rw [if_neg h0]
    congr 1
    rw [Bool.eq_iff_iff]
    simp
    omega
theorem word_f (a : Int) (h : 0 ≤ a ∧ a ≤ 65535) : PA.basculeref01_Word.f a = some [a / 256, a % 256] := by
  unfold PA.basculeref01_Word.f
  rw [Int.tdiv_eq_ediv_of_nonneg (by omega), Int.tmod_eq_emod_of_nonneg (by omega), wrap64_id _ (by omega) (by omega), show a / 256 % 256 = a / 256 from by omega, show a % 256 % 256 = a % 256 from by omega]
end Go.Proofs.Ytmbiofcibnpccaa.MathC

/- Plain words of mbap's Frame: the bytes of a frame. -/
import Derived.Test.YtabjlanomebonaaPBx17
import Derived.Test.YtabjlanomebonaaPBx19
import Derived.Test.YtabjlanomebonaaPBx21
import Derived.Test.YtabjlanomebonaaMthF
namespace Go.Proofs.Ytabjlanomebonaa.MthG
open Go.RowKit Go.Proofs.YtabjlanomebonaaW.PrintWords Go.Proofs.Ytabjlanomebonaa.Ext Go.Proofs.Ytabjlanomebonaa.ExtC Go.Proofs.Ytabjlanomebonaa.StrA Go.Proofs.Ytabjlanomebonaa.StrB Go.Proofs.Ytabjlanomebonaa.PB Go.Proofs.Ytabjlanomebonaa.MthF
set_option linter.unusedVariables false
/-- May a frame be? -/
def mayA (t u : Int) (p : List Int) : Prop := 0 ≤ t ∧ t ≤ 65535 ∧ 0 ≤ u ∧ u ≤ 255 ∧ 1 ≤ p.length ∧ p.length ≤ 253
instance (t u : Int) (p : List Int) : Decidable (mayA t u p) := by unfold mayA; infer_instance
def frameB (t u : Int) (p : List Int) : List Int := [t / 256, t % 256, 0, 0, ((p.length : Int) + 1) / 256, ((p.length : Int) + 1) % 256, u] ++ p
theorem put_f (l : List Int) (t : Int) (hl : l.length ≤ 1000000) (h0 : 0 ≤ t) (h1 : t ≤ 65535) : wire_Put.f l t = some (l ++ [t / 256, t % 256], 0) := by
  unfold wire_Put.f wire_behind.f
  rw [if_neg (by omega), if_neg (by omega), if_pos ⟨by omega, by omega⟩]
  simp only [Option.bind_some, List.length_cons, List.length_nil]
  rw [if_pos (by omega), Int.emod_eq_of_lt (by omega) (by omega)]
theorem put_no (l : List Int) (t : Int) (h : t < 0 ∨ 65535 < t) : wire_Put.f l t = some ([], 1) := by
  unfold wire_Put.f
  by_cases h0 : t < 0
  · rw [if_pos h0]
  · rw [if_neg h0, if_pos (by omega)]
theorem bind_of {α β : Type} {x : Option α} {a : α} {f : α → Option β} {r : Option β} (h1 : x = some a) (h2 : f a = r) : x.bind f = r := by rw [h1]; exact h2
theorem frame_yes (k : Nat) {t u : Int} {p : List Int} (h : mayA t u p) : mbap_Frame.f (k + 1) t u p = some (frameB t u p, 0) := by
  obtain ⟨h1, h2, h3, h4, h5, h6⟩ := h
  have e0 := put_f [] t (by simp) h1 h2
  have e1 := put_f ([] ++ [t / 256, t % 256]) 0 (by simp) (by omega) (by omega)
  have e2 := put_f (([] ++ [t / 256, t % 256]) ++ [0 / 256, 0 % 256]) ((p.length : Int) + 1) (by simp) (by omega) (by omega)
  have e3 : wrap64 ((p.length : Int) + 1) = (p.length : Int) + 1 := by unfold wrap64; omega
  unfold mbap_Frame.f
  rw [e0]
  simp only [Option.bind_some, if_true]
  rw [if_neg (by omega), if_neg (by omega), if_neg (by omega), decide_eq_false (by omega), mbap_Frame.j0, if_neg (show ¬ (false = true) by simp)]
  refine bind_of e1 ?_
  refine bind_of (by rw [e3]; exact e2) ?_
  refine (if_pos (show (6 : Nat) < 140737488355328 by omega)).trans ?_
  refine bind_of rfl ?_
  refine (if_pos (show (7 : Nat) + p.length < 140737488355328 by omega)).trans ?_
  rw [Int.emod_eq_of_lt h3 (show u < 256 by omega)]
  rfl
theorem frame_no (k : Nat) {t u : Int} {p : List Int} (h : ¬ mayA t u p) : mbap_Frame.f (k + 1) t u p = some ([], 1) := by
  unfold mbap_Frame.f
  have hj : ∀ x, mbap_Frame.j0 (k + 1) x true t u p = some ([], 1) := by intro x; rw [mbap_Frame.j0, if_pos rfl]
  by_cases h1 : t < 0 ∨ 65535 < t
  · rw [put_no [] t h1]
    simp only [Option.bind_some]
    rw [if_neg (by omega)]
    exact hj _
  rw [put_f [] t (by simp) (by omega) (by omega)]
  simp only [Option.bind_some, if_true]
  by_cases h2 : u < 0
  · rw [if_pos h2]; exact hj _
  rw [if_neg h2]
  by_cases h3 : u > 255
  · rw [if_pos h3]; exact hj _
  rw [if_neg h3]
  by_cases h4 : (p.length : Int) < 1
  · rw [if_pos h4]; exact hj _
  rw [if_neg h4, decide_eq_true (show (p.length : Int) > 253 from Classical.byContradiction fun a => h ⟨by omega, by omega, by omega, by omega, by omega, by omega⟩)]
  exact hj _
theorem may_f (t u : Int) (p : List Int) : basculeref06_May.f t u p = some (decide (mayA t u p)) := by
  unfold basculeref06_May.f basculeref01_Is.f
  by_cases h0 : t ≥ 0
  · rw [if_pos h0]
    simp only [Option.bind_some]
    by_cases h1 : t ≤ 65535
    · rw [decide_eq_true h1, if_pos rfl]
      by_cases h2 : u ≥ 0
      · rw [if_pos h2]
        by_cases h3 : u ≤ 255
        · rw [if_pos h3]
          by_cases h4 : (p.length : Int) ≥ 1
          · rw [if_pos h4]; exact congrArg some (decide_eq_decide.2 (by unfold mayA; omega))
          · rw [if_neg h4]; exact congrArg some (decide_eq_false (fun a => by unfold mayA at a; omega)).symm
        · rw [if_neg h3]; exact congrArg some (decide_eq_false (fun a => by unfold mayA at a; omega)).symm
      · rw [if_neg h2]; exact congrArg some (decide_eq_false (fun a => by unfold mayA at a; omega)).symm
    · rw [decide_eq_false h1]; simp only [Bool.false_eq_true, if_false]; exact congrArg some (decide_eq_false (fun a => by unfold mayA at a; omega)).symm
  · rw [if_neg h0]
    simp only [Option.bind_some, Bool.false_eq_true, if_false]
    exact congrArg some (decide_eq_false (fun a => by unfold mayA at a; omega)).symm
theorem word_f (t : Int) (h0 : 0 ≤ t) (h1 : t ≤ 65535) : basculeref01_Word.f t = some [t / 256, t % 256] := by
  unfold basculeref01_Word.f
  rw [Int.tdiv_eq_ediv_of_nonneg h0, Int.tmod_eq_emod_of_nonneg h0, show wrap64 (t / 256) = t / 256 from by unfold wrap64; omega, Int.emod_eq_of_lt (by omega) (by omega), Int.emod_eq_of_lt (by omega) (by omega)]
theorem refbytes_f {t u : Int} {p : List Int} (h : mayA t u p) : basculeref06_Bytes.f t u p = some (frameB t u p) := by
  obtain ⟨h1, h2, h3, h4, h5, h6⟩ := h
  have e3 : wrap64 ((p.length : Int) + 1) = (p.length : Int) + 1 := by unfold wrap64; omega
  have e1 := word_f t h1 h2
  have e2 := word_f ((p.length : Int) + 1) (by omega) (by omega)
  unfold basculeref06_Bytes.f
  refine bind_of e1 ?_
  refine bind_of rfl ?_
  refine (if_pos (show (2 : Nat) + 2 < 140737488355328 by omega)).trans ?_
  refine bind_of rfl ?_
  refine bind_of (by rw [e3]; exact e2) ?_
  refine (if_pos (show (4 : Nat) + 2 < 140737488355328 by omega)).trans ?_
  refine bind_of rfl ?_
  refine (if_pos (show (6 : Nat) < 140737488355328 by omega)).trans ?_
  refine bind_of rfl ?_
  refine (if_pos (show (7 : Nat) + p.length < 140737488355328 by omega)).trans ?_
  rw [Int.emod_eq_of_lt h3 (show u < 256 by omega)]
  rfl
end Go.Proofs.Ytabjlanomebonaa.MthG

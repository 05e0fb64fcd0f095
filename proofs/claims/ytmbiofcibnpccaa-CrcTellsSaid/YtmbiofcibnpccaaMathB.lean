/- What the reference's step comes to. -/
import Derived.Test.YtmbiofcibnpccaaMath
namespace Go.Proofs.Ytmbiofcibnpccaa.Math
open Go.RowKit Go.Proofs.Ytmbiofcibnpccaa.PAll Go.Proofs.YtmbiofcibnpccaaW.PrintWords Go.Proofs.YtmbiofcibnpccaaW.PrintLast Go.Proofs.Ytmbiofcibnpccaa.Ext Go.Proofs.Ytmbiofcibnpccaa.ExtC Go.Proofs.Ytmbiofcibnpccaa.ExtD
set_option linter.unusedVariables false

theorem step_l0 (d : Nat) : ∀ (k i t : Nat), i + d = 8 → t < 65536 → d + 40 ≤ k → basculeref02_Step.l0 k (t : Int) (i : Int) = some ((citer d t : Nat) : Int) := by
  induction d with
  | zero =>
    intro k i t hi ht hk
    obtain ⟨k, rfl⟩ : ∃ m, k = m + 1 := ⟨k - 1, by omega⟩
    simp only [basculeref02_Step.l0]
    rw [if_neg (by omega)]
    rfl
  | succ d ih =>
    intro k i t hi ht hk
    obtain ⟨k, rfl⟩ : ∃ m, k = m + 1 := ⟨k - 1, by omega⟩
    simp only [basculeref02_Step.l0]
    rw [if_pos (by omega), tmod2, tdiv2 t (by omega)]
    have hw : wrap64 ((i : Int) + 1) = ((i + 1 : Nat) : Int) := by rw [wrap64_id _ (by omega) (by omega)]; omega
    rw [hw]
    simp only [citer]
    by_cases h : t % 2 = 1
    · rw [if_pos (by omega)]
      have hx := xor_f k (t / 2) 40961 (by omega) (by omega) (by omega)
      rw [show ((40961 : Nat) : Int) = 40961 from rfl] at hx
      rw [hx]
      simp only [Option.bind_some]
      have hc : cbit t = t / 2 ^^^ 40961 := by unfold cbit; rw [h, Nat.mul_one]
      rw [← hc]
      exact ih k (i + 1) (cbit t) (by omega) (cbit_lt t ht) (by omega)
    · rw [if_neg (by omega)]
      have hc : cbit t = t / 2 := by unfold cbit; rw [show t % 2 = 0 from by omega, Nat.mul_zero, Nat.xor_zero]
      rw [← hc]
      exact ih k (i + 1) (cbit t) (by omega) (cbit_lt t ht) (by omega)
theorem refStep_f (k s x : Nat) (hs : s < 65536) (hx : x < 256) (hk : 50 ≤ k) : basculeref02_Step.f k (s : Int) (x : Int) = some ((crcStep s x : Nat) : Int) := by
  unfold basculeref02_Step.f
  rw [xor_f k s x hs (by omega) (by omega)]
  simp only [Option.bind_some]
  exact step_l0 8 k 0 (s ^^^ x) (by omega) (Nat.xor_lt_two_pow (n := 16) hs (by omega)) (by omega)
theorem crcStep_f (s x : Nat) (hs : s < 65536) (hx : x < 256) : crc_Step.f (s : Int) (x : Int) = some (((crcStep s x : Nat) : Int), 0) := by
  unfold crc_Step.f
  have hlt := crcStep_lt s x hs hx
  have hw : IntKind.u16.wrap (s : Int) = (s : Int) := by rw [IntKind.wrap_u16]; omega
  rw [if_neg (by omega), if_neg (by omega), hw]
  have : crc_step.f (s : Int) (x : Int) = some ((crcStep s x : Nat) : Int) := by
    unfold crc_step.f
    rw [if_pos ⟨by omega, by omega, by omega, by omega⟩]
    simp
  rw [this]
  simp only [Option.bind_some]
  rw [wrap64_id _ (by omega) (by omega)]
end Go.Proofs.Ytmbiofcibnpccaa.Math

/- MasterWaits: for every wait, again and rest the call returns true, and the input reads as it did. -/
import Derived.Test.YtlalpooiegganaaYWHandWaits
namespace Go.Proofs.Ytlalpooiegganaa.WalkWaits
open Go.RowKit Go.Proofs.Ytlalpooiegganaa.HandWaits
set_option linter.unusedVariables false
theorem waits_row (wait again rest : Int) (w : World) (h0 : -9223372036854775808 ≤ wait ∧ wait ≤ 9223372036854775807) (h1 : -9223372036854775808 ≤ again ∧ again ≤ 9223372036854775807) (h2 : -9223372036854775808 ≤ rest ∧ rest ≤ 9223372036854775807) :
    Calls Try.prog 4 #[.int .i64 wait, .int .i64 again, .int .i64 rest] w fun e w' => e = .returned (.bool true) ∧ Below w.heap.size w w' := by
  by_cases a0 : wait < 1
  · exact out1 wait again rest w a0
  by_cases a1 : 30 < wait
  · exact out2 wait again rest w (by omega) a1
  by_cases a2 : again < 0
  · exact out3 wait again rest w (by omega) (by omega) a2
  by_cases a3 : 16 < again
  · exact out4 wait again rest w (by omega) (by omega) (by omega) a3
  by_cases a4 : rest < 0
  · exact out5 wait again rest w (by omega) (by omega) (by omega) (by omega) a4
  by_cases a5 : 200 < rest
  · exact out6 wait again rest w (by omega) (by omega) (by omega) (by omega) (by omega) a5
  obtain ⟨W, rfl⟩ := Int.eq_ofNat_of_zero_le (show 0 ≤ wait by omega)
  obtain ⟨A, rfl⟩ := Int.eq_ofNat_of_zero_le (show 0 ≤ again by omega)
  obtain ⟨R, rfl⟩ := Int.eq_ofNat_of_zero_le (show 0 ≤ rest by omega)
  have hAW : A * W ≤ 16 * 30 := Nat.mul_le_mul (by omega) (by omega)
  exact waits_c W A R (A * W + W) (A * W + W + R) (by omega) (by omega) (by omega) (by omega) rfl (by omega) rfl w
end Go.Proofs.Ytlalpooiegganaa.WalkWaits

/- MasterOrder: for every wait, units and waits the call returns true, and the input reads as it did. -/
import Derived.Test.YtlalpooiegganaaYOHandOrder
namespace Go.Proofs.Ytlalpooiegganaa.WalkOrder
open Go.RowKit Go.Proofs.YtlalpooiegganaaW.PrintWords Go.Proofs.YtlalpooiegganaaW.PrintLast Go.Proofs.YtlalpooiegganaaW.PrintMore Go.Proofs.Ytlalpooiegganaa.HandOrder
set_option linter.unusedVariables false
theorem order_row (wt : Int) (A : Option Addr) (c : Nat) (us : List Int) (A2 : Option Addr) (c2 : Nat) (ws : List Int) (w : World) (h0 : -9223372036854775808 ≤ wt ∧ wt ≤ 9223372036854775807) (hV : Aside0 (Kd.C (Kd.int .i64) w A us.length us)) (h1 : Aside0 (us.length ≤ c)) (h2 : ∀ x ∈ us, -9223372036854775808 ≤ x ∧ x ≤ 9223372036854775807) (hV2 : Aside0 (Kd.C (Kd.int .i64) w A2 ws.length ws)) (h3 : Aside0 (ws.length ≤ c2)) (h4 : ∀ x ∈ ws, -9223372036854775808 ≤ x ∧ x ≤ 9223372036854775807) :
    Calls Try.prog 7 #[.int .i64 wt, .slice A us.length c, .slice A2 ws.length c2] w fun e w' => e = .returned (.bool true) ∧ Below w.heap.size w w' := by
  by_cases a0 : wt < 1
  · exact out1 wt A c us A2 c2 ws w a0
  by_cases a1 : 1000 < wt
  · exact out2 wt A c us A2 c2 ws w (by omega) a1
  by_cases a2 : (60 : Int) < (us.length : Int)
  · exact out3 wt A c us A2 c2 ws w (by omega) (by omega) a2
  exact order_c wt A c us A2 c2 ws w (by omega) (by omega) (by omega) hV.out hV2.out
end Go.Proofs.Ytlalpooiegganaa.WalkOrder

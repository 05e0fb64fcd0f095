/- MasterOnce: for all numbers and scripts the call returns true, and the input reads as it did. -/
import Derived.Test.YtlalpooiegganaaYOHandOnce
import Derived.Test.YtlalpooiegganaaYOOpenQ
namespace Go.Proofs.Ytlalpooiegganaa.WalkOnce
open Go.RowKit Go.Proofs.YtlalpooiegganaaW.PrintWords Go.Proofs.YtlalpooiegganaaW.PrintLast Go.Proofs.YtlalpooiegganaaW.PrintMore Go.Proofs.Ytlalpooiegganaa.HandOnce Go.Proofs.Ytlalpooiegganaa.MsgT
set_option linter.unusedVariables false
theorem once_row (wt ag ps : Int) (A : Option Addr) (c : Nat) (os : List OP) (w : World) (h0 : -9223372036854775808 ≤ wt ∧ wt ≤ 9223372036854775807) (h1 : -9223372036854775808 ≤ ag ∧ ag ≤ 9223372036854775807) (h2 : -9223372036854775808 ≤ ps ∧ ps ≤ 9223372036854775807) (hV : Aside0 (Kd.C PK.k61 w A os.length os)) (hc : Aside0 (os.length ≤ c)) (hb : ∀ s ∈ os, OpenQ.OkB s) :
 Calls Try.prog 6 #[.int .i64 wt, .int .i64 ag, .int .i64 ps, .slice A os.length c] w fun e w' => e = .returned (.bool true) ∧ Below w.heap.size w w' := by
 obtain ⟨r, hr, hf⟩ := few_f os
 cases r with
 | false => exact out0 wt ag ps A c os w hV.out hc.out hr
 | true =>
  by_cases g1 : 1000000000 < ps
  ·exact out1 wt ag ps A c os w hV.out hc.out hr g1
  by_cases g2 : 1000000000 < wt
  ·exact out2 wt ag ps A c os w hV.out hc.out hr g1 g2
  by_cases hn : 1 ≤ wt ∧ 0 ≤ ag ∧ ag ≤ 16 ∧ 0 ≤ ps
  ·exact once_c wt ag ps A c os w hV.out hc.out hr g1 g2 (hf rfl) (fun x hx => hb x hx) hn
  ·exact out3 wt ag ps A c os w hV.out hc.out hr g1 g2 hn
end Go.Proofs.Ytlalpooiegganaa.WalkOnce
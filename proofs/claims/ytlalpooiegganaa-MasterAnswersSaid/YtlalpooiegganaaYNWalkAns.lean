/- MasterAnswers: for all numbers, requests and values the call returns true, and the input reads as it did. -/
import Derived.Test.YtlalpooiegganaaYNHandAns
namespace Go.Proofs.Ytlalpooiegganaa.WalkAns
open Go.RowKit Go.Proofs.YtlalpooiegganaaW.PrintWords Go.Proofs.YtlalpooiegganaaW.PrintLast Go.Proofs.YtlalpooiegganaaW.PrintMore Go.Proofs.Ytlalpooiegganaa.HandAns Go.Proofs.Ytlalpooiegganaa.MsgP
set_option linter.unusedVariables false
theorem ans_row (wt ag ps : Int) (A : Option Addr) (c : Nat) (qs : List RQ) (v : Int) (w : World) (h0 : -9223372036854775808 ≤ wt ∧ wt ≤ 9223372036854775807) (h1 : -9223372036854775808 ≤ ag ∧ ag ≤ 9223372036854775807) (h2 : -9223372036854775808 ≤ ps ∧ ps ≤ 9223372036854775807) (hV : Aside0 (Kd.C PK.k31 w A qs.length qs)) (h3 : Aside0 (qs.length ≤ c)) (h4 : True) (h5 : -9223372036854775808 ≤ v ∧ v ≤ 9223372036854775807) :
 Calls Try.prog 3 #[.int .i64 wt, .int .i64 ag, .int .i64 ps, .slice A qs.length c, .int .i64 v] w fun e w' => e = .returned (.bool true) ∧ Below w.heap.size w w' := by
 by_cases g0 : (60 : Int) < (qs.length : Int)
 ·exact out0 wt ag ps v A c qs w g0
 by_cases g1 : 1000000000 < ps
 ·exact out1 wt ag ps v A c qs w g0 g1
 by_cases g2 : 1000000000 < wt
 ·exact out2 wt ag ps v A c qs w g0 g1 g2
 by_cases g3 : v < 0
 ·exact out3 wt ag ps v A c qs w g0 g1 g2 g3
 by_cases g4 : 65535 < v
 ·exact out4 wt ag ps v A c qs w g0 g1 g2 g3 g4
 by_cases hn : 1 ≤ wt ∧ 0 ≤ ag ∧ ag ≤ 16 ∧ 0 ≤ ps
 ·exact ans_c wt ag ps v A c qs w g0 g1 g2 g3 g4 hn hV.out
 ·exact out5 wt ag ps v A c qs w g0 g1 g2 g3 g4 hn
end Go.Proofs.Ytlalpooiegganaa.WalkAns
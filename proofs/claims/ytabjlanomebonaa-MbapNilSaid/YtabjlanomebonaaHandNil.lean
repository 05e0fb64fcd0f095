/- The walk of MbapNil. -/
import Derived.Test.YtabjlanomebonaaAwakeB
namespace Go.Proofs.Ytabjlanomebonaa.HandNil
open Go.RowKit Go.Proofs.YtabjlanomebonaaW.PrintWords Go.Proofs.Ytabjlanomebonaa.Core Go.Proofs.Ytabjlanomebonaa.StrA Go.Proofs.Ytabjlanomebonaa.StrB
set_option linter.unusedVariables false
set_option maxHeartbeats 4000000 in
set_option maxRecDepth 100000 in
theorem nil_walk (A0 : Option Addr) (c0 : Nat) (l0 : List Int) (w : World) (HV0 : Aside0 (Kd.C (Kd.int .u8) w A0 l0.length l0)) (HC0 : Aside0 (l0.length ≤ c0)) (hb : ∀ x ∈ l0, 0 ≤ x ∧ x < 256) :
    Calls Try.prog 9 #[.slice A0 l0.length c0] w fun e w' => e = .returned (.bool true) ∧ Below w.heap.size w w' := by
  clear hb
  go_enter Try.func9, Try.ntmps9
  go_wp2_with (first
    | (go_at_call 24; refine (sfeed_nil _ _).mono ?_; rintro e w' ⟨rfl, rfl⟩)
    | (go_at_call 20; refine (AwakeB.awake6 _).mono ?_; rintro e w1 ⟨rfl, HBa⟩; have HB1 := Aside0.mk HBa; clear HBa)
    | (go_at_call 25; refine (left_nil _).mono ?_; rintro e w' ⟨rfl, rfl⟩))
  go_ret
  exact ⟨rfl, HB1.out⟩
end Go.Proofs.Ytabjlanomebonaa.HandNil

-- Made by a program of this session over the translation.
import Derived.Test.YtabjlanomebonaaPBx0
import Derived.Test.YtabjlanomebonaaPBx9
namespace Go.Proofs.Ytabjlanomebonaa.PB
open Go.RowKit Go.Proofs.YtabjlanomebonaaW.PrintWords Go.Proofs.YtabjlanomebonaaW.PrintLast Go.Proofs.YtabjlanomebonaaW.PrintMore
attribute [local go_sem] max2_int min2_int max_two min_two max_three min_three max_four min_four   -- for this text's walks alone
set_option linter.unusedVariables false
set_option linter.unusedSimpArgs false
open Go.Proofs.Ytabjlanomebonaa.Ext Go.Proofs.Ytabjlanomebonaa.ExtC

/-! ### basculeref02_Step: function 51 -/
def basculeref02_Step.l0 : Nat → Int → Int → Option (Int)
  | 0, _, _ => none
  | k + 1, x0, x5 => if x5 < 8 then (if (Int.tmod x0 2) = 1 then ((basculeref02_Xor.f k (wrap64 (Int.tdiv x0 2)) 40961).bind fun t126 => (basculeref02_Step.l0 k t126 (wrap64 (x5 + 1)))) else (basculeref02_Step.l0 k (wrap64 (Int.tdiv x0 2)) (wrap64 (x5 + 1)))) else (some x0)
def basculeref02_Step.f (k : Nat) (a0 : Int) (a1 : Int) : Option (Int) := (basculeref02_Xor.f k a0 a1).bind fun t125 => (basculeref02_Step.l0 k t125 0)
theorem basculeref02_Step.mono_l : ∀ k, (∀ y0 y1, LeO (basculeref02_Step.l0 k y0 y1) (basculeref02_Step.l0 (k + 1) y0 y1))
  | 0 => fun _ _ r h => by simp [basculeref02_Step.l0] at h
  | k + 1 => by
    have ih0 := basculeref02_Step.mono_l k
    · intro y0 y1
      unfold basculeref02_Step.l0
      repeat' first
      | (with_reducible exact ih0 _ _)
      | (with_reducible exact basculeref02_Xor.mono _ _ _)
      | (with_reducible exact LeO.refl _)
      | (with_reducible exact LeO.none _)
      | (with_reducible refine LeO.ite ?_ ?_)
      | (with_reducible refine LeO.bind ?_ (fun _ => ?_))
      | exact ih0 _ _
      | exact basculeref02_Xor.mono _ _ _
      | exact LeO.none _
      | refine LeO.ite ?_ ?_
      | refine LeO.bind ?_ (fun _ => ?_)
theorem basculeref02_Step.mono : ∀ a0 a1 k, LeO (basculeref02_Step.f k a0 a1) (basculeref02_Step.f (k + 1) a0 a1) := by
  intro a0 a1 k
  have ih0 := basculeref02_Step.mono_l k
  unfold basculeref02_Step.f
  repeat' first
      | (with_reducible exact ih0 _ _)
      | (with_reducible exact basculeref02_Xor.mono _ _ _)
      | (with_reducible exact LeO.refl _)
      | (with_reducible exact LeO.none _)
      | (with_reducible refine LeO.ite ?_ ?_)
      | (with_reducible refine LeO.bind ?_ (fun _ => ?_))
      | exact ih0 _ _
      | exact basculeref02_Xor.mono _ _ _
      | exact LeO.none _
      | refine LeO.ite ?_ ?_
      | refine LeO.bind ?_ (fun _ => ?_)
set_option maxHeartbeats 8000000 in
set_option maxRecDepth 100000 in
theorem basculeref02_Step.calls (k : Nat) (a0 : Int) (a1 : Int) (r : Int) (w : World) (h : basculeref02_Step.f k a0 a1 = some r) :
    Calls Try.prog 51 #[.int .i64 a0, .int .i64 a1] w fun e w' => e = .returned (.int .i64 r) ∧ Drawn0 w w' := by
  have H : ((basculeref02_Xor.f k a0 a1).bind fun t125 => (basculeref02_Step.l0 k t125 0)) = some r := h
  clear h
  replace H := Option.bind_eq_some_iff.mp H
  obtain ⟨t125, A30, H⟩ := H
  replace H : (basculeref02_Step.l0 k t125 0) = some r := H
  have A3 := Aside0.mk A30
  clear A30
  have H' := Aside0.mk H
  clear H
  go_enter Try.func51, Try.ntmps51
  go_wp2_with (first | ((with_reducible refine gate_callee (f := 52) rfl ?_); refine goesL_ (some 9) rfl rfl Try.func52 (by kernel_rfl) rfl #[.int .i64 a0, .int .i64 a1] rfl (by (try simp only [List.map_toArray, List.map_cons, List.map_nil]); first | done | rfl | (simp only [List.length_drop, List.length_take]; rfl)) ?_; (with_reducible refine (basculeref02_Xor.calls k a0 a1 t125 _ A3.out).mono ?_); rintro e w' ⟨rfl, ⟨nd, rfl⟩⟩; refine ⟨_, rfl, ?_⟩))
  go_loopg [0, 5] k (fun kq v0 v5 w' => ∃ (x0_1 : Int) (x5_1 : Int), v0 = .int .i64 x0_1 ∧ v5 = .int .i64 x5_1 ∧ Aside0 (basculeref02_Step.l0 kq x0_1 x5_1 = some r) ∧ Aside0 (kq ≤ k) ∧ Drawn0 w w')
  case atStart => exact ⟨(t125), (0), (by first | rfl | (simp; done) | (simp [*]; done)), (by first | rfl | (simp; done) | (simp [*]; done)), H', ⟨Nat.le_refl _⟩, by repeat (first | exact Drawn0.refl _ | apply Drawn0.step)⟩
  case round =>
    clear H'
    try clear p2
    obtain ⟨x0_1, x5_1, rfl, rfl, HA, HK1, ⟨m1, rfl⟩⟩ := hrel
    cases gk with
    | zero => exact absurd HA.out (by simp [basculeref02_Step.l0])
    | succ k1 =>
      have H := HA.out
      clear HA
      simp only [basculeref02_Step.l0] at H
      by_cases c4 : x5_1 < 8
      · rw [if_pos c4] at H
        have c4b0 : decide (x5_1 < 8) = true := decide_eq_true c4
        clear c4
        by_cases c5 : (Int.tmod x0_1 2) = 1
        · rw [if_pos c5] at H
          have c5b0 : ((Int.tmod x0_1 2) == 1) = true := beq_iff_eq.mpr c5
          have c5b1 : ((Int.tmod x0_1 2) != 1) = false := bne_eq_false_iff_eq.mpr c5
          clear c5
          replace H := Option.bind_eq_some_iff.mp H
          obtain ⟨t126, A60, H⟩ := H
          replace H : (basculeref02_Step.l0 k1 t126 (wrap64 (x5_1 + 1))) = some r := H
          have A6 := Aside0.mk A60
          clear A60
          have H' := Aside0.mk H
          clear H
          go_wp2_with (first | ((with_reducible refine gate_callee (f := 52) rfl ?_); refine goesL_ (some 21) rfl rfl Try.func52 (by kernel_rfl) rfl #[.int .i64 (wrap64 (Int.tdiv x0_1 2)), .int .i64 40961] rfl (by (try simp only [List.map_toArray, List.map_cons, List.map_nil]); first | done | rfl | (simp only [List.length_drop, List.length_take]; rfl)) ?_; (with_reducible refine (basculeref02_Xor.calls k1 (wrap64 (Int.tdiv x0_1 2)) 40961 t126 _ A6.out).mono ?_); rintro e w' ⟨rfl, ⟨nd, rfl⟩⟩; refine ⟨_, rfl, ?_⟩))
          go_roundg k1
          case measure => have := HK1.out; omega
          case rel => exact ⟨(t126), (wrap64 (x5_1 + 1)), (by first | rfl | (simp; done) | (simp [*]; done)), (by first | rfl | (simp; done) | (simp [*]; done)), H', ⟨by have := HK1.out; omega⟩, by repeat (first | exact Drawn0.refl _ | apply Drawn0.step)⟩
        · rw [if_neg c5] at H
          have c5b0 : ((Int.tmod x0_1 2) == 1) = false := beq_eq_false_iff_ne.mpr c5
          have c5b1 : ((Int.tmod x0_1 2) != 1) = true := bne_iff_ne.mpr c5
          have H' := Aside0.mk H
          clear H
          go_wp2
          go_roundg k1
          case measure => have := HK1.out; omega
          case rel => exact ⟨(wrap64 (Int.tdiv x0_1 2)), (wrap64 (x5_1 + 1)), (by first | rfl | (simp; done) | (simp [*]; done)), (by first | rfl | (simp; done) | (simp [*]; done)), H', ⟨by have := HK1.out; omega⟩, by repeat (first | exact Drawn0.refl _ | apply Drawn0.step)⟩
      · rw [if_neg c4] at H
        have c4b0 : decide (x5_1 < 8) = false := decide_eq_false c4
        clear c4
        obtain rfl := Option.some.inj H
        go_wp2
        go_ret
        exact ⟨by first | rfl | (simp; done) | (simp [*]; done), by repeat (first | exact Drawn0.refl _ | apply Drawn0.step)⟩

end Go.Proofs.Ytabjlanomebonaa.PB

/- The walks of MasterWaits. (printed by gen_mst.py) -/
import Derived.Test.YtlalpooiegganaaZW4
namespace Go.Proofs.Ytlalpooiegganaa.HandWaits
open Go.RowKit Go.Proofs.YtlalpooiegganaaW.PrintWords Go.Proofs.YtlalpooiegganaaW.PrintLast Go.Proofs.YtlalpooiegganaaW.PrintMore Go.Proofs.Ytlalpooiegganaa.Core Go.Proofs.Ytlalpooiegganaa.Wk Go.Proofs.Ytlalpooiegganaa.PMasterWaits Go.Proofs.Ytlalpooiegganaa.Mst Go.Proofs.Ytlalpooiegganaa.MstB Go.Proofs.Ytlalpooiegganaa.MstC Go.Proofs.Ytlalpooiegganaa.MstD Go.Proofs.Ytlalpooiegganaa.MthW
set_option linter.unusedVariables false
set_option linter.unusedSimpArgs false
theorem w11 : wrap64 (1 + 1) = 2 := by unfold wrap64; omega
theorem ask_b {B : Nat} {w : World} {g m : Nat} {wait again pause now times last : Int} {rest : Int → Int} {out : Option (Int × Int)} (h : IsM B w g m ⟨wait, again, pause, now, 1, [(1, 1)], out, times, last, rest⟩) (hB : B ≤ w.heap.size) (unit : Int) (h0 : 0 ≤ unit) (h1 : unit ≤ 247) : Calls Try.prog 11 #[.pointer (some ⟨g, 0, none⟩), .int .i64 unit, .agg #[.int .i64 3, .int .i64 0, .int .i64 1, .slice none 0 0, .int .i64 0, .int .i64 0, .int .i64 0]] w fun e w' => e = .returned (.tuple #[.int .i64 2, .int .i64 0]) ∧ IsM B w' g m ⟨wait, again, pause, now, 2, [(1, 1), (2, unit)], out, times, last, rest⟩ ∧ Below B w w' := by
  have h := ask_c h hB unit h0 h1 (by decide)
  rw [w11] at h
  exact h
set_option maxHeartbeats 4000000 in
set_option maxRecDepth 100000 in
theorem out1 (wait again rest : Int) (w : World) (h : wait < 1) : Calls Try.prog 4 #[.int .i64 wait, .int .i64 again, .int .i64 rest] w fun e w' => e = .returned (.bool true) ∧ Below w.heap.size w w' := by
  have q0 : decide (wait < 1) = true := decide_eq_true h
  clear h
  go_enter Try.func4, Try.ntmps4
  go_wp2
  go_ret
  exact ⟨rfl, Below.refl _ _⟩
set_option maxHeartbeats 4000000 in
set_option maxRecDepth 100000 in
theorem out2 (wait again rest : Int) (w : World) (h0 : 1 ≤ wait) (h : 30 < wait) : Calls Try.prog 4 #[.int .i64 wait, .int .i64 again, .int .i64 rest] w fun e w' => e = .returned (.bool true) ∧ Below w.heap.size w w' := by
  have q0 : decide (wait < 1) = false := decide_eq_false (by omega)
  have q1 : decide (30 < wait) = true := decide_eq_true h
  clear h0 h
  go_enter Try.func4, Try.ntmps4
  go_wp2
  go_ret
  exact ⟨rfl, Below.refl _ _⟩
set_option maxHeartbeats 4000000 in
set_option maxRecDepth 100000 in
theorem out3 (wait again rest : Int) (w : World) (h0 : 1 ≤ wait) (h1 : wait ≤ 30) (h : again < 0) : Calls Try.prog 4 #[.int .i64 wait, .int .i64 again, .int .i64 rest] w fun e w' => e = .returned (.bool true) ∧ Below w.heap.size w w' := by
  have q0 : decide (wait < 1) = false := decide_eq_false (by omega)
  have q1 : decide (30 < wait) = false := decide_eq_false (by omega)
  have q2 : decide (again < 0) = true := decide_eq_true h
  clear h0 h1 h
  go_enter Try.func4, Try.ntmps4
  go_wp2
  go_ret
  exact ⟨rfl, Below.refl _ _⟩
set_option maxHeartbeats 4000000 in
set_option maxRecDepth 100000 in
theorem out4 (wait again rest : Int) (w : World) (h0 : 1 ≤ wait) (h1 : wait ≤ 30) (h2 : 0 ≤ again) (h : 16 < again) : Calls Try.prog 4 #[.int .i64 wait, .int .i64 again, .int .i64 rest] w fun e w' => e = .returned (.bool true) ∧ Below w.heap.size w w' := by
  have q0 : decide (wait < 1) = false := decide_eq_false (by omega)
  have q1 : decide (30 < wait) = false := decide_eq_false (by omega)
  have q2 : decide (again < 0) = false := decide_eq_false (by omega)
  have q3 : decide (16 < again) = true := decide_eq_true h
  clear h0 h1 h2 h
  go_enter Try.func4, Try.ntmps4
  go_wp2
  go_ret
  exact ⟨rfl, Below.refl _ _⟩
set_option maxHeartbeats 4000000 in
set_option maxRecDepth 100000 in
theorem out5 (wait again rest : Int) (w : World) (h0 : 1 ≤ wait) (h1 : wait ≤ 30) (h2 : 0 ≤ again) (h3 : again ≤ 16) (h : rest < 0) : Calls Try.prog 4 #[.int .i64 wait, .int .i64 again, .int .i64 rest] w fun e w' => e = .returned (.bool true) ∧ Below w.heap.size w w' := by
  have q0 : decide (wait < 1) = false := decide_eq_false (by omega)
  have q1 : decide (30 < wait) = false := decide_eq_false (by omega)
  have q2 : decide (again < 0) = false := decide_eq_false (by omega)
  have q3 : decide (16 < again) = false := decide_eq_false (by omega)
  have q4 : decide (rest < 0) = true := decide_eq_true h
  clear h0 h1 h2 h3 h
  go_enter Try.func4, Try.ntmps4
  go_wp2
  go_ret
  exact ⟨rfl, Below.refl _ _⟩
set_option maxHeartbeats 4000000 in
set_option maxRecDepth 100000 in
theorem out6 (wait again rest : Int) (w : World) (h0 : 1 ≤ wait) (h1 : wait ≤ 30) (h2 : 0 ≤ again) (h3 : again ≤ 16) (h4 : 0 ≤ rest) (h : 200 < rest) : Calls Try.prog 4 #[.int .i64 wait, .int .i64 again, .int .i64 rest] w fun e w' => e = .returned (.bool true) ∧ Below w.heap.size w w' := by
  have q0 : decide (wait < 1) = false := decide_eq_false (by omega)
  have q1 : decide (30 < wait) = false := decide_eq_false (by omega)
  have q2 : decide (again < 0) = false := decide_eq_false (by omega)
  have q3 : decide (16 < again) = false := decide_eq_false (by omega)
  have q4 : decide (rest < 0) = false := decide_eq_false (by omega)
  have q5 : decide (200 < rest) = true := decide_eq_true h
  clear h0 h1 h2 h3 h4 h
  go_enter Try.func4, Try.ntmps4
  go_wp2
  go_ret
  exact ⟨rfl, Below.refl _ _⟩
theorem meas {n T : Nat} (h : wrap64 ((n : Int) + 1) = ((n + 1 : Nat) : Int)) (h2 : n ≤ T) : T + 2 - (intOf (.int .i64 (wrap64 ((n : Int) + 1)))).toNat < T + 2 - (intOf (.int .i64 (n : Int))).toNat := by
  rw [h]
  show T + 2 - (((n + 1 : Nat) : Int)).toNat < T + 2 - ((n : Int)).toNat
  rw [Int.toNat_natCast, Int.toNat_natCast]
  omega
theorem tick0 {W R E T n : Nat} (hW : 0 < W) : Int.tmod (n : Int) (W : Int) = ((n % W : Nat) : Int) := by
  rw [Int.tmod_eq_emod_of_nonneg (by omega)]; rfl
/-- A tick's cases. -/
theorem cases6 {W E T n R : Nat} (hE : 0 < E) (hT : T = E + R) (hn : n ≤ T) :
    (n < E ∧ n % W = 0 ∧ n ≠ T ∧ n ≠ E) ∨ (n < E ∧ n % W ≠ 0 ∧ n ≠ T ∧ n ≠ E) ∨ (E < n ∧ n ≠ T) ∨ (E < n ∧ n = T) ∨ (n = E ∧ n ≠ T) ∨ (n = E ∧ n = T) := by
  by_cases h : n % W = 0 <;> omega
set_option maxHeartbeats 4000000 in
set_option maxRecDepth 100000 in
theorem waits_c (W A R E T : Nat) (hW : 0 < W) (hW2 : W ≤ 30) (hA : A ≤ 16) (hR : R ≤ 200) (hE : E = A * W + W) (hE2 : E ≤ 510) (hT : T = E + R) (w : World) : Calls Try.prog 4 #[.int .i64 (W : Int), .int .i64 (A : Int), .int .i64 (R : Int)] w fun e w' => e = .returned (.bool true) ∧ Below w.heap.size w w' := by
  have q0 : decide ((W : Int) < 1) = false := decide_eq_false (by omega)
  have q1 : decide (30 < (W : Int)) = false := decide_eq_false (by omega)
  have q2 : decide ((A : Int) < 0) = false := decide_eq_false (by omega)
  have q3 : decide (16 < (A : Int)) = false := decide_eq_false (by omega)
  have q4 : decide ((R : Int) < 0) = false := decide_eq_false (by omega)
  have q5 : decide (200 < (R : Int)) = false := decide_eq_false (by omega)
  have ha : wrap64 ((A : Int) + 1) = (A : Int) + 1 := w_id _ (by omega) (by omega)
  have hm : wrap64 ((W : Int) * ((A : Int) + 1)) = (E : Int) := by rw [show (W : Int) * ((A : Int) + 1) = (E : Int) from by rw [hE, Int.natCast_add, Int.natCast_mul, Int.mul_add, Int.mul_one, Int.mul_comm]]; exact w_id _ (by omega) (by omega)
  have ht : wrap64 ((E : Int) + (R : Int)) = (T : Int) := by rw [show (E : Int) + (R : Int) = (T : Int) from by omega]; exact w_id _ (by omega) (by omega)
  have hE0 : 0 < E := by omega
  have hTb : T ≤ 1000 := by omega
  have HW := Aside0.mk hW; have HW2 := Aside0.mk hW2; have HA := Aside0.mk hA; have HR := Aside0.mk hR; have HE := Aside0.mk hE; have HE2 := Aside0.mk hE2; have HT := Aside0.mk hT; have HE0 := Aside0.mk hE0; have HTB := Aside0.mk hTb
  have tk1 := Aside0.mk trivial; have tk3 := Aside0.mk trivial
  clear hW2 hA hR hE hE2 hT hE0 hTb hW
  have hu39 := Try.underlying39; have hu48 := Try.underlying48
  go_enter Try.func4, Try.ntmps4
  go_wp2_with (first | (go_at_call 8; refine (new_c _ (W : Int) (A : Int) (R : Int) (by have := HW.out; omega) (by omega) (by have := HA.out; omega) (by omega)).mono ?_; rintro e w1 ⟨g, m, rfl, HI1, HB1⟩; have HI := Aside0.mk HI1; have HB := Aside0.mk HB1; clear HI1 HB1) | (go_at_call 17; have _t := tk1; refine (read_c _).mono ?_; rintro e w2 ⟨rfl, HBc⟩; have HI2 := Aside0.mk (HI.out.below HBc); have HB2 : Aside0 (Below w.heap.size w w2) := ⟨below_step HB.out HBc⟩; clear HBc HI HB tk1 _t; have tk2 := Aside0.mk trivial) | (go_at_call 11; have _t := tk2; refine (MstH.ask_a HI2.out HB2.out.size 1 (by decide) (by decide)).mono ?_; rintro e w3 ⟨rfl, HIx, HX⟩; have HI3 := Aside0.mk HIx; have HB3 : Aside0 (Below w.heap.size w w3) := ⟨belowT HB2.out HX⟩; clear HIx HX HI2 HB2 tk2 _t tk3; have tk4 := Aside0.mk trivial) | (go_at_call 17; have _t := tk4; refine (read_c _).mono ?_; rintro e w4 ⟨rfl, HBc⟩; have HI4 := Aside0.mk (HI3.out.below HBc); have HB4 : Aside0 (Below w.heap.size w w4) := ⟨below_step HB3.out HBc⟩; clear HBc HI3 HB3 tk4 _t; have tk5 := Aside0.mk trivial) | (go_at_call 11; have _t := tk5; refine (ask_b HI4.out HB4.out.size 1 (by decide) (by decide)).mono ?_; rintro e w5 ⟨rfl, HIx, HX⟩; have HI5 := Aside0.mk HIx; have HB5 : Aside0 (Below w.heap.size w w5) := ⟨belowT HB4.out HX⟩; clear HIx HX HI4 HB4 tk5 _t))
  simp only [ha, hm]
  clear ha hm
  go_loopw [10] (fun v wr => ∃ n : Nat, v = .int .i64 (n : Int) ∧ n ≤ T + 1 ∧ Aside0 (IsM w.heap.size wr g m (S W A R E T n)) ∧ Aside0 (Below w.heap.size w wr)) (fun v _ => T + 2 - (intOf v).toNat)
  case atStart => exact ⟨0, rfl, by omega, ⟨by rw [S_0]; exact HI5.out⟩, HB5⟩
  case round =>
    clear HI5 HB5
    obtain ⟨n, rfl, hn, HI, HB⟩ := hrel
    have hn1 : wrap64 ((n : Int) + 1) = ((n + 1 : Nat) : Int) := by rw [w_id _ (by omega) (by have := HTB.out; omega)]; omega
    have HN := Aside0.mk hn
    by_cases hle : n ≤ T
    case neg =>
      have c0 : decide ((n : Int) ≤ wrap64 ((E : Int) + (R : Int))) = false := decide_eq_false (by rw [ht]; omega); have c0b : decide ((n : Int) ≤ (T : Int)) = false := decide_eq_false (by omega); have c0n : decide (n ≤ T) = false := decide_eq_false (by omega)
      have HI6 : Aside0 (IsM w.heap.size wr g m ⟨W, A, R, (T : Int), 2, [], some (2, 1), 1, (T : Int), fun k => if k = 1 then (T : Int) else (fun _ => (0 : Int)) k⟩) := ⟨by have h := HI.out; rw [S_end (by have := HT.out; omega) (by omega)] at h; exact h⟩
      clear HI hn hle hn1
      go_wp2_with (first | (go_at_call 9; refine (MstH.awake_c _).mono ?_; rintro e w7 ⟨rfl, HBc⟩; have HI7 := Aside0.mk (HI6.out.below HBc); have HB7 : Aside0 (Below w.heap.size w w7) := ⟨below_step HB.out HBc⟩; clear HBc) | (go_at_call 16; refine (count_some HI7.out HB7.out.size (by decide)).mono ?_; rintro e w' ⟨rfl, rfl⟩))
      go_ret
      exact ⟨rfl, HB7.out⟩
    case pos =>
      have c0 : decide ((n : Int) ≤ wrap64 ((E : Int) + (R : Int))) = true := decide_eq_true (by rw [ht]; omega); have c0b : decide ((n : Int) ≤ (T : Int)) = true := decide_eq_true (by omega); have c0n : decide (n ≤ T) = true := decide_eq_true (by omega)
      have hmod : Int.tmod (n : Int) (W : Int) = ((n % W : Nat) : Int) := tick0 (R := R) (E := E) (T := T) HW.out
      have hW0 : ((W : Int) == 0) = false := beq_eq_false_iff_ne.2 (by have := HW.out; omega)
      have hW1 : ¬ ((W : Int) = 0) := by have := HW.out; omega
      have HL := Aside0.mk hle; clear hle hn
      rcases cases6 (W := W) HE0.out HT.out HL.out with h6 | h6 | h6 | h6 | h6 | h6
      · have hst := step_at HW.out HW2.out HA.out HR.out HE.out HE2.out HT.out HL.out HI.out HB.out.size
        rw [so_1 h6.1 h6.2.1, dn_n h6.2.2.2] at hst
        have HST := Aside0.mk hst; clear hst
        have c1n : decide (n < E) = true := decide_eq_true (by omega)
        have c1 : decide ((n : Int) < (E : Int)) = true := decide_eq_true (by omega)
        have c3 : ((n : Int) == wrap64 ((E : Int) + (R : Int))) = false := beq_eq_false_iff_ne.2 (by rw [ht]; omega); have c3b : ((n : Int) == (T : Int)) = false := beq_eq_false_iff_ne.2 (by omega); have c3n : (n == T) = false := beq_eq_false_iff_ne.2 (by omega); have c3m : (n = T) = False := eq_false (by omega)
        have c4 : ((n : Int) == (E : Int)) = false := beq_eq_false_iff_ne.2 (by omega); have c4n : (n == E) = false := beq_eq_false_iff_ne.2 (by omega); have c4m : (n = E) = False := eq_false (by omega)
        have c2 : (Int.tmod (n : Int) (W : Int) == 0) = true := beq_iff_eq.2 (by rw [hmod]; have := h6.2.1; omega); have c2b : ((n : Int) % (W : Int) == 0) = true := beq_iff_eq.2 (by have := h6.2.1; rw [← Int.natCast_emod, this]; rfl)
        have HN1 := Aside0.mk hn1; clear h6 hmod hn1
        go_wp2_with ((go_at_call 12; refine HST.out.mono ?_; rintro e w6 ⟨va, vd, rfl, hs, hd, HIx, HX⟩; have HI6 := Aside0.mk HIx; have HB6 : Aside0 (Below w.heap.size w w6) := ⟨belowT HB.out HX⟩; clear HIx HX; obtain ⟨ga, ca, rfl, hga⟩ := hs; have la : w6.cell? ⟨ga, 0, none⟩ = some (.int .i64 1) := (blk_cell hga 0).trans rfl; obtain rfl : vd = .slice none 0 0 := hd))
        go_roundw
        case rel => exact ⟨n + 1, congrArg (Value.int .i64) (by first | exact HN1.out | rfl | omega), by have := HL.out; omega, HI6, HB6⟩
        case measure => exact meas HN1.out HL.out
      · have hst := step_at HW.out HW2.out HA.out HR.out HE.out HE2.out HT.out HL.out HI.out HB.out.size
        rw [so_n (.inl h6.2.1) h6.2.2.1, dn_n h6.2.2.2] at hst
        have HST := Aside0.mk hst; clear hst
        have c1n : decide (n < E) = true := decide_eq_true (by omega)
        have c1 : decide ((n : Int) < (E : Int)) = true := decide_eq_true (by omega)
        have c3 : ((n : Int) == wrap64 ((E : Int) + (R : Int))) = false := beq_eq_false_iff_ne.2 (by rw [ht]; omega); have c3b : ((n : Int) == (T : Int)) = false := beq_eq_false_iff_ne.2 (by omega); have c3n : (n == T) = false := beq_eq_false_iff_ne.2 (by omega); have c3m : (n = T) = False := eq_false (by omega)
        have c4 : ((n : Int) == (E : Int)) = false := beq_eq_false_iff_ne.2 (by omega); have c4n : (n == E) = false := beq_eq_false_iff_ne.2 (by omega); have c4m : (n = E) = False := eq_false (by omega)
        have c2 : (Int.tmod (n : Int) (W : Int) == 0) = false := beq_eq_false_iff_ne.2 (by rw [hmod]; have := h6.2.1; omega); have c2b : ((n : Int) % (W : Int) == 0) = false := beq_eq_false_iff_ne.2 (by have := h6.2.1; rw [← Int.natCast_emod]; omega)
        have HN1 := Aside0.mk hn1; clear h6 hmod hn1
        go_wp2_with ((go_at_call 12; refine HST.out.mono ?_; rintro e w6 ⟨va, vd, rfl, hs, hd, HIx, HX⟩; have HI6 := Aside0.mk HIx; have HB6 : Aside0 (Below w.heap.size w w6) := ⟨belowT HB.out HX⟩; clear HIx HX; obtain rfl : va = .slice none 0 0 := hs; obtain rfl : vd = .slice none 0 0 := hd))
        go_roundw
        case rel => exact ⟨n + 1, congrArg (Value.int .i64) (by first | exact HN1.out | rfl | omega), by have := HL.out; omega, HI6, HB6⟩
        case measure => exact meas HN1.out HL.out
      · have hst := step_at HW.out HW2.out HA.out HR.out HE.out HE2.out HT.out HL.out HI.out HB.out.size
        rw [so_n (.inr (Nat.le_of_lt h6.1)) h6.2, dn_n (Nat.ne_of_gt h6.1)] at hst
        have HST := Aside0.mk hst; clear hst
        have c1n : decide (n < E) = false := decide_eq_false (by omega)
        have c1 : decide ((n : Int) < (E : Int)) = false := decide_eq_false (by omega)
        have c3 : ((n : Int) == wrap64 ((E : Int) + (R : Int))) = false := beq_eq_false_iff_ne.2 (by rw [ht]; omega); have c3b : ((n : Int) == (T : Int)) = false := beq_eq_false_iff_ne.2 (by omega); have c3n : (n == T) = false := beq_eq_false_iff_ne.2 (by omega); have c3m : (n = T) = False := eq_false (by omega)
        have c4 : ((n : Int) == (E : Int)) = false := beq_eq_false_iff_ne.2 (by omega); have c4n : (n == E) = false := beq_eq_false_iff_ne.2 (by omega); have c4m : (n = E) = False := eq_false (by omega)
        have HN1 := Aside0.mk hn1; clear h6 hmod hn1
        go_wp2_with ((go_at_call 12; refine HST.out.mono ?_; rintro e w6 ⟨va, vd, rfl, hs, hd, HIx, HX⟩; have HI6 := Aside0.mk HIx; have HB6 : Aside0 (Below w.heap.size w w6) := ⟨belowT HB.out HX⟩; clear HIx HX; obtain rfl : va = .slice none 0 0 := hs; obtain rfl : vd = .slice none 0 0 := hd))
        go_roundw
        case rel => exact ⟨n + 1, congrArg (Value.int .i64) (by first | exact HN1.out | rfl | omega), by have := HL.out; omega, HI6, HB6⟩
        case measure => exact meas HN1.out HL.out
      · have hst := step_at HW.out HW2.out HA.out HR.out HE.out HE2.out HT.out HL.out HI.out HB.out.size
        rw [so_2 (Nat.le_of_lt h6.1) h6.2, dn_n (Nat.ne_of_gt h6.1)] at hst
        have HST := Aside0.mk hst; clear hst
        have c1n : decide (n < E) = false := decide_eq_false (by omega)
        have c1 : decide ((n : Int) < (E : Int)) = false := decide_eq_false (by omega)
        have c3 : ((n : Int) == wrap64 ((E : Int) + (R : Int))) = true := beq_iff_eq.2 (by rw [ht]; omega); have c3b : ((n : Int) == (T : Int)) = true := beq_iff_eq.2 (by omega); have c3n : (n == T) = true := beq_iff_eq.2 (by omega); have c3m : (n = T) = True := eq_true (by omega)
        have c4 : ((n : Int) == (E : Int)) = false := beq_eq_false_iff_ne.2 (by omega); have c4n : (n == E) = false := beq_eq_false_iff_ne.2 (by omega); have c4m : (n = E) = False := eq_false (by omega)
        have HN1 := Aside0.mk hn1; clear h6 hmod hn1
        go_wp2_with ((go_at_call 12; refine HST.out.mono ?_; rintro e w6 ⟨va, vd, rfl, hs, hd, HIx, HX⟩; have HI6 := Aside0.mk HIx; have HB6 : Aside0 (Below w.heap.size w w6) := ⟨belowT HB.out HX⟩; clear HIx HX; obtain ⟨ga, ca, rfl, hga⟩ := hs; have la : w6.cell? ⟨ga, 0, none⟩ = some (.int .i64 2) := (blk_cell hga 0).trans rfl; obtain rfl : vd = .slice none 0 0 := hd))
        go_roundw
        case rel => exact ⟨n + 1, congrArg (Value.int .i64) (by first | exact HN1.out | rfl | omega), by have := HL.out; omega, HI6, HB6⟩
        case measure => exact meas HN1.out HL.out
      · have hst := step_at HW.out HW2.out HA.out HR.out HE.out HE2.out HT.out HL.out HI.out HB.out.size
        rw [so_n (.inr (Nat.le_of_eq h6.1.symm)) h6.2, dn_1 h6.1] at hst
        have HST := Aside0.mk hst; clear hst
        have c1n : decide (n < E) = false := decide_eq_false (by omega)
        have c1 : decide ((n : Int) < (E : Int)) = false := decide_eq_false (by omega)
        have c3 : ((n : Int) == wrap64 ((E : Int) + (R : Int))) = false := beq_eq_false_iff_ne.2 (by rw [ht]; omega); have c3b : ((n : Int) == (T : Int)) = false := beq_eq_false_iff_ne.2 (by omega); have c3n : (n == T) = false := beq_eq_false_iff_ne.2 (by omega); have c3m : (n = T) = False := eq_false (by omega)
        have c4 : ((n : Int) == (E : Int)) = true := beq_iff_eq.2 (by omega); have c4n : (n == E) = true := beq_iff_eq.2 (by omega); have c4m : (n = E) = True := eq_true (by omega)
        have HN1 := Aside0.mk hn1; clear h6 hmod hn1
        go_wp2_with ((go_at_call 12; refine HST.out.mono ?_; rintro e w6 ⟨va, vd, rfl, hs, hd, HIx, HX⟩; have HI6 := Aside0.mk HIx; have HB6 : Aside0 (Below w.heap.size w w6) := ⟨belowT HB.out HX⟩; clear HIx HX; obtain rfl : va = .slice none 0 0 := hs; obtain ⟨gd, cd, rfl, hdc⟩ := hd; have ld0 : w6.cell? ⟨gd, 0, none⟩ = some (.int .i64 1) := hdc 0 _ rfl; have ld3 : w6.cell? ⟨gd, 3, none⟩ = some (.bool true) := hdc 3 _ rfl))
        go_roundw
        case rel => exact ⟨n + 1, congrArg (Value.int .i64) (by first | exact HN1.out | rfl | omega), by have := HL.out; omega, HI6, HB6⟩
        case measure => exact meas HN1.out HL.out
      · have hst := step_at HW.out HW2.out HA.out HR.out HE.out HE2.out HT.out HL.out HI.out HB.out.size
        rw [so_2 (Nat.le_of_eq h6.1.symm) h6.2, dn_1 h6.1] at hst
        have HST := Aside0.mk hst; clear hst
        have c1n : decide (n < E) = false := decide_eq_false (by omega)
        have c1 : decide ((n : Int) < (E : Int)) = false := decide_eq_false (by omega)
        have c3 : ((n : Int) == wrap64 ((E : Int) + (R : Int))) = true := beq_iff_eq.2 (by rw [ht]; omega); have c3b : ((n : Int) == (T : Int)) = true := beq_iff_eq.2 (by omega); have c3n : (n == T) = true := beq_iff_eq.2 (by omega); have c3m : (n = T) = True := eq_true (by omega)
        have c4 : ((n : Int) == (E : Int)) = true := beq_iff_eq.2 (by omega); have c4n : (n == E) = true := beq_iff_eq.2 (by omega); have c4m : (n = E) = True := eq_true (by omega)
        have HN1 := Aside0.mk hn1; clear h6 hmod hn1
        go_wp2_with ((go_at_call 12; refine HST.out.mono ?_; rintro e w6 ⟨va, vd, rfl, hs, hd, HIx, HX⟩; have HI6 := Aside0.mk HIx; have HB6 : Aside0 (Below w.heap.size w w6) := ⟨belowT HB.out HX⟩; clear HIx HX; obtain ⟨ga, ca, rfl, hga⟩ := hs; have la : w6.cell? ⟨ga, 0, none⟩ = some (.int .i64 2) := (blk_cell hga 0).trans rfl; obtain ⟨gd, cd, rfl, hdc⟩ := hd; have ld0 : w6.cell? ⟨gd, 0, none⟩ = some (.int .i64 1) := hdc 0 _ rfl; have ld3 : w6.cell? ⟨gd, 3, none⟩ = some (.bool true) := hdc 3 _ rfl))
        go_roundw
        case rel => exact ⟨n + 1, congrArg (Value.int .i64) (by first | exact HN1.out | rfl | omega), by have := HL.out; omega, HI6, HB6⟩
        case measure => exact meas HN1.out HL.out
end Go.Proofs.Ytlalpooiegganaa.HandWaits

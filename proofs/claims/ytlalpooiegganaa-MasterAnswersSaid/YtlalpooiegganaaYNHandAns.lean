/- The walks of MasterAnswers. (printed by gen_mst.py) -/
import Derived.Test.YtlalpooiegganaaZN5
import Derived.WalkMore
namespace Go.Proofs.Ytlalpooiegganaa.HandAns
open Go.RowKit Go.Proofs.YtlalpooiegganaaW.PrintWords Go.Proofs.YtlalpooiegganaaW.PrintLast Go.Proofs.YtlalpooiegganaaW.PrintMore Go.Proofs.Ytlalpooiegganaa.Core Go.Proofs.Ytlalpooiegganaa.Wk Go.Proofs.Ytlalpooiegganaa.PMasterWaits Go.Proofs.Ytlalpooiegganaa.Msg Go.Proofs.Ytlalpooiegganaa.MsgB Go.Proofs.Ytlalpooiegganaa.MsgC Go.Proofs.Ytlalpooiegganaa.MsgD Go.Proofs.Ytlalpooiegganaa.MsgE Go.Proofs.Ytlalpooiegganaa.MsgG Go.Proofs.Ytlalpooiegganaa.MsgP
set_option linter.unusedVariables false
set_option linter.unusedSimpArgs false
theorem meas {n N : Nat} (h : wrap64 ((n : Int) + 1) = ((n + 1 : Nat) : Int)) (h2 : n < N) : N + 1 - (intOf (.int .i64 (wrap64 ((n : Int) + 1)))).toNat < N + 1 - (intOf (.int .i64 (n : Int))).toNat := by
 rw [h]
 show N + 1 - (((n + 1 : Nat) : Int)).toNat < N + 1 - ((n : Int)).toNat
 rw [Int.toNat_natCast, Int.toNat_natCast]
 omega
theorem meas2 {n N : Nat} (h2 : n < N) : N + 1 - (intOf (.int .i64 ((n : Int) + 1))).toNat < N + 1 - (intOf (.int .i64 (n : Int))).toNat := by
 show N + 1 - ((n : Int) + 1).toNat < N + 1 - ((n : Int)).toNat
 omega
theorem small_all {qs : List RQ} {k : Nat} {q : RQ} (h : ∀ j, j < k → mayQ (qs.getD j PK.z31) = true ∧ (qs.getD j PK.z31).f3.length ≤ 300) (hq : qs.getD k PK.z31 = q) (h1 : mayQ q = true) (h2 : q.f3.length ≤ 300) : ∀ j, j < k + 1 → mayQ (qs.getD j PK.z31) = true ∧ (qs.getD j PK.z31).f3.length ≤ 300 := by
 intro j hj
 by_cases e : j = k
 ·subst e; rw [hq]; exact ⟨h1, h2⟩
 ·exact h j (by omega)
set_option maxHeartbeats 4000000 in
set_option maxRecDepth 100000 in
theorem out0 (wt ag ps v : Int) (A : Option Addr) (c : Nat) (qs : List RQ) (w : World)  (h : (60 : Int) < (qs.length : Int)) : Calls Try.prog 3 #[.int .i64 wt, .int .i64 ag, .int .i64 ps, .slice A qs.length c, .int .i64 v] w fun e w' => e = .returned (.bool true) ∧ Below w.heap.size w w' := by
 have c0 : decide ((60 : Int) < (qs.length : Int)) = true := decide_eq_true (by omega)
 clear h 
 go_enter Try.func3, Try.ntmps3
 go_wp2
 go_ret
 exact ⟨rfl, Below.refl _ _⟩
set_option maxHeartbeats 4000000 in
set_option maxRecDepth 100000 in
theorem out1 (wt ag ps v : Int) (A : Option Addr) (c : Nat) (qs : List RQ) (w : World) (g0 : ¬ ((60 : Int) < (qs.length : Int))) (h : 1000000000 < ps) : Calls Try.prog 3 #[.int .i64 wt, .int .i64 ag, .int .i64 ps, .slice A qs.length c, .int .i64 v] w fun e w' => e = .returned (.bool true) ∧ Below w.heap.size w w' := by
 have c0 : decide ((60 : Int) < (qs.length : Int)) = false := decide_eq_false (by omega)
 have c1 : decide (1000000000 < ps) = true := decide_eq_true (by omega)
 clear h g0
 go_enter Try.func3, Try.ntmps3
 go_wp2
 go_ret
 exact ⟨rfl, Below.refl _ _⟩
set_option maxHeartbeats 4000000 in
set_option maxRecDepth 100000 in
theorem out2 (wt ag ps v : Int) (A : Option Addr) (c : Nat) (qs : List RQ) (w : World) (g0 : ¬ ((60 : Int) < (qs.length : Int))) (g1 : ¬ (1000000000 < ps)) (h : 1000000000 < wt) : Calls Try.prog 3 #[.int .i64 wt, .int .i64 ag, .int .i64 ps, .slice A qs.length c, .int .i64 v] w fun e w' => e = .returned (.bool true) ∧ Below w.heap.size w w' := by
 have c0 : decide ((60 : Int) < (qs.length : Int)) = false := decide_eq_false (by omega)
 have c1 : decide (1000000000 < ps) = false := decide_eq_false (by omega)
 have c2 : decide (1000000000 < wt) = true := decide_eq_true (by omega)
 clear h g0 g1
 go_enter Try.func3, Try.ntmps3
 go_wp2
 go_ret
 exact ⟨rfl, Below.refl _ _⟩
set_option maxHeartbeats 4000000 in
set_option maxRecDepth 100000 in
theorem out3 (wt ag ps v : Int) (A : Option Addr) (c : Nat) (qs : List RQ) (w : World) (g0 : ¬ ((60 : Int) < (qs.length : Int))) (g1 : ¬ (1000000000 < ps)) (g2 : ¬ (1000000000 < wt)) (h : v < 0) : Calls Try.prog 3 #[.int .i64 wt, .int .i64 ag, .int .i64 ps, .slice A qs.length c, .int .i64 v] w fun e w' => e = .returned (.bool true) ∧ Below w.heap.size w w' := by
 have c0 : decide ((60 : Int) < (qs.length : Int)) = false := decide_eq_false (by omega)
 have c1 : decide (1000000000 < ps) = false := decide_eq_false (by omega)
 have c2 : decide (1000000000 < wt) = false := decide_eq_false (by omega)
 have c3 : decide (v < 0) = true := decide_eq_true (by omega)
 clear h g0 g1 g2
 go_enter Try.func3, Try.ntmps3
 go_wp2
 go_ret
 exact ⟨rfl, Below.refl _ _⟩
set_option maxHeartbeats 4000000 in
set_option maxRecDepth 100000 in
theorem out4 (wt ag ps v : Int) (A : Option Addr) (c : Nat) (qs : List RQ) (w : World) (g0 : ¬ ((60 : Int) < (qs.length : Int))) (g1 : ¬ (1000000000 < ps)) (g2 : ¬ (1000000000 < wt)) (g3 : ¬ (v < 0)) (h : 65535 < v) : Calls Try.prog 3 #[.int .i64 wt, .int .i64 ag, .int .i64 ps, .slice A qs.length c, .int .i64 v] w fun e w' => e = .returned (.bool true) ∧ Below w.heap.size w w' := by
 have c0 : decide ((60 : Int) < (qs.length : Int)) = false := decide_eq_false (by omega)
 have c1 : decide (1000000000 < ps) = false := decide_eq_false (by omega)
 have c2 : decide (1000000000 < wt) = false := decide_eq_false (by omega)
 have c3 : decide (v < 0) = false := decide_eq_false (by omega)
 have c4 : decide (65535 < v) = true := decide_eq_true (by omega)
 clear h g0 g1 g2 g3
 go_enter Try.func3, Try.ntmps3
 go_wp2
 go_ret
 exact ⟨rfl, Below.refl _ _⟩
set_option maxHeartbeats 4000000 in
set_option maxRecDepth 100000 in
theorem out5 (wt ag ps v : Int) (A : Option Addr) (c : Nat) (qs : List RQ) (w : World) (g0 : ¬ ((60 : Int) < (qs.length : Int))) (g1 : ¬ (1000000000 < ps)) (g2 : ¬ (1000000000 < wt)) (g3 : ¬ (v < 0)) (g4 : ¬ (65535 < v)) (hn : ¬ (1 ≤ wt ∧ 0 ≤ ag ∧ ag ≤ 16 ∧ 0 ≤ ps)) : Calls Try.prog 3 #[.int .i64 wt, .int .i64 ag, .int .i64 ps, .slice A qs.length c, .int .i64 v] w fun e w' => e = .returned (.bool true) ∧ Below w.heap.size w w' := by
 have c0 : decide ((60 : Int) < (qs.length : Int)) = false := decide_eq_false (by omega)
 have c1 : decide (1000000000 < ps) = false := decide_eq_false (by omega)
 have c2 : decide (1000000000 < wt) = false := decide_eq_false (by omega)
 have c3 : decide (v < 0) = false := decide_eq_false (by omega)
 have c4 : decide (65535 < v) = false := decide_eq_false (by omega)
 have HN := Aside0.mk hn; have HB : Aside0 (Below w.heap.size w w) := ⟨Below.refl _ _⟩; clear hn g0 g1 g2 g3 g4
 go_enter Try.func3, Try.ntmps3
 go_wp2_with (first | (go_at_call 8; refine (MsgH.new_bad _ wt ag ps HN.out).mono ?_; rintro e w1 ⟨rfl, rfl⟩) | (go_at_call 9; refine (MsgH.awake_c _).mono ?_; rintro e w9 ⟨rfl, HBc⟩; have HB9 : Aside0 (Below w.heap.size w w9) := ⟨below_step HB.out HBc⟩; clear HBc))
 go_ret
 exact ⟨rfl, HB9.out⟩
set_option maxHeartbeats 4000000 in
set_option maxRecDepth 100000 in
theorem ans_c (wt ag ps v : Int) (A : Option Addr) (c : Nat) (qs : List RQ) (w : World) (g0 : ¬ ((60 : Int) < (qs.length : Int))) (g1 : ¬ (1000000000 < ps)) (g2 : ¬ (1000000000 < wt)) (g3 : ¬ (v < 0)) (g4 : ¬ (65535 < v)) (hN : 1 ≤ wt ∧ 0 ≤ ag ∧ ag ≤ 16 ∧ 0 ≤ ps) (hV : Kd.C PK.k31 w A qs.length qs) : Calls Try.prog 3 #[.int .i64 wt, .int .i64 ag, .int .i64 ps, .slice A qs.length c, .int .i64 v] w fun e w' => e = .returned (.bool true) ∧ Below w.heap.size w w' := by
 have c0 : decide ((60 : Int) < (qs.length : Int)) = false := decide_eq_false (by omega)
 have c1 : decide (1000000000 < ps) = false := decide_eq_false (by omega)
 have c2 : decide (1000000000 < wt) = false := decide_eq_false (by omega)
 have c3 : decide (v < 0) = false := decide_eq_false (by omega)
 have c4 : decide (65535 < v) = false := decide_eq_false (by omega)
 have HV := Aside0.mk hV; have HL : Aside0 (qs.length ≤ 60) := ⟨by omega⟩; have HN := Aside0.mk hN; have HVV : Aside0 (0 ≤ v) := ⟨by omega⟩; clear hV hN g0 g1 g2 g3 g4
 have hu31 := Try.underlying31; have hu39 := Try.underlying39; have hu48 := Try.underlying48; have hu46 := Try.underlying46
 go_enter Try.func3, Try.ntmps3
 go_wp2_with ((go_at_call 8; refine (new_c _ wt ag ps HN.out.1 HN.out.2.1 HN.out.2.2.1 HN.out.2.2.2).mono ?_; rintro e w1 ⟨g, m, rfl, hg, hm, hg1, hm1, HI1, HB1⟩; have HI : Aside0 (IsM w.heap.size w1 g m _) := ⟨HI1 w.heap.size⟩; have HB := Aside0.mk HB1; have HG := Aside0.mk hg; have HM := Aside0.mk hm; clear HI1 HB1 hg hm hg1 hm1))
 clear c0 c1 c2 c3 c4
 have HMm : Aside0 (∀ k, Mm w.heap.size g m k → w.heap.size ≤ k) := ⟨fun k h => by rcases h with h | h | h <;> first | (rw [h]; exact HG.out) | (rw [h]; exact HM.out) | exact h⟩
 go_loopw [13] (fun v13 wr => ∃ (k : Nat) (L : List SV), v13 = .int .i64 (k : Int) ∧ k ≤ qs.length ∧ Aside0 (L.length = k) ∧ Aside0 (IsM w.heap.size wr g m ⟨wt, ag, ps, 0, (k : Int), L, none, 0, 0, fun _ => 0⟩) ∧ Aside0 (LineOk wr qs 0 L) ∧ Aside0 (∀ j, j < k → mayQ (qs.getD j PK.z31) = true ∧ (qs.getD j PK.z31).f3.length ≤ 300) ∧ Aside0 (Below w.heap.size w wr)) (fun v13 _ => qs.length + 1 - (intOf v13).toNat)
 case atStart => exact ⟨0, [], rfl, Nat.zero_le _, ⟨rfl⟩, HI, ⟨LineOk.nil _ _ _⟩, ⟨fun j hj => absurd hj (Nat.not_lt_zero j)⟩, HB⟩
 case round =>
  clear HI HB
  obtain ⟨k, L, rfl, hk, HLk, HI, HLO, HAL, HB⟩ := hrel
  have HK := Aside0.mk hk
  by_cases hlt : k < qs.length
  case pos =>
   obtain ⟨ad, A3, c3, ead, HE⟩ := elem_at HV.out k hlt
   subst ead
   obtain ⟨q, hq⟩ : ∃ q, qs.getD k PK.z31 = q := ⟨_, rfl⟩
   rw [hq] at HE
   have HE := Aside0.mk HE; have HQ := Aside0.mk hq; clear hq
   have c0 : decide ((k : Int) < (qs.length : Int)) = true := decide_eq_true (by omega); have c0n : decide (k < qs.length) = true := decide_eq_true hlt
   have HLT := Aside0.mk hlt; clear hk
   obtain ⟨e0, e1, e2, e3, e4, e5, e6⟩ := HE.out.cells wr HB.out
   obtain ⟨b, hb⟩ : ∃ b, mayQ q = b := ⟨_, rfl⟩
   have HMB := Aside0.mk hb; clear hb
   cases b
   ·go_wp2_with ((go_at_call 10; refine (may_q (HE.out.row _ HB.out) HMB.out).mono ?_; rintro e wa ⟨rfl, HBc⟩; have HIa := Aside0.mk (HI.out.below HBc); have HLa := Aside0.mk (HLO.out.below HBc); have HBa : Aside0 (Below w.heap.size w wa) := ⟨below_step HB.out HBc⟩; clear HBc HI HLO e0 e1 e2 e3 e4 e5 e6; obtain ⟨e0, e1, e2, e3, e4, e5, e6⟩ := HE.out.cells wa HBa.out))
    go_ret
    exact ⟨rfl, HBa.out⟩
   by_cases hl3 : 300 < q.f3.length
   ·have d0 : decide ((300 : Int) < (q.f3.length : Int)) = true := decide_eq_true (by omega); have d1 : decide (300 < q.f3.length) = true := decide_eq_true hl3
    go_wp2_with ((go_at_call 10; refine (may_q (HE.out.row _ HB.out) HMB.out).mono ?_; rintro e wa ⟨rfl, HBc⟩; have HIa := Aside0.mk (HI.out.below HBc); have HLa := Aside0.mk (HLO.out.below HBc); have HBa : Aside0 (Below w.heap.size w wa) := ⟨below_step HB.out HBc⟩; clear HBc HI HLO e0 e1 e2 e3 e4 e5 e6; obtain ⟨e0, e1, e2, e3, e4, e5, e6⟩ := HE.out.cells wa HBa.out))
    go_ret
    exact ⟨rfl, HBa.out⟩
   have d0 : decide ((300 : Int) < (q.f3.length : Int)) = false := decide_eq_false (by omega); have d1 : decide (300 < q.f3.length) = false := decide_eq_false hl3
   have H300 : Aside0 (q.f3.length ≤ 300) := ⟨by omega⟩; clear hl3
   have k6 : k < 60 := by have := HL.out; omega
   have t0 : Int.tmod (k : Int) 248 = (k : Int) := by rw [Int.tmod_eq_emod_of_nonneg (by omega)]; omega
   have t1 : (k : Int) % 248 = (k : Int) := by omega
   have t2 : k % 248 = k := by omega
   have K6 := Aside0.mk k6; clear k6
   go_wp2_with (first | (go_at_call 10; refine (may_q (HE.out.row _ HB.out) HMB.out).mono ?_; rintro e wa ⟨rfl, HBc⟩; have HIa := Aside0.mk (HI.out.below HBc); have HLa := Aside0.mk (HLO.out.below HBc); have HBa : Aside0 (Below w.heap.size w wa) := ⟨below_step HB.out HBc⟩; clear HBc HI HLO e0 e1 e2 e3 e4 e5 e6; obtain ⟨e0, e1, e2, e3, e4, e5, e6⟩ := HE.out.cells wa HBa.out) | (go_at_call 11; refine (ask_q HQ.out HIa.out HBa.out.size HLa.out HLk.out K6.out (HE.out.ever HBa.out HMm.out) H300.out HMB.out).mono ?_; rintro e wb ⟨L', rfl, hlen, hlo, HIx, HX⟩; have HIb := Aside0.mk HIx; have HLb := Aside0.mk hlo; have HLn := Aside0.mk hlen; have HBb : Aside0 (Below w.heap.size w wb) := ⟨belowT HBa.out (extM HX HG.out HM.out (Nat.le_refl _) HBa.out.size)⟩; clear HIx hlo hlen HX HIa HLa e0 e1 e2 e3 e4 e5 e6))
   have HK1 : wrap64 ((k : Int) + 1) = ((k + 1 : Nat) : Int) := by rw [w_id _ (by omega) (by have := K6.out; omega)]; omega
   go_roundw
   case rel => exact ⟨k + 1, L', congrArg (Value.int .i64) (by first | exact HK1 | omega), HLT.out, HLn, HIb, HLb, ⟨small_all HAL.out HQ.out HMB.out H300.out⟩, HBb⟩
   case measure => first | exact meas HK1 HLT.out | exact meas2 HLT.out
  case neg =>
   obtain rfl : k = qs.length := by omega
   have c0 : decide ((qs.length : Int) < (qs.length : Int)) = false := by simp
   clear hlt hk HK
   go_wp2_with (fail)
   go_loopw [16] (fun v16 wq => ∃ (k : Nat) (now times last : Int) (L : List SV), v16 = .int .i64 (k : Int) ∧ Aside0 (k ≤ qs.length ∧ L.length + k = qs.length ∧ now ≤ (k : Int)) ∧ Aside0 (IsM w.heap.size wq g m ⟨wt, ag, ps, now, (qs.length : Int), L, none, times, last, fun _ => 0⟩) ∧ Aside0 (LineOk wq qs k L) ∧ Aside0 (Below w.heap.size w wq)) (fun v16 _ => qs.length + 1 - (intOf v16).toNat)
   case atStart => exact ⟨0, 0, 0, 0, L, rfl, ⟨Nat.zero_le _, HLk.out, by omega⟩, HI, HLO, HB⟩
   case round =>
    clear HI HB HLO HLk c0
    obtain ⟨k, now, times, last, L, rfl, HA, HI, HLO, HB⟩ := hrel
    by_cases hlt : ¬ (k < qs.length)
    ·skip
     obtain rfl : L = [] := List.eq_nil_of_length_eq_zero (by have := HA.out; omega)
     obtain rfl : k = qs.length := by have := HA.out; omega
     have c0 : decide ((qs.length : Int) < (qs.length : Int)) = false := by simp
     clear hlt
     go_wp2_with (first | (go_at_call 9; refine (MsgH.awake_c _).mono ?_; rintro e w9 ⟨rfl, HBc⟩; have HI9 := Aside0.mk (HI.out.below HBc); have HB9 : Aside0 (Below w.heap.size w w9) := ⟨below_step HB.out HBc⟩; clear HBc) | (go_at_call 16; refine (count_none HI9.out HB9.out.size (by decide)).mono ?_; rintro e w' ⟨rfl, rfl⟩))
     go_ret
     exact ⟨rfl, HB9.out⟩
    have hlt := Decidable.of_not_not hlt
    obtain ⟨y, xs, rfl⟩ : ∃ y xs, L = y :: xs := by cases L with | nil => (have := HA.out; simp at this; omega) | cons y xs => exact ⟨y, xs, rfl⟩
    obtain ⟨ad, A3, c3, ead, HE⟩ := elem_at HV.out k hlt
    subst ead
    obtain ⟨q, hq⟩ : ∃ q, qs.getD k PK.z31 = q := ⟨_, rfl⟩
    rw [hq] at HE
    have hmy := HAL.out k hlt; rw [hq] at hmy
    have HE := Aside0.mk HE; have HQ := Aside0.mk hq; have HMY := Aside0.mk hmy.1; have H300 := Aside0.mk hmy.2; clear hq hmy
    have c0 : decide ((k : Int) < (qs.length : Int)) = true := decide_eq_true (by omega); have c0n : decide (k < qs.length) = true := decide_eq_true hlt
    have HLT := Aside0.mk hlt; clear hlt
    obtain ⟨tk, htk⟩ : ∃ tk : Int, tk = ((k + 1 : Nat) : Int) := ⟨_, rfl⟩
    have hw1 : wrap64 ((k : Int) + 1) = tk := by rw [htk, w_id _ (by omega) (by have := HLT.out; have := HL.out; omega)]; omega
    have HTK := Aside0.mk htk; have HW1 := Aside0.mk hw1; clear htk hw1
    go_upto_region 18 with ((go_at_call 12; refine (step_q HQ.out HI.out HB.out.size HA.out.2.2 HLO.out H300.out (by have h1 := HA.out.2.1; simp only [List.length_cons] at h1; have := HL.out; omega) HTK.out).mono ?_; rintro e w6 ⟨ga, ca, A', k', rfl, hga, hk', hir, hok, hlo, HIx, HX⟩; have HIs := Aside0.mk HIx; have HB6 : Aside0 (Below w.heap.size w w6) := ⟨belowT HB.out (extM (extG HX) HG.out HM.out (Nat.le_refl _) HB.out.size)⟩; have BKa := Aside0.mk hga; have HKC := Aside0.mk hk'; have HIR := Aside0.mk hir; have HOK := Aside0.mk hok; have HLx := Aside0.mk hlo; clear HIx HX hga hk' hir hok hlo HI HLO))
    have hw1 := HW1.out; have hkl := HLT.out; have HBZ := HB6
    refine start_ (n := 33) (S := fun W => W.cell? ⟨ga, 0, none⟩ = some (.int .i64 tk) ∧ W.cell? ⟨ga, 2, none⟩ = some (.int .i64 q.f0) ∧ W.cell? ⟨ga, 3, none⟩ = some (.int .i64 q.f1) ∧ W.cell? ⟨ga, 4, none⟩ = some (.int .i64 q.f2) ∧ W.cell? ⟨ga, 5, none⟩ = some (.slice A' q.f3.length k') ∧ W.cell? ⟨ga, 6, none⟩ = some (.int .i64 q.f4) ∧ W.cell? ⟨ga, 7, none⟩ = some (.int .i64 q.f5) ∧ W.cell? ⟨ga, 8, none⟩ = some (.int .i64 q.f6) ∧ W.cell? (ad.add (k * 7)) = some (.int .i64 q.f0) ∧ W.cell? ⟨(ad.add (k * 7)).block, (ad.add (k * 7)).off + 1, none⟩ = some (.int .i64 q.f1) ∧ W.cell? ⟨(ad.add (k * 7)).block, (ad.add (k * 7)).off + 2, none⟩ = some (.int .i64 q.f2) ∧ W.cell? ⟨(ad.add (k * 7)).block, (ad.add (k * 7)).off + 3, none⟩ = some (.slice A3 q.f3.length c3) ∧ W.cell? ⟨(ad.add (k * 7)).block, (ad.add (k * 7)).off + 4, none⟩ = some (.int .i64 q.f4) ∧ W.cell? ⟨(ad.add (k * 7)).block, (ad.add (k * 7)).off + 5, none⟩ = some (.int .i64 q.f5) ∧ W.cell? ⟨(ad.add (k * 7)).block, (ad.add (k * 7)).off + 6, none⟩ = some (.int .i64 q.f6)) (ds := []) (fl 33 0) (by kernel_rfl) rfl (by kernel_rfl) ?_ (fun hHeld => ?_)
    ·exact ⟨(blk_cell (bk_ BKa) 0).trans rfl, (blk_cell (bk_ BKa) 2).trans rfl, (blk_cell (bk_ BKa) 3).trans rfl, (blk_cell (bk_ BKa) 4).trans rfl, (blk_cell (bk_ BKa) 5).trans rfl, (blk_cell (bk_ BKa) 6).trans rfl, (blk_cell (bk_ BKa) 7).trans rfl, (blk_cell (bk_ BKa) 8).trans rfl, HE.out.cells _ (by repeat (first | exact HBZ.out | apply pw_below_drewN | apply below_drew1 | apply below_alloc))⟩
    refine pu_ 0 108 (fl 33 1) rfl rfl (by kernel_rfl) ?_ (ha := by simp only [Act.put, List.setIfInBounds_toArray, List.set_cons_zero, List.set_cons_succ, i64_w, i32_w, hw1, bne_self_eq_false]; rfl)
    refine pu_ 1 109 (fl 33 3) rfl rfl (by kernel_rfl) ?_ (ha := by simp only [Act.put, List.setIfInBounds_toArray, List.set_cons_zero, List.set_cons_succ, i64_w, i32_w, hw1, bne_self_eq_false]; rfl)
    refine pu_ 2 110 (fl 33 7) rfl rfl (by kernel_rfl) ?_ (ha := by simp only [Act.put, List.setIfInBounds_toArray, List.set_cons_zero, List.set_cons_succ, i64_w, i32_w, hw1, bne_self_eq_false]; rfl)
    refine pu_ 3 111 (fl 33 15) rfl rfl (by kernel_rfl) ?_ (ha := by simp only [Act.put, List.setIfInBounds_toArray, List.set_cons_zero, List.set_cons_succ, i64_w, i32_w, hw1, bne_self_eq_false]; rfl)
    refine pu_ 4 112 (fl 33 31) rfl rfl (by kernel_rfl) ?_ (ha := by simp only [Act.put, List.setIfInBounds_toArray, List.set_cons_zero, List.set_cons_succ, i64_w, i32_w, hw1, bne_self_eq_false]; rfl)
    refine pu_ 5 113 (fl 33 63) rfl rfl (by kernel_rfl) ?_ (ha := by simp only [Act.put, List.setIfInBounds_toArray, List.set_cons_zero, List.set_cons_succ, i64_w, i32_w, hw1, bne_self_eq_false]; rfl)
    refine pu_ 6 114 (fl 33 127) rfl rfl (by kernel_rfl) ?_ (ha := by simp only [Act.put, List.setIfInBounds_toArray, List.set_cons_zero, List.set_cons_succ, i64_w, i32_w, hw1, bne_self_eq_false]; rfl)
    refine pu_ 7 115 (fl 33 255) rfl rfl (by kernel_rfl) ?_ (ha := by simp only [Act.put, List.setIfInBounds_toArray, List.set_cons_zero, List.set_cons_succ, i64_w, i32_w, hw1, bne_self_eq_false]; rfl)
    refine pu_ 8 116 (fl 33 511) rfl rfl (by kernel_rfl) ?_ (ha := by simp only [Act.put, List.setIfInBounds_toArray, List.set_cons_zero, List.set_cons_succ, i64_w, i32_w, hw1, bne_self_eq_false]; rfl)
    refine pu_ 9 117 (fl 33 1023) rfl rfl (by kernel_rfl) ?_ (ha := by simp only [Act.put, List.setIfInBounds_toArray, List.set_cons_zero, List.set_cons_succ, i64_w, i32_w, hw1, bne_self_eq_false]; rfl)
    refine pu_ 10 118 (fl 33 2047) rfl rfl (by kernel_rfl) ?_ (ha := by simp only [Act.put, List.setIfInBounds_toArray, List.set_cons_zero, List.set_cons_succ, i64_w, i32_w, hw1, bne_self_eq_false]; rfl)
    refine pu_ 11 119 (fl 33 4095) rfl rfl (by kernel_rfl) ?_ (ha := by simp only [Act.put, List.setIfInBounds_toArray, List.set_cons_zero, List.set_cons_succ, i64_w, i32_w, hw1, bne_self_eq_false]; rfl)
    refine pu_ 12 120 (fl 33 8191) rfl rfl (by kernel_rfl) ?_ (ha := by simp only [Act.put, List.setIfInBounds_toArray, List.set_cons_zero, List.set_cons_succ, i64_w, i32_w, hw1, bne_self_eq_false]; rfl)
    refine pu_ 13 121 (fl 33 16383) rfl rfl (by kernel_rfl) ?_ (ha := by simp only [Act.put, List.setIfInBounds_toArray, List.set_cons_zero, List.set_cons_succ, i64_w, i32_w, hw1, bne_self_eq_false]; rfl)
    refine tk_ 14 122 (fl 33 32767) rfl rfl (by kernel_rfl) hHeld ?_ (ha := by simp only [Act.put, List.setIfInBounds_toArray, List.set_cons_zero, List.set_cons_succ, i64_w, i32_w, hw1, bne_self_eq_false]; rfl)
    refine pu_ 15 123 (fl 33 65535) rfl rfl (by kernel_rfl) ?_ (ha := by simp only [Act.put, List.setIfInBounds_toArray, List.set_cons_zero, List.set_cons_succ, i64_w, i32_w, hw1, bne_self_eq_false]; rfl)
    refine tk_ 16 124 (fl 33 131071) rfl rfl (by kernel_rfl) hHeld ?_ (ha := by simp only [Act.put, List.setIfInBounds_toArray, List.set_cons_zero, List.set_cons_succ, i64_w, i32_w, hw1, bne_self_eq_false]; rfl)
    refine pu_ 17 125 (fl 33 262143) rfl rfl (by kernel_rfl) ?_ (ha := by simp only [Act.put, List.setIfInBounds_toArray, List.set_cons_zero, List.set_cons_succ, i64_w, i32_w, hw1, bne_self_eq_false]; rfl)
    refine pu_ 18 126 (fl 33 524287) rfl rfl (by kernel_rfl) ?_ (ha := by simp only [Act.put, List.setIfInBounds_toArray, List.set_cons_zero, List.set_cons_succ, i64_w, i32_w, hw1, bne_self_eq_false]; rfl)
    refine pu_ 19 127 (fl 33 1048575) rfl rfl (by kernel_rfl) ?_ (ha := by simp only [Act.put, List.setIfInBounds_toArray, List.set_cons_zero, List.set_cons_succ, i64_w, i32_w, hw1, bne_self_eq_false]; rfl)
    refine pu_ 20 128 (fl 33 2097151) rfl rfl (by kernel_rfl) ?_ (ha := by simp only [Act.put, List.setIfInBounds_toArray, List.set_cons_zero, List.set_cons_succ, i64_w, i32_w, hw1, bne_self_eq_false]; rfl)
    refine pu_ 21 129 (fl 33 4194303) rfl rfl (by kernel_rfl) ?_ (ha := by simp only [Act.put, List.setIfInBounds_toArray, List.set_cons_zero, List.set_cons_succ, i64_w, i32_w, hw1, bne_self_eq_false]; rfl)
    refine pu_ 22 130 (fl 33 8388607) rfl rfl (by kernel_rfl) ?_ (ha := by simp only [Act.put, List.setIfInBounds_toArray, List.set_cons_zero, List.set_cons_succ, i64_w, i32_w, hw1, bne_self_eq_false]; rfl)
    refine tk_ 23 131 (fl 33 16777215) rfl rfl (by kernel_rfl) hHeld ?_ (ha := by simp only [Act.put, List.setIfInBounds_toArray, List.set_cons_zero, List.set_cons_succ, i64_w, i32_w, hw1, bne_self_eq_false]; rfl)
    refine pu_ 24 132 (fl 33 33554431) rfl rfl (by kernel_rfl) ?_ (ha := by simp only [Act.put, List.setIfInBounds_toArray, List.set_cons_zero, List.set_cons_succ, i64_w, i32_w, hw1, bne_self_eq_false]; rfl)
    refine tk_ 25 133 (fl 33 67108863) rfl rfl (by kernel_rfl) hHeld ?_ (ha := by simp only [Act.put, List.setIfInBounds_toArray, List.set_cons_zero, List.set_cons_succ, i64_w, i32_w, hw1, bne_self_eq_false]; rfl)
    refine pu_ 26 134 (fl 33 134217727) rfl rfl (by kernel_rfl) ?_ (ha := by simp only [Act.put, List.setIfInBounds_toArray, List.set_cons_zero, List.set_cons_succ, i64_w, i32_w, hw1, bne_self_eq_false]; rfl)
    refine pu_ 27 135 (fl 33 268435455) rfl rfl (by kernel_rfl) ?_ (ha := by simp only [Act.put, List.setIfInBounds_toArray, List.set_cons_zero, List.set_cons_succ, i64_w, i32_w, hw1, bne_self_eq_false]; rfl)
    refine tk_ 28 136 (fl 33 536870911) rfl rfl (by kernel_rfl) hHeld ?_ (ha := by simp only [Act.put, List.setIfInBounds_toArray, List.set_cons_zero, List.set_cons_succ, i64_w, i32_w, hw1, bne_self_eq_false]; rfl)
    refine tk_ 29 137 (fl 33 1073741823) rfl rfl (by kernel_rfl) hHeld ?_ (ha := by simp only [Act.put, List.setIfInBounds_toArray, List.set_cons_zero, List.set_cons_succ, i64_w, i32_w, hw1, bne_self_eq_false]; rfl)
    refine one_ (i := 30) (N := some 138) (fl 33 2147483647) rfl rfl (by kernel_rfl) (by decide) (fun K hK => ?_)
    refine goes_ Try.func13 (by kernel_rfl) rfl #[.agg #[.int .i64 q.f0, .int .i64 q.f1, .int .i64 q.f2, .slice A' q.f3.length k', .int .i64 q.f4, .int .i64 q.f5, .int .i64 q.f6], .agg #[.int .i64 q.f0, .int .i64 q.f1, .int .i64 q.f2, .slice A3 q.f3.length c3, .int .i64 q.f4, .int .i64 q.f5, .int .i64 q.f6]] (by rfl) rfl rfl (by (try simp only [List.map_toArray, List.map_cons, List.map_nil]); first | done | rfl) ?_
    refine (same_q H300.out (irow_C (irow_below HIR.out (by repeat (first | exact Below.refl _ _ | apply pw_below_drewN | apply below_drew1)))) HKC.out (HE.out.row _ (by repeat (first | exact HBZ.out | apply pw_below_drewN | apply below_drew1 | apply below_alloc))) HE.out.cap).mono ?_
    rintro e w7 ⟨rfl, HBc⟩
    refine ⟨_, rfl, ?_⟩
    have HBd : Below w6.heap.size w6 w7 := below_step (by repeat (first | exact Below.refl _ _ | apply pw_below_drewN | apply below_drew1)) HBc
    have HI7 := Aside0.mk (HIs.out.below HBd); have HOK7 := Aside0.mk (HOK.out.keeps (keeps_below HBd)); have HL7 := Aside0.mk (HLx.out.below HBd); have BKa7 := Aside0.mk (blk_below BKa.out HBd); have HB7 : Aside0 (Below w.heap.size w w7) := ⟨below_step HB6.out HBd⟩
    clear HBZ HBc HBd HIs HOK HLx BKa HIR
    have HBZ := HB7; have BKa := BKa7; clear BKa7
    refine hK.out _ _ ?_ (fun hHeld => ?_)
    ·exact ⟨(blk_cell (bk_ BKa) 0).trans rfl, (blk_cell (bk_ BKa) 2).trans rfl, (blk_cell (bk_ BKa) 3).trans rfl, (blk_cell (bk_ BKa) 4).trans rfl, (blk_cell (bk_ BKa) 5).trans rfl, (blk_cell (bk_ BKa) 6).trans rfl, (blk_cell (bk_ BKa) 7).trans rfl, (blk_cell (bk_ BKa) 8).trans rfl, HE.out.cells _ (by repeat (first | exact HBZ.out | apply pw_below_drewN | apply below_drew1 | apply below_alloc))⟩
    clear hK K
    refine norm_ (a' := ?_) ?_ ?_
    rotate_left
    ·show Act.put _ (some 138) _ = _
     simp only [Act.put, List.setIfInBounds_toArray, List.set_cons_zero, List.set_cons_succ, i64_w, i32_w, hw1, bne_self_eq_false]
     rfl
    refine pu_ 31 139 (fl 33 4294967295) rfl rfl (by kernel_rfl) ?_ (ha := by simp only [Act.put, List.setIfInBounds_toArray, List.set_cons_zero, List.set_cons_succ, i64_w, i32_w, hw1, bne_self_eq_false]; rfl)
    refine pu_ 32 140 (fl 33 8589934591) rfl rfl (by kernel_rfl) ?_ (ha := by simp only [Act.put, List.setIfInBounds_toArray, List.set_cons_zero, List.set_cons_succ, i64_w, i32_w, hw1, bne_self_eq_false]; rfl)
    refine done_ (by kernel_rfl) ?_
    go_upto_region 20 with (fail)
    refine start_ (n := 19) (S := fun W => W.cell? ⟨ga, 1, none⟩ = some (.int .i64 (k : Int)) ∧ W.cell? (ad.add (k * 7)) = some (.int .i64 q.f0) ∧ W.cell? ⟨(ad.add (k * 7)).block, (ad.add (k * 7)).off + 1, none⟩ = some (.int .i64 q.f1) ∧ W.cell? ⟨(ad.add (k * 7)).block, (ad.add (k * 7)).off + 2, none⟩ = some (.int .i64 q.f2) ∧ W.cell? ⟨(ad.add (k * 7)).block, (ad.add (k * 7)).off + 3, none⟩ = some (.slice A3 q.f3.length c3) ∧ W.cell? ⟨(ad.add (k * 7)).block, (ad.add (k * 7)).off + 4, none⟩ = some (.int .i64 q.f4) ∧ W.cell? ⟨(ad.add (k * 7)).block, (ad.add (k * 7)).off + 5, none⟩ = some (.int .i64 q.f5) ∧ W.cell? ⟨(ad.add (k * 7)).block, (ad.add (k * 7)).off + 6, none⟩ = some (.int .i64 q.f6)) (ds := []) (fl 19 0) (by kernel_rfl) rfl (by kernel_rfl) ?_ (fun hHeld => ?_)
    ·exact ⟨(blk_cell (bk_ BKa) 1).trans rfl, HE.out.cells _ (by repeat (first | exact HBZ.out | apply pw_below_drewN | apply below_drew1 | apply below_alloc))⟩
    refine pu_ 0 142 (fl 19 1) rfl rfl (by kernel_rfl) ?_ (ha := by simp only [Act.put, List.setIfInBounds_toArray, List.set_cons_zero, List.set_cons_succ, i64_w, i32_w, hw1, bne_self_eq_false]; rfl)
    refine pu_ 1 143 (fl 19 3) rfl rfl (by kernel_rfl) ?_ (ha := by simp only [Act.put, List.setIfInBounds_toArray, List.set_cons_zero, List.set_cons_succ, i64_w, i32_w, hw1, bne_self_eq_false]; rfl)
    refine pu_ 2 144 (fl 19 7) rfl rfl (by kernel_rfl) ?_ (ha := by simp only [Act.put, List.setIfInBounds_toArray, List.set_cons_zero, List.set_cons_succ, i64_w, i32_w, hw1, bne_self_eq_false]; rfl)
    refine tk_ 3 145 (fl 19 15) rfl rfl (by kernel_rfl) hHeld ?_ (ha := by simp only [Act.put, List.setIfInBounds_toArray, List.set_cons_zero, List.set_cons_succ, i64_w, i32_w, hw1, bne_self_eq_false]; rfl)
    refine pu_ 4 146 (fl 19 31) rfl rfl (by kernel_rfl) ?_ (ha := by simp only [Act.put, List.setIfInBounds_toArray, List.set_cons_zero, List.set_cons_succ, i64_w, i32_w, hw1, bne_self_eq_false]; rfl)
    refine tk_ 5 147 (fl 19 63) rfl rfl (by kernel_rfl) hHeld ?_ (ha := by simp only [Act.put, List.setIfInBounds_toArray, List.set_cons_zero, List.set_cons_succ, i64_w, i32_w, hw1, bne_self_eq_false]; rfl)
    refine pu_ 6 148 (fl 19 127) rfl rfl (by kernel_rfl) ?_ (ha := by simp only [Act.put, List.setIfInBounds_toArray, List.set_cons_zero, List.set_cons_succ, i64_w, i32_w, hw1, bne_self_eq_false]; rfl)
    refine pu_ 7 149 (fl 19 255) rfl rfl (by kernel_rfl) ?_ (ha := by simp only [Act.put, List.setIfInBounds_toArray, List.set_cons_zero, List.set_cons_succ, i64_w, i32_w, hw1, bne_self_eq_false]; rfl)
    refine pu_ 8 150 (fl 19 511) rfl rfl (by kernel_rfl) ?_ (ha := by simp only [Act.put, List.setIfInBounds_toArray, List.set_cons_zero, List.set_cons_succ, i64_w, i32_w, hw1, bne_self_eq_false]; rfl)
    refine tk_ 9 151 (fl 19 1023) rfl rfl (by kernel_rfl) hHeld ?_ (ha := by simp only [Act.put, List.setIfInBounds_toArray, List.set_cons_zero, List.set_cons_succ, i64_w, i32_w, hw1, bne_self_eq_false]; rfl)
    refine tk_ 10 152 (fl 19 2047) rfl rfl (by kernel_rfl) hHeld ?_ (ha := by simp only [Act.put, List.setIfInBounds_toArray, List.set_cons_zero, List.set_cons_succ, i64_w, i32_w, hw1, bne_self_eq_false]; rfl)
    refine pu_ 11 153 (fl 19 4095) rfl rfl (by kernel_rfl) ?_ (ha := by simp only [Act.put, List.setIfInBounds_toArray, List.set_cons_zero, List.set_cons_succ, i64_w, i32_w, hw1, bne_self_eq_false]; rfl)
    refine one_ (i := 12) (N := some 154) (fl 19 8191) rfl rfl (by kernel_rfl) (by decide) (fun K hK => ?_)
    refine goes_ Try.func15 (by kernel_rfl) rfl #[.agg #[.int .i64 q.f0, .int .i64 q.f1, .int .i64 q.f2, .slice A3 q.f3.length c3, .int .i64 q.f4, .int .i64 q.f5, .int .i64 q.f6], .int .i64 v] (by rfl) rfl rfl (by (try simp only [List.map_toArray, List.map_cons, List.map_nil]); first | done | rfl) ?_
    refine (answer_q HMY.out (HE.out.row _ (by repeat (first | exact HBZ.out | apply pw_below_drewN | apply below_drew1 | apply below_alloc))) HE.out.cap v).mono ?_
    rintro e w8 ⟨Ab, cb, rfl, hcb, hev, HBc⟩
    refine ⟨_, rfl, ?_⟩
    have HBd : Below w7.heap.size w7 w8 := below_step (by repeat (first | exact Below.refl _ _ | apply pw_below_drewN | apply below_drew1)) HBc
    have HI8 := Aside0.mk (HI7.out.below HBd); have HOK8 := Aside0.mk (HOK7.out.keeps (keeps_below HBd)); have HL8 := Aside0.mk (HL7.out.below HBd); have BKan := Aside0.mk (blk_below BKa.out HBd); have HB8 : Aside0 (Below w.heap.size w w8) := ⟨below_step HB7.out HBd⟩
    have HEV8 : Aside0 (Ever (fun k => k = g) w8 (fun W => Kd.C (Kd.int .u8) W Ab (ansQ q v).length (ansQ q v))) := ⟨hev _ (fun k e => by have h1 := MsgD.IsM.outS HI7.out; have h2 := below_size (w := w7) (by repeat (first | exact Below.refl _ _ | apply pw_below_drewN | apply below_drew1)); rw [show k = g from e]; exact Nat.lt_of_lt_of_le h1 h2)⟩
    have HCB := Aside0.mk hcb
    clear HBZ HBc HBd BKa hev hcb HI7 HOK7 HL7
    have HBZ := HB8; have BKa := BKan; clear BKan
    obtain ⟨bs, hbs⟩ : ∃ bs, bs = ansQ q v := ⟨_, rfl⟩
    rw [← hbs] at HEV8 HCB ⊢
    have HBS := Aside0.mk hbs; clear hbs
    refine hK.out _ _ ?_ (fun hHeld => ?_)
    ·exact ⟨(blk_cell (bk_ BKa) 1).trans rfl, HE.out.cells _ (by repeat (first | exact HBZ.out | apply pw_below_drewN | apply below_drew1 | apply below_alloc))⟩
    clear hK K
    refine norm_ (a' := ?_) ?_ ?_
    rotate_left
    ·show Act.put _ (some 154) _ = _
     simp only [Act.put, List.setIfInBounds_toArray, List.set_cons_zero, List.set_cons_succ, i64_w, i32_w, hw1, bne_self_eq_false]
     rfl
    refine one_ (i := 13) (N := some 155) (fl 19 16383) rfl rfl (by kernel_rfl) (by decide) (fun K hK => ?_)
    refine goes_ Try.func14 (by kernel_rfl) rfl #[.pointer (some ⟨g, 0, none⟩), .int .i64 (k : Int), .int .i64 tk, .slice Ab bs.length cb] (by rfl) rfl rfl (by (try simp only [List.map_toArray, List.map_cons, List.map_nil]); first | done | rfl) ?_
    refine (came_unlike (HI8.out.below (by repeat (first | exact Below.refl _ _ | apply pw_below_drewN | apply below_drew1))) (Nat.le_trans HB8.out.size (below_size (by repeat (first | exact Below.refl _ _ | apply pw_below_drewN | apply below_drew1)))) (k : Int) (by omega) (Int.le_refl _) tk (by rw [HOK8.out.2.1, HTK.out]; omega) Ab bs.length cb).mono ?_
    rintro e w9 ⟨rfl, HIx, HX, HKx⟩
    refine ⟨_, rfl, ?_⟩
    have HKd : Keeps w8 w9 := (keeps_below (by repeat (first | exact Below.refl _ _ | apply pw_below_drewN | apply below_drew1))).trans HKx
    have HXd : Ext (Mm w.heap.size g m) w8 w9 := (Ext.of_below (by repeat (first | exact Below.refl _ _ | apply pw_below_drewN | apply below_drew1))).trans (extG HX)
    have HI9 := Aside0.mk HIx; have HL9 := Aside0.mk (HL8.out.keeps HKd); have HB9 : Aside0 (Below w.heap.size w w9) := ⟨belowT HB8.out (extM HXd HG.out HM.out (Nat.le_refl _) HB8.out.size)⟩
    have HOK9 := Aside0.mk (HOK8.out.keeps HKd)
    have BKan : Aside0 (w9.heap[ga]? = some (.cells #[.int .i64 tk, .int .i64 (k : Int), .int .i64 q.f0, .int .i64 q.f1, .int .i64 q.f2, .slice A' q.f3.length k', .int .i64 q.f4, .int .i64 q.f5, .int .i64 q.f6] 39 (0, 0))) := ⟨Ext.blk ((Ext.of_below (by repeat (first | exact Below.refl _ _ | apply pw_below_drewN | apply below_drew1))).trans HX) BKa.out (MsgH.apart HI8.out BKa.out (by decide))⟩
    clear HBZ BKa HIx HX HKx HKd HXd HEV8 HCB HBS HI8 HL8 HOK8
    have HBZ := HB9; have BKa := BKan; clear BKan
    refine hK.out _ _ ?_ (fun hHeld => ?_)
    ·exact ⟨(blk_cell (bk_ BKa) 1).trans rfl, HE.out.cells _ (by repeat (first | exact HBZ.out | apply pw_below_drewN | apply below_drew1 | apply below_alloc))⟩
    clear hK K
    refine norm_ (a' := ?_) ?_ ?_
    rotate_left
    ·show Act.put _ (some 155) _ = _
     simp only [Act.put, List.setIfInBounds_toArray, List.set_cons_zero, List.set_cons_succ, i64_w, i32_w, hw1, bne_self_eq_false]
     rfl
    refine pu_ 14 141 (fl 19 32767) rfl rfl (by kernel_rfl) ?_ (ha := by simp only [Act.put, List.setIfInBounds_toArray, List.set_cons_zero, List.set_cons_succ, i64_w, i32_w, hw1, bne_self_eq_false]; rfl)
    refine pu_ 15 156 (fl 19 65535) rfl rfl (by kernel_rfl) ?_ (ha := by simp only [Act.put, List.setIfInBounds_toArray, List.set_cons_zero, List.set_cons_succ, i64_w, i32_w, hw1, bne_self_eq_false]; rfl)
    refine pu_ 16 157 (fl 19 131071) rfl rfl (by kernel_rfl) ?_ (ha := by simp only [Act.put, List.setIfInBounds_toArray, List.set_cons_zero, List.set_cons_succ, i64_w, i32_w, hw1, bne_self_eq_false]; rfl)
    refine pu_ 17 20 (fl 19 262143) rfl rfl (by kernel_rfl) ?_ (ha := by simp only [Act.put, List.setIfInBounds_toArray, List.set_cons_zero, List.set_cons_succ, i64_w, i32_w, hw1, bne_self_eq_false]; rfl)
    refine pu_ 18 21 (fl 19 524287) rfl rfl (by kernel_rfl) ?_ (ha := by simp only [Act.put, List.setIfInBounds_toArray, List.set_cons_zero, List.set_cons_succ, i64_w, i32_w, hw1, bne_self_eq_false]; rfl)
    refine done_ (by kernel_rfl) ?_
    go_upto_region 21 with (fail)
    refine start_ (n := 18) (S := fun W => W.cell? ⟨ga, 1, none⟩ = some (.int .i64 (k : Int)) ∧ W.cell? (ad.add (k * 7)) = some (.int .i64 q.f0) ∧ W.cell? ⟨(ad.add (k * 7)).block, (ad.add (k * 7)).off + 1, none⟩ = some (.int .i64 q.f1) ∧ W.cell? ⟨(ad.add (k * 7)).block, (ad.add (k * 7)).off + 2, none⟩ = some (.int .i64 q.f2) ∧ W.cell? ⟨(ad.add (k * 7)).block, (ad.add (k * 7)).off + 3, none⟩ = some (.slice A3 q.f3.length c3) ∧ W.cell? ⟨(ad.add (k * 7)).block, (ad.add (k * 7)).off + 4, none⟩ = some (.int .i64 q.f4) ∧ W.cell? ⟨(ad.add (k * 7)).block, (ad.add (k * 7)).off + 5, none⟩ = some (.int .i64 q.f5) ∧ W.cell? ⟨(ad.add (k * 7)).block, (ad.add (k * 7)).off + 6, none⟩ = some (.int .i64 q.f6)) (ds := []) (fl 18 0) (by kernel_rfl) rfl (by kernel_rfl) ?_ (fun hHeld => ?_)
    ·exact ⟨(blk_cell (bk_ BKa) 1).trans rfl, HE.out.cells _ (by repeat (first | exact HBZ.out | apply pw_below_drewN | apply below_drew1 | apply below_alloc))⟩
    refine pu_ 0 159 (fl 18 1) rfl rfl (by kernel_rfl) ?_ (ha := by simp only [Act.put, List.setIfInBounds_toArray, List.set_cons_zero, List.set_cons_succ, i64_w, i32_w, hw1, bne_self_eq_false]; rfl)
    refine pu_ 1 160 (fl 18 3) rfl rfl (by kernel_rfl) ?_ (ha := by simp only [Act.put, List.setIfInBounds_toArray, List.set_cons_zero, List.set_cons_succ, i64_w, i32_w, hw1, bne_self_eq_false]; rfl)
    refine pu_ 2 161 (fl 18 7) rfl rfl (by kernel_rfl) ?_ (ha := by simp only [Act.put, List.setIfInBounds_toArray, List.set_cons_zero, List.set_cons_succ, i64_w, i32_w, hw1, bne_self_eq_false]; rfl)
    refine tk_ 3 162 (fl 18 15) rfl rfl (by kernel_rfl) hHeld ?_ (ha := by simp only [Act.put, List.setIfInBounds_toArray, List.set_cons_zero, List.set_cons_succ, i64_w, i32_w, hw1, bne_self_eq_false]; rfl)
    refine pu_ 4 163 (fl 18 31) rfl rfl (by kernel_rfl) ?_ (ha := by simp only [Act.put, List.setIfInBounds_toArray, List.set_cons_zero, List.set_cons_succ, i64_w, i32_w, hw1, bne_self_eq_false]; rfl)
    refine tk_ 5 164 (fl 18 63) rfl rfl (by kernel_rfl) hHeld ?_ (ha := by simp only [Act.put, List.setIfInBounds_toArray, List.set_cons_zero, List.set_cons_succ, i64_w, i32_w, hw1, bne_self_eq_false]; rfl)
    refine pu_ 6 165 (fl 18 127) rfl rfl (by kernel_rfl) ?_ (ha := by simp only [Act.put, List.setIfInBounds_toArray, List.set_cons_zero, List.set_cons_succ, i64_w, i32_w, hw1, bne_self_eq_false]; rfl)
    refine pu_ 7 166 (fl 18 255) rfl rfl (by kernel_rfl) ?_ (ha := by simp only [Act.put, List.setIfInBounds_toArray, List.set_cons_zero, List.set_cons_succ, i64_w, i32_w, hw1, bne_self_eq_false]; rfl)
    refine tk_ 8 167 (fl 18 511) rfl rfl (by kernel_rfl) hHeld ?_ (ha := by simp only [Act.put, List.setIfInBounds_toArray, List.set_cons_zero, List.set_cons_succ, i64_w, i32_w, hw1, bne_self_eq_false]; rfl)
    refine tk_ 9 168 (fl 18 1023) rfl rfl (by kernel_rfl) hHeld ?_ (ha := by simp only [Act.put, List.setIfInBounds_toArray, List.set_cons_zero, List.set_cons_succ, i64_w, i32_w, hw1, bne_self_eq_false]; rfl)
    refine pu_ 10 169 (fl 18 2047) rfl rfl (by kernel_rfl) ?_ (ha := by simp only [Act.put, List.setIfInBounds_toArray, List.set_cons_zero, List.set_cons_succ, i64_w, i32_w, hw1, bne_self_eq_false]; rfl)
    refine one_ (i := 11) (N := some 170) (fl 18 4095) rfl rfl (by kernel_rfl) (by decide) (fun K hK => ?_)
    refine goes_ Try.func15 (by kernel_rfl) rfl #[.agg #[.int .i64 q.f0, .int .i64 q.f1, .int .i64 q.f2, .slice A3 q.f3.length c3, .int .i64 q.f4, .int .i64 q.f5, .int .i64 q.f6], .int .i64 v] (by rfl) rfl rfl (by (try simp only [List.map_toArray, List.map_cons, List.map_nil]); first | done | rfl) ?_
    refine (answer_q HMY.out (HE.out.row _ (by repeat (first | exact HBZ.out | apply pw_below_drewN | apply below_drew1 | apply below_alloc))) HE.out.cap v).mono ?_
    rintro e w10 ⟨Ab, cb, rfl, hcb, hev, HBc⟩
    refine ⟨_, rfl, ?_⟩
    have HBd : Below w9.heap.size w9 w10 := below_step (by repeat (first | exact Below.refl _ _ | apply pw_below_drewN | apply below_drew1)) HBc
    have HI10 := Aside0.mk (HI9.out.below HBd); have HOK10 := Aside0.mk (HOK9.out.keeps (keeps_below HBd)); have HL10 := Aside0.mk (HL9.out.below HBd); have BKan := Aside0.mk (blk_below BKa.out HBd); have HB10 : Aside0 (Below w.heap.size w w10) := ⟨below_step HB9.out HBd⟩
    have HEV10 : Aside0 (Ever (fun k => k = g) w10 (fun W => Kd.C (Kd.int .u8) W Ab (ansQ q v).length (ansQ q v))) := ⟨hev _ (fun k e => by have h1 := MsgD.IsM.outS HI9.out; have h2 := below_size (w := w9) (by repeat (first | exact Below.refl _ _ | apply pw_below_drewN | apply below_drew1)); rw [show k = g from e]; exact Nat.lt_of_lt_of_le h1 h2)⟩
    have HCB := Aside0.mk hcb
    clear HBZ HBc HBd BKa hev hcb HI9 HOK9 HL9
    have HBZ := HB10; have BKa := BKan; clear BKan
    obtain ⟨bs, hbs⟩ : ∃ bs, bs = ansQ q v := ⟨_, rfl⟩
    rw [← hbs] at HEV10 HCB ⊢
    have HBS := Aside0.mk hbs; clear hbs
    refine hK.out _ _ ?_ (fun hHeld => ?_)
    ·exact ⟨(blk_cell (bk_ BKa) 1).trans rfl, HE.out.cells _ (by repeat (first | exact HBZ.out | apply pw_below_drewN | apply below_drew1 | apply below_alloc))⟩
    clear hK K
    refine norm_ (a' := ?_) ?_ ?_
    rotate_left
    ·show Act.put _ (some 170) _ = _
     simp only [Act.put, List.setIfInBounds_toArray, List.set_cons_zero, List.set_cons_succ, i64_w, i32_w, hw1, bne_self_eq_false]
     rfl
    refine one_ (i := 12) (N := some 171) (fl 18 8191) rfl rfl (by kernel_rfl) (by decide) (fun K hK => ?_)
    refine goes_ Try.func14 (by kernel_rfl) rfl #[.pointer (some ⟨g, 0, none⟩), .int .i64 (k : Int), .int .i64 (k : Int), .slice Ab bs.length cb] (by rfl) rfl rfl (by (try simp only [List.map_toArray, List.map_cons, List.map_nil]); first | done | rfl) ?_
    refine (came_q (HI10.out.below (by repeat (first | exact Below.refl _ _ | apply pw_below_drewN | apply below_drew1))) (Nat.le_trans HB10.out.size (below_size (by repeat (first | exact Below.refl _ _ | apply pw_below_drewN | apply below_drew1)))) (HOK10.out.keeps (keeps_below (by repeat (first | exact Below.refl _ _ | apply pw_below_drewN | apply below_drew1)))) HMY.out v HVV.out Ab cb HBS.out HCB.out (HEV10.out.step (Ext.of_below (by repeat (first | exact Below.refl _ _ | apply pw_below_drewN | apply below_drew1)))) HTK.out).mono ?_
    rintro e w11 ⟨gd, Ad, ld, kd_, rfl, hgd, HIx, HX, HKx⟩
    refine ⟨_, rfl, ?_⟩
    have HKd : Keeps w10 w11 := (keeps_below (by repeat (first | exact Below.refl _ _ | apply pw_below_drewN | apply below_drew1))).trans HKx
    have HXd : Ext (Mm w.heap.size g m) w10 w11 := (Ext.of_below (by repeat (first | exact Below.refl _ _ | apply pw_below_drewN | apply below_drew1))).trans (extG HX)
    have HI11 := Aside0.mk HIx; have HL11 := Aside0.mk (HL10.out.keeps HKd); have HB11 : Aside0 (Below w.heap.size w w11) := ⟨belowT HB10.out (extM HXd HG.out HM.out (Nat.le_refl _) HB10.out.size)⟩
    have BKan : Aside0 (w11.heap[ga]? = some (.cells #[.int .i64 tk, .int .i64 (k : Int), .int .i64 q.f0, .int .i64 q.f1, .int .i64 q.f2, .slice A' q.f3.length k', .int .i64 q.f4, .int .i64 q.f5, .int .i64 q.f6] 39 (0, 0))) := ⟨Ext.blk ((Ext.of_below (by repeat (first | exact Below.refl _ _ | apply pw_below_drewN | apply below_drew1))).trans HX) BKa.out (MsgH.apart HI10.out BKa.out (by decide))⟩
    clear HBZ BKa HIx HX HKx HKd HXd HEV10 HCB HBS HI10 HL10 HOK10
    have HBZ := HB11; have BKa := BKan; clear BKan
    have BKd := Aside0.mk hgd; clear hgd
    refine hK.out _ _ ?_ (fun hHeld => ?_)
    ·exact ⟨(blk_cell (bk_ BKa) 1).trans rfl, HE.out.cells _ (by repeat (first | exact HBZ.out | apply pw_below_drewN | apply below_drew1 | apply below_alloc))⟩
    clear hK K
    refine norm_ (a' := ?_) ?_ ?_
    rotate_left
    ·show Act.put _ (some 171) _ = _
     simp only [Act.put, List.setIfInBounds_toArray, List.set_cons_zero, List.set_cons_succ, i64_w, i32_w, hw1, bne_self_eq_false]
     rfl
    refine pu_ 13 158 (fl 18 16383) rfl rfl (by kernel_rfl) ?_ (ha := by simp only [Act.put, List.setIfInBounds_toArray, List.set_cons_zero, List.set_cons_succ, i64_w, i32_w, hw1, bne_self_eq_false]; rfl)
    refine pu_ 14 172 (fl 18 32767) rfl rfl (by kernel_rfl) ?_ (ha := by simp only [Act.put, List.setIfInBounds_toArray, List.set_cons_zero, List.set_cons_succ, i64_w, i32_w, hw1, bne_self_eq_false]; rfl)
    refine pu_ 15 173 (fl 18 65535) rfl rfl (by kernel_rfl) ?_ (ha := by simp only [Act.put, List.setIfInBounds_toArray, List.set_cons_zero, List.set_cons_succ, i64_w, i32_w, hw1, bne_self_eq_false]; rfl)
    refine pu_ 16 22 (fl 18 131071) rfl rfl (by kernel_rfl) ?_ (ha := by simp only [Act.put, List.setIfInBounds_toArray, List.set_cons_zero, List.set_cons_succ, i64_w, i32_w, hw1, bne_self_eq_false]; rfl)
    refine pu_ 17 23 (fl 18 262143) rfl rfl (by kernel_rfl) ?_ (ha := by simp only [Act.put, List.setIfInBounds_toArray, List.set_cons_zero, List.set_cons_succ, i64_w, i32_w, hw1, bne_self_eq_false]; rfl)
    refine done_ (by kernel_rfl) ?_
    clear hw1
    have ld0 : World.cell? _ ⟨gd, 0, none⟩ = some (.int .i64 tk) := (blk_cell (blk_below BKd.out (by repeat (first | exact Below.refl _ _ | apply pw_below_drewN | apply below_drew1))) 0).trans rfl
    have ld2 : World.cell? _ ⟨gd, 2, none⟩ = some (.int .i64 0) := (blk_cell (blk_below BKd.out (by repeat (first | exact Below.refl _ _ | apply pw_below_drewN | apply below_drew1))) 2).trans rfl
    have ld3 : World.cell? _ ⟨gd, 3, none⟩ = some (.bool false) := (blk_cell (blk_below BKd.out (by repeat (first | exact Below.refl _ _ | apply pw_below_drewN | apply below_drew1))) 3).trans rfl
    have hw1 := HW1.out
    go_wp2
    go_roundw
    case rel => exact ⟨k + 1, _, _, _, xs, congrArg (Value.int .i64) (HW1.out.trans HTK.out), ⟨HLT.out, by have h1 := HA.out.2.1; simp only [List.length_cons] at h1; omega, by omega⟩, ⟨HI11.out.below (by repeat (first | exact Below.refl _ _ | apply pw_below_drewN | apply below_drew1))⟩, ⟨HL11.out.below (by repeat (first | exact Below.refl _ _ | apply pw_below_drewN | apply below_drew1))⟩, ⟨(by repeat (first | exact HBZ.out | apply pw_below_drewN | apply below_drew1 | apply below_alloc))⟩⟩
    case measure => exact meas (HW1.out.trans HTK.out) HLT.out
end Go.Proofs.Ytlalpooiegganaa.HandAns
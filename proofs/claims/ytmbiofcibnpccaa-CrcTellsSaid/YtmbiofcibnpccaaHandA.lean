/- The walks of CrcHolds and CrcEnds: whatever the bytes, the call returns true. -/
import Derived.Test.YtmbiofcibnpccaaPAllx1
import Derived.Test.YtmbiofcibnpccaaMath
namespace Go.Proofs.Ytmbiofcibnpccaa.HandA
open Go.RowKit Go.Proofs.YtmbiofcibnpccaaW.PrintWords Go.Proofs.YtmbiofcibnpccaaW.PrintLast Go.Proofs.YtmbiofcibnpccaaW.PrintMore Go.Proofs.Ytmbiofcibnpccaa.Ext Go.Proofs.Ytmbiofcibnpccaa.ExtC Go.Proofs.Ytmbiofcibnpccaa.ExtD Go.Proofs.Ytmbiofcibnpccaa.PAll Go.Proofs.Ytmbiofcibnpccaa.Math
set_option linter.unusedVariables false
set_option linter.unusedSimpArgs false

theorem small2 (l : List Int) (b : Bool) (h : decide ((l.length : Int) ≤ 600) = b) : basculelaw02_small.f l = some b := by unfold basculelaw02_small.f; rw [h]
theorem Drawn0.below0 {w w' : World} (h : Drawn0 w w') : Below w.heap.size w w' := h.below

set_option maxHeartbeats 8000000 in
set_option maxRecDepth 1000000 in
theorem holds_core (A0 : Option Addr) (c0 : Nat) (l0 : List Int) (A1 : Option Addr) (c1 : Nat) (l1 : List Int) (w : World) (hr0 : Kd.C (Kd.int .u8) w A0 l0.length l0) (hc0 : l0.length ≤ c0) (hr1 : Kd.C (Kd.int .u8) w A1 l1.length l1) (hc1 : l1.length ≤ c1) (hb0 : Bytes l0) (hb1 : Bytes l1) :
    Calls Try.prog 4 #[.slice A0 l0.length c0, .slice A1 l1.length c1] w fun e w' => e = .returned (.bool true) ∧ Below w.heap.size w w' := by
  have HC0 := Aside0.mk hr0
  have HC1 := Aside0.mk hr1
  clear hr0 hr1
  by_cases h0 : l0.length ≤ 600
  · have hs0 : Aside0 (basculelaw02_small.f l0 = some true) := ⟨small2 l0 true (by simp; omega)⟩
    by_cases h1 : l1.length ≤ 600
    · have hs1 : Aside0 (basculelaw02_small.f l1 = some true) := ⟨small2 l1 true (by simp; omega)⟩
      have hlt := crcN_lt l0 65535 (by omega) hb0
      obtain ⟨a, ha⟩ : ∃ a, a = l0 ++ [((crcN 65535 l0 % 256 : Nat) : Int), ((crcN 65535 l0 / 256 : Nat) : Int)] := ⟨_, rfl⟩
      have hal : a.length = l0.length + 2 := by rw [ha]; simp
      have hab : Bytes a := by rw [ha]; exact bytes_add l0 hb0 _ hlt
      have ha0 : crcN 65535 a = 0 := by rw [ha]; exact crcN_add l0 hb0
      have hat : a.take (a.length - 2) = l0 := by rw [hal, ha]; simp
      have fadd : Aside0 (crc_Add.f l0 = some a) := ⟨by rw [ha]; exact add_f hb0 (by omega)⟩
      have fwh : Aside0 (crc_Whole.f a = some (l0, 0)) := ⟨by rw [whole_yes hab (by omega) ⟨by omega, ha0⟩, hat]⟩
      have fgood : Aside0 (crc_Good.f a = some true) := ⟨by rw [good_f hab (by omega), ha0]; simp; omega⟩
      have fsum : Aside0 (crc_Sum.f a = some 0) := ⟨by rw [sum_f hab (by omega), ha0]; rfl⟩
      have faw : Aside0 (basculelaw02_awake.f = some true) := ⟨rfl⟩
      clear ha ha0 hab hat hlt hb0
      have HAL := Aside0.mk hal
      have hal2 : a.length ≤ 700 := by omega
      clear hal
      have tok1 := Aside0.mk trivial
      have HB0 := Aside0.mk (Below.refl w.heap.size w)
      by_cases h2 : l1.length < 2
      · have h2b : decide ((l1.length : Int) < 2) = true := by simp; omega
        clear h1
        go_enter Try.func4, Try.ntmps4
        go_wp2_with (first
          | (go_at_call 14; have _t := tok1; (refine (basculelaw02_small.calls A0 c0 l0 true _ HC0.out hc0 hs0.out).mono ?_; rintro e w' ⟨rfl, ⟨nd1, rfl⟩⟩; clear tok1 _t; have tok2 := Aside0.mk trivial))
          | (go_at_call 14; have _t := tok2; (refine (basculelaw02_small.calls A1 c1 l1 true _ (by (with_reducible repeat (first | refine Kd.C_alloc ?_ _ | refine Kd.C_drewN ?_ _ | refine Kd.C_drew ?_)); exact HC1.out) hc1 hs1.out).mono ?_; rintro e w' ⟨rfl, ⟨nd2, rfl⟩⟩; clear tok2 _t; have tok3 := Aside0.mk trivial))
          | (go_at_call 16; (refine (crc_Add.calls A0 c0 l0 a _ (by (with_reducible repeat (first | refine Kd.C_alloc ?_ _ | refine Kd.C_drewN ?_ _ | refine Kd.C_drew ?_)); exact HC0.out) hc0 fadd.out).mono ?_; rintro e w1 ⟨v, rfl, HR, HB⟩; obtain ⟨A2, c2, rfl, hc, HC⟩ := Kd.R_reads HR; have HC0 := Aside0.mk (Kd.C_below (by (with_reducible repeat (first | refine Kd.C_alloc ?_ _ | refine Kd.C_drewN ?_ _ | refine Kd.C_drew ?_)); exact HC0.out) HB); have HC1 := Aside0.mk (Kd.C_below (by (with_reducible repeat (first | refine Kd.C_alloc ?_ _ | refine Kd.C_drewN ?_ _ | refine Kd.C_drew ?_)); exact HC1.out) HB); have HB0 := Aside0.mk (below_step (by repeat (first | exact HB0.out | apply below_alloc | apply pw_below_drewN | apply below_drew1 | apply below_drew)) HB); have HC2 := Aside0.mk HC; have hc2 := Aside0.mk hc; clear HR HB HC hc))
          | (go_at_call 18; (refine (crc_Whole.calls A2 c2 a l0 0 _ (by (with_reducible repeat (first | refine Kd.C_alloc ?_ _ | refine Kd.C_drewN ?_ _ | refine Kd.C_drew ?_)); exact HC2.out) hc2.out fwh.out).mono ?_; rintro e w2 ⟨v, rfl, HR, HB⟩; obtain ⟨A3, c3, rfl, hc, HC⟩ := Kd.R_reads HR; have HC0 := Aside0.mk (Kd.C_below (by (with_reducible repeat (first | refine Kd.C_alloc ?_ _ | refine Kd.C_drewN ?_ _ | refine Kd.C_drew ?_)); exact HC0.out) HB); have HC1 := Aside0.mk (Kd.C_below (by (with_reducible repeat (first | refine Kd.C_alloc ?_ _ | refine Kd.C_drewN ?_ _ | refine Kd.C_drew ?_)); exact HC1.out) HB); have HC2 := Aside0.mk (Kd.C_below (by (with_reducible repeat (first | refine Kd.C_alloc ?_ _ | refine Kd.C_drewN ?_ _ | refine Kd.C_drew ?_)); exact HC2.out) HB); have HB0 := Aside0.mk (below_step (by repeat (first | exact HB0.out | apply below_alloc | apply pw_below_drewN | apply below_drew1 | apply below_drew)) HB); have HC3 := Aside0.mk HC; have hc3 := Aside0.mk hc; clear HR HB HC hc))
          | (go_at_call 22; (refine (basculelaw02_awake.calls true _ faw.out).mono ?_; rintro e w3 ⟨rfl, HB⟩; have HC0 := Aside0.mk (Kd.C_below (by (with_reducible repeat (first | refine Kd.C_alloc ?_ _ | refine Kd.C_drewN ?_ _ | refine Kd.C_drew ?_)); exact HC0.out) HB); have HC1 := Aside0.mk (Kd.C_below (by (with_reducible repeat (first | refine Kd.C_alloc ?_ _ | refine Kd.C_drewN ?_ _ | refine Kd.C_drew ?_)); exact HC1.out) HB); have HC2 := Aside0.mk (Kd.C_below (by (with_reducible repeat (first | refine Kd.C_alloc ?_ _ | refine Kd.C_drewN ?_ _ | refine Kd.C_drew ?_)); exact HC2.out) HB); have HC3 := Aside0.mk (Kd.C_below (by (with_reducible repeat (first | refine Kd.C_alloc ?_ _ | refine Kd.C_drewN ?_ _ | refine Kd.C_drew ?_)); exact HC3.out) HB); have HB0 := Aside0.mk (below_step (by repeat (first | exact HB0.out | apply below_alloc | apply pw_below_drewN | apply below_drew1 | apply below_drew)) HB); clear HB; have hcv3 := (fun k => string_of_reads (P := Try.prog) (c := c3) Try.underlying22 Try.underlying5 Try.underlying9 (Kd.reads_of_C (Kd.C_drewN HC3.out k))); have hcv0 := (fun k => string_of_reads (P := Try.prog) (c := c0) Try.underlying22 Try.underlying5 Try.underlying9 (Kd.reads_of_C (Kd.C_drewN HC0.out k)))))
          | (go_at_call 17; (refine (crc_Good.calls A2 c2 a true _ (by (with_reducible repeat (first | refine Kd.C_alloc ?_ _ | refine Kd.C_drewN ?_ _ | refine Kd.C_drew ?_)); exact HC2.out) hc2.out fgood.out).mono ?_; rintro e w' ⟨rfl, ⟨nd5, rfl⟩⟩))
          | (go_at_call 15; (refine (crc_Sum.calls A2 c2 a 0 _ (by (with_reducible repeat (first | refine Kd.C_alloc ?_ _ | refine Kd.C_drewN ?_ _ | refine Kd.C_drew ?_)); exact HC2.out) hc2.out fsum.out).mono ?_; rintro e w' ⟨rfl, ⟨nd6, rfl⟩⟩))
          )
        go_ret
        exact ⟨rfl, (by repeat (first | exact HB0.out | apply below_alloc | apply pw_below_drewN | apply below_drew1 | apply below_drew))⟩
      · have h2b : decide ((l1.length : Int) < 2) = false := by simp; omega
        obtain ⟨m, hm⟩ : ∃ m, m = crcN 65535 l1 := ⟨_, rfl⟩
        obtain ⟨g, hg⟩ : ∃ g, g = decide (2 ≤ l1.length ∧ m = 0) := ⟨_, rfl⟩
        have fgood1 : Aside0 (crc_Good.f l1 = some g) := ⟨by rw [good_f hb1 (by omega), hg, hm]⟩
        have fsum1 : Aside0 (crc_Sum.f l1 = some (m : Int)) := ⟨by rw [sum_f hb1 (by omega), hm]⟩
        have hfin : (g == ((m : Int) == 0)) = true := by
          rw [hg, beq_iff_eq, Bool.eq_iff_iff]
          simp
          omega
        clear hg hm h1 hb1
        go_enter Try.func4, Try.ntmps4
        go_wp2_with (first
          | (go_at_call 14; have _t := tok1; (refine (basculelaw02_small.calls A0 c0 l0 true _ HC0.out hc0 hs0.out).mono ?_; rintro e w' ⟨rfl, ⟨nd1, rfl⟩⟩; clear tok1 _t; have tok2 := Aside0.mk trivial))
          | (go_at_call 14; have _t := tok2; (refine (basculelaw02_small.calls A1 c1 l1 true _ (by (with_reducible repeat (first | refine Kd.C_alloc ?_ _ | refine Kd.C_drewN ?_ _ | refine Kd.C_drew ?_)); exact HC1.out) hc1 hs1.out).mono ?_; rintro e w' ⟨rfl, ⟨nd2, rfl⟩⟩; clear tok2 _t; have tok3 := Aside0.mk trivial))
          | (go_at_call 16; (refine (crc_Add.calls A0 c0 l0 a _ (by (with_reducible repeat (first | refine Kd.C_alloc ?_ _ | refine Kd.C_drewN ?_ _ | refine Kd.C_drew ?_)); exact HC0.out) hc0 fadd.out).mono ?_; rintro e w1 ⟨v, rfl, HR, HB⟩; obtain ⟨A2, c2, rfl, hc, HC⟩ := Kd.R_reads HR; have HC0 := Aside0.mk (Kd.C_below (by (with_reducible repeat (first | refine Kd.C_alloc ?_ _ | refine Kd.C_drewN ?_ _ | refine Kd.C_drew ?_)); exact HC0.out) HB); have HC1 := Aside0.mk (Kd.C_below (by (with_reducible repeat (first | refine Kd.C_alloc ?_ _ | refine Kd.C_drewN ?_ _ | refine Kd.C_drew ?_)); exact HC1.out) HB); have HB0 := Aside0.mk (below_step (by repeat (first | exact HB0.out | apply below_alloc | apply pw_below_drewN | apply below_drew1 | apply below_drew)) HB); have HC2 := Aside0.mk HC; have hc2 := Aside0.mk hc; clear HR HB HC hc))
          | (go_at_call 18; (refine (crc_Whole.calls A2 c2 a l0 0 _ (by (with_reducible repeat (first | refine Kd.C_alloc ?_ _ | refine Kd.C_drewN ?_ _ | refine Kd.C_drew ?_)); exact HC2.out) hc2.out fwh.out).mono ?_; rintro e w2 ⟨v, rfl, HR, HB⟩; obtain ⟨A3, c3, rfl, hc, HC⟩ := Kd.R_reads HR; have HC0 := Aside0.mk (Kd.C_below (by (with_reducible repeat (first | refine Kd.C_alloc ?_ _ | refine Kd.C_drewN ?_ _ | refine Kd.C_drew ?_)); exact HC0.out) HB); have HC1 := Aside0.mk (Kd.C_below (by (with_reducible repeat (first | refine Kd.C_alloc ?_ _ | refine Kd.C_drewN ?_ _ | refine Kd.C_drew ?_)); exact HC1.out) HB); have HC2 := Aside0.mk (Kd.C_below (by (with_reducible repeat (first | refine Kd.C_alloc ?_ _ | refine Kd.C_drewN ?_ _ | refine Kd.C_drew ?_)); exact HC2.out) HB); have HB0 := Aside0.mk (below_step (by repeat (first | exact HB0.out | apply below_alloc | apply pw_below_drewN | apply below_drew1 | apply below_drew)) HB); have HC3 := Aside0.mk HC; have hc3 := Aside0.mk hc; clear HR HB HC hc))
          | (go_at_call 22; (refine (basculelaw02_awake.calls true _ faw.out).mono ?_; rintro e w3 ⟨rfl, HB⟩; have HC0 := Aside0.mk (Kd.C_below (by (with_reducible repeat (first | refine Kd.C_alloc ?_ _ | refine Kd.C_drewN ?_ _ | refine Kd.C_drew ?_)); exact HC0.out) HB); have HC1 := Aside0.mk (Kd.C_below (by (with_reducible repeat (first | refine Kd.C_alloc ?_ _ | refine Kd.C_drewN ?_ _ | refine Kd.C_drew ?_)); exact HC1.out) HB); have HC2 := Aside0.mk (Kd.C_below (by (with_reducible repeat (first | refine Kd.C_alloc ?_ _ | refine Kd.C_drewN ?_ _ | refine Kd.C_drew ?_)); exact HC2.out) HB); have HC3 := Aside0.mk (Kd.C_below (by (with_reducible repeat (first | refine Kd.C_alloc ?_ _ | refine Kd.C_drewN ?_ _ | refine Kd.C_drew ?_)); exact HC3.out) HB); have HB0 := Aside0.mk (below_step (by repeat (first | exact HB0.out | apply below_alloc | apply pw_below_drewN | apply below_drew1 | apply below_drew)) HB); clear HB; have hcv3 := (fun k => string_of_reads (P := Try.prog) (c := c3) Try.underlying22 Try.underlying5 Try.underlying9 (Kd.reads_of_C (Kd.C_drewN HC3.out k))); have hcv0 := (fun k => string_of_reads (P := Try.prog) (c := c0) Try.underlying22 Try.underlying5 Try.underlying9 (Kd.reads_of_C (Kd.C_drewN HC0.out k)))))
          | (go_at_call 17; have _t := tok3; (refine (crc_Good.calls A2 c2 a true _ (by (with_reducible repeat (first | refine Kd.C_alloc ?_ _ | refine Kd.C_drewN ?_ _ | refine Kd.C_drew ?_)); exact HC2.out) hc2.out fgood.out).mono ?_; rintro e w' ⟨rfl, ⟨nd5, rfl⟩⟩; clear tok3 _t; have tok4 := Aside0.mk trivial))
          | (go_at_call 15; have _t := tok4; (refine (crc_Sum.calls A2 c2 a 0 _ (by (with_reducible repeat (first | refine Kd.C_alloc ?_ _ | refine Kd.C_drewN ?_ _ | refine Kd.C_drew ?_)); exact HC2.out) hc2.out fsum.out).mono ?_; rintro e w' ⟨rfl, ⟨nd6, rfl⟩⟩; clear tok4 _t; have tok5 := Aside0.mk trivial))
          | (go_at_call 17; have _t := tok5; (refine (crc_Good.calls A1 c1 l1 g _ (by (with_reducible repeat (first | refine Kd.C_alloc ?_ _ | refine Kd.C_drewN ?_ _ | refine Kd.C_drew ?_)); exact HC1.out) hc1 fgood1.out).mono ?_; rintro e w' ⟨rfl, ⟨nd7, rfl⟩⟩; clear tok5 _t; have tok6 := Aside0.mk trivial))
          | (go_at_call 15; have _t := tok6; (refine (crc_Sum.calls A1 c1 l1 m _ (by (with_reducible repeat (first | refine Kd.C_alloc ?_ _ | refine Kd.C_drewN ?_ _ | refine Kd.C_drew ?_)); exact HC1.out) hc1 fsum1.out).mono ?_; rintro e w' ⟨rfl, ⟨nd8, rfl⟩⟩; clear tok6 _t; have tok7 := Aside0.mk trivial))
          )
        go_ret
        exact ⟨rfl, (by repeat (first | exact HB0.out | apply below_alloc | apply pw_below_drewN | apply below_drew1 | apply below_drew))⟩
    · have hs1 : Aside0 (basculelaw02_small.f l1 = some false) := ⟨small2 l1 false (by simp; omega)⟩
      have tok1 := Aside0.mk trivial
      have HB0 := Aside0.mk (Below.refl w.heap.size w)
      go_enter Try.func4, Try.ntmps4
      go_wp2_with (first
          | (go_at_call 14; have _t := tok1; (refine (basculelaw02_small.calls A0 c0 l0 true _ HC0.out hc0 hs0.out).mono ?_; rintro e w' ⟨rfl, ⟨nd1, rfl⟩⟩; clear tok1 _t; have tok2 := Aside0.mk trivial))
          | (go_at_call 14; have _t := tok2; (refine (basculelaw02_small.calls A1 c1 l1 false _ (by (with_reducible repeat (first | refine Kd.C_alloc ?_ _ | refine Kd.C_drewN ?_ _ | refine Kd.C_drew ?_)); exact HC1.out) hc1 hs1.out).mono ?_; rintro e w' ⟨rfl, ⟨nd2, rfl⟩⟩; clear tok2 _t; have tok3 := Aside0.mk trivial))
          )
      go_ret
      exact ⟨rfl, (by repeat (first | exact HB0.out | apply below_alloc | apply pw_below_drewN | apply below_drew1 | apply below_drew))⟩
  · have hs0 : Aside0 (basculelaw02_small.f l0 = some false) := ⟨small2 l0 false (by simp; omega)⟩
    have HB0 := Aside0.mk (Below.refl w.heap.size w)
    go_enter Try.func4, Try.ntmps4
    go_wp2_with (first
          | (go_at_call 14; (refine (basculelaw02_small.calls A0 c0 l0 false _ HC0.out hc0 hs0.out).mono ?_; rintro e w' ⟨rfl, ⟨nd1, rfl⟩⟩))
          )
    go_ret
    exact ⟨rfl, (by repeat (first | exact HB0.out | apply below_alloc | apply pw_below_drewN | apply below_drew1 | apply below_drew))⟩

theorem holds_walk (a0 : Option Addr) (len0 cap0 : Nat) (z0 : List Int) (a1 : Option Addr) (len1 cap1 : Nat) (z1 : List Int) (w : World)
    (w0 : (a0 = none ∧ len0 = 0 ∧ cap0 = 0 ∧ z0 = []) ∨ ∃ x, a0 = some x ∧ len0 ≤ cap0 ∧ cap0 ≤ maxLen ∧ z0.length = cap0 ∧ (∀ i, i < z0.length → w.cell? (x.add i) = some (.int .u8 (z0.getD i 0))) ∧ ∀ n ∈ z0, (Lit.int .u8 n).wf = true) (y0 : len0 * 1 ≤ 140737488351232)
    (w1 : (a1 = none ∧ len1 = 0 ∧ cap1 = 0 ∧ z1 = []) ∨ ∃ x, a1 = some x ∧ len1 ≤ cap1 ∧ cap1 ≤ maxLen ∧ z1.length = cap1 ∧ (∀ i, i < z1.length → w.cell? (x.add i) = some (.int .u8 (z1.getD i 0))) ∧ ∀ n ∈ z1, (Lit.int .u8 n).wf = true) (y1 : len1 * 1 ≤ 140737488351232) :
    Calls Try.prog 4 #[.slice a0 len0 cap0, .slice a1 len1 cap1] w fun e w' => e = .returned (.bool true) ∧ Below w.heap.size w w' := by
  obtain ⟨l0, rfl, hr0, hm0, hw0, hc0⟩ := ReadsInt.ofRowC w0
  obtain ⟨l1, rfl, hr1, hm1, hw1, hc1⟩ := ReadsInt.ofRowC w1
  exact holds_core a0 cap0 l0 a1 cap1 l1 w (Kd.C_of_reads (d := (0 : Int)) (h1 := fun _ => rfl) hr0) hc0 (Kd.C_of_reads (d := (0 : Int)) (h1 := fun _ => rfl) hr1) hc1 (bytes_of hw0) (bytes_of hw1)
end Go.Proofs.Ytmbiofcibnpccaa.HandA

/- The walk of WireTells: whatever the bytes and the place, the call returns true. -/
import Derived.Test.YtmbiofcibnpccaaMathC
import Derived.Test.YtmbiofcibnpccaaPAllx7
namespace Go.Proofs.Ytmbiofcibnpccaa.HandD
open Go.RowKit Go.Proofs.YtmbiofcibnpccaaW.PrintWords Go.Proofs.YtmbiofcibnpccaaW.PrintLast Go.Proofs.YtmbiofcibnpccaaW.PrintMore Go.Proofs.Ytmbiofcibnpccaa.Ext Go.Proofs.Ytmbiofcibnpccaa.ExtC Go.Proofs.Ytmbiofcibnpccaa.ExtD Go.Proofs.Ytmbiofcibnpccaa.ExtE Go.Proofs.Ytmbiofcibnpccaa.PAll Go.Proofs.Ytmbiofcibnpccaa.PB Go.Proofs.Ytmbiofcibnpccaa.Math Go.Proofs.Ytmbiofcibnpccaa.MathC
set_option linter.unusedVariables false
set_option linter.unusedSimpArgs false

theorem number_f (l : List Int) (b : Bytes l) (h : 2 ≤ l.length) : basculeref01_Number.f l = some (256 * rd l 0 + rd l 1) := by
  have h0 := bytes_rd b 0
  have h1 := bytes_rd b 1
  unfold basculeref01_Number.f
  rw [if_pos (by omega), if_pos (by omega), wrap64_id (rd l 0) (by omega) (by omega), wrap64_id (rd l 1) (by omega) (by omega), wrap64_id (256 * rd l 0) (by omega) (by omega), wrap64_id _ (by omega) (by omega)]

set_option maxHeartbeats 8000000 in
set_option maxRecDepth 1000000 in
theorem tells_neg (A0 : Option Addr) (c0 : Nat) (l0 : List Int) (n : Int) (w : World) (HC0 : Aside0 (Kd.C (Kd.int .u8) w A0 l0.length l0)) (hc0 : l0.length ≤ c0) (hl : l0.length ≤ 2000)
    (hs0 : Aside0 (basculelaw01_small.f l0 = some true)) (fat : Aside0 (wire_At.f l0 n = some (0, 1))) (ftx : Aside0 (wire_TextAt.f l0 n = some (⟨#[]⟩, 0, 1))) (hn : decide (n < 0) = true) :
    Calls Try.prog 10 #[.slice A0 l0.length c0, .int .i64 n] w fun e w' => e = .returned (.bool true) ∧ Below w.heap.size w w' := by
  have faw : Aside0 (basculelaw01_awake.f = some true) := ⟨rfl⟩
  have HB0 := Aside0.mk (Below.refl w.heap.size w)
  go_enter Try.func10, Try.ntmps10
  go_wp2_with (first
    | (go_at_call 30; (refine (basculelaw01_small.calls A0 c0 l0 true _ HC0.out hc0 hs0.out).mono ?_; rintro e w' ⟨rfl, ⟨nd1, rfl⟩⟩))
    | (go_at_call 34; (refine (wire_At.calls A0 c0 l0 n 0 1 _ (by (with_reducible repeat (first | refine Kd.C_alloc ?_ _ | refine Kd.C_drewN ?_ _ | refine Kd.C_drew ?_)); exact HC0.out) hc0 fat.out).mono ?_; rintro e w' ⟨rfl, ⟨nd2, rfl⟩⟩))
    | (go_at_call 35; (refine (wire_TextAt.calls A0 c0 l0 n ⟨#[]⟩ 0 1 _ (by (with_reducible repeat (first | refine Kd.C_alloc ?_ _ | refine Kd.C_drewN ?_ _ | refine Kd.C_drew ?_)); exact HC0.out) hc0 ftx.out).mono ?_; rintro e w' ⟨rfl, ⟨nd3, rfl⟩⟩))
    | (go_at_call 32; (refine (basculelaw01_awake.calls true _ faw.out).mono ?_; rintro e w4 ⟨rfl, HB⟩; have HC0 := Aside0.mk (Kd.C_below (by (with_reducible repeat (first | refine Kd.C_alloc ?_ _ | refine Kd.C_drewN ?_ _ | refine Kd.C_drew ?_)); exact HC0.out) HB); have HB0 := Aside0.mk (below_step (by repeat (first | exact HB0.out | apply below_alloc | apply pw_below_drewN | apply below_drew1 | apply below_drew)) HB); clear HB))
    )
  go_ret
  exact ⟨rfl, (by repeat (first | exact HB0.out | apply below_alloc | apply pw_below_drewN | apply below_drew1 | apply below_drew))⟩

set_option maxHeartbeats 8000000 in
set_option maxRecDepth 1000000 in
theorem tells_big (A0 : Option Addr) (c0 : Nat) (l0 : List Int) (n : Int) (w : World) (HC0 : Aside0 (Kd.C (Kd.int .u8) w A0 l0.length l0)) (hc0 : l0.length ≤ c0) (hl : l0.length ≤ 2000)
    (hs0 : Aside0 (basculelaw01_small.f l0 = some true)) (fat : Aside0 (wire_At.f l0 n = some (0, 7))) (ftx : Aside0 (wire_TextAt.f l0 n = some (⟨#[]⟩, 0, 7))) (hn : decide (n < 0) = false) (hg : decide ((l0.length : Int) - 2 < n) = true) :
    Calls Try.prog 10 #[.slice A0 l0.length c0, .int .i64 n] w fun e w' => e = .returned (.bool true) ∧ Below w.heap.size w w' := by
  have faw : Aside0 (basculelaw01_awake.f = some true) := ⟨rfl⟩
  have HB0 := Aside0.mk (Below.refl w.heap.size w)
  go_enter Try.func10, Try.ntmps10
  go_wp2_with (first
    | (go_at_call 30; (refine (basculelaw01_small.calls A0 c0 l0 true _ HC0.out hc0 hs0.out).mono ?_; rintro e w' ⟨rfl, ⟨nd1, rfl⟩⟩))
    | (go_at_call 34; (refine (wire_At.calls A0 c0 l0 n 0 7 _ (by (with_reducible repeat (first | refine Kd.C_alloc ?_ _ | refine Kd.C_drewN ?_ _ | refine Kd.C_drew ?_)); exact HC0.out) hc0 fat.out).mono ?_; rintro e w' ⟨rfl, ⟨nd2, rfl⟩⟩))
    | (go_at_call 35; (refine (wire_TextAt.calls A0 c0 l0 n ⟨#[]⟩ 0 7 _ (by (with_reducible repeat (first | refine Kd.C_alloc ?_ _ | refine Kd.C_drewN ?_ _ | refine Kd.C_drew ?_)); exact HC0.out) hc0 ftx.out).mono ?_; rintro e w' ⟨rfl, ⟨nd3, rfl⟩⟩))
    | (go_at_call 32; (refine (basculelaw01_awake.calls true _ faw.out).mono ?_; rintro e w4 ⟨rfl, HB⟩; have HC0 := Aside0.mk (Kd.C_below (by (with_reducible repeat (first | refine Kd.C_alloc ?_ _ | refine Kd.C_drewN ?_ _ | refine Kd.C_drew ?_)); exact HC0.out) HB); have HB0 := Aside0.mk (below_step (by repeat (first | exact HB0.out | apply below_alloc | apply pw_below_drewN | apply below_drew1 | apply below_drew)) HB); clear HB))
    )
  go_ret
  exact ⟨rfl, (by repeat (first | exact HB0.out | apply below_alloc | apply pw_below_drewN | apply below_drew1 | apply below_drew))⟩

set_option maxHeartbeats 8000000 in
set_option maxRecDepth 1000000 in
theorem tells_over (A0 : Option Addr) (c0 : Nat) (l0 : List Int) (n k : Int) (w : World) (HC0 : Aside0 (Kd.C (Kd.int .u8) w A0 l0.length l0)) (hc0 : l0.length ≤ c0) (hl : l0.length ≤ 2000)
    (hs0 : Aside0 (basculelaw01_small.f l0 = some true)) (fat : Aside0 (wire_At.f l0 n = some (k, 0))) (ftx : Aside0 (wire_TextAt.f l0 n = some (⟨#[]⟩, 0, 7))) (fnum : Aside0 (basculeref01_Number.f (l0.drop n.toNat) = some k))
    (h0 : 0 ≤ n) (h2 : n ≤ l0.length) (hk : 0 ≤ k ∧ k ≤ 65535) (hn : decide (n < 0) = false) (hg : decide ((l0.length : Int) - 2 < n) = false) (ho : decide ((l0.length : Int) < n + 2 + k) = true) :
    Calls Try.prog 10 #[.slice A0 l0.length c0, .int .i64 n] w fun e w' => e = .returned (.bool true) ∧ Below w.heap.size w w' := by
  have faw : Aside0 (basculelaw01_awake.f = some true) := ⟨rfl⟩
  have HB0 := Aside0.mk (Below.refl w.heap.size w)
  obtain ⟨i0, hi, hz0, hz1, hz2⟩ := info_parts Ext.info5
  obtain ⟨A', hcut, hcutr, hcutl⟩ := print_drop_of (P := Try.prog) (Value.int .u8) (0 : Int) 22 5 .i64 Try.underlying22 hi hz1 A0 c0 l0 n h0 h2 hc0
  generalize l0.drop n.toNat = ys at hcut hcutr hcutl fnum
  go_enter Try.func10, Try.ntmps10
  go_wp2_with (first
    | (go_at_call 30; (refine (basculelaw01_small.calls A0 c0 l0 true _ HC0.out hc0 hs0.out).mono ?_; rintro e w' ⟨rfl, ⟨nd1, rfl⟩⟩))
    | (go_at_call 34; (refine (wire_At.calls A0 c0 l0 n k 0 _ (by (with_reducible repeat (first | refine Kd.C_alloc ?_ _ | refine Kd.C_drewN ?_ _ | refine Kd.C_drew ?_)); exact HC0.out) hc0 fat.out).mono ?_; rintro e w' ⟨rfl, ⟨nd2, rfl⟩⟩))
    | (go_at_call 35; (refine (wire_TextAt.calls A0 c0 l0 n ⟨#[]⟩ 0 7 _ (by (with_reducible repeat (first | refine Kd.C_alloc ?_ _ | refine Kd.C_drewN ?_ _ | refine Kd.C_drew ?_)); exact HC0.out) hc0 ftx.out).mono ?_; rintro e w' ⟨rfl, ⟨nd3, rfl⟩⟩))
    | (go_at_call 36; (refine (basculeref01_Number.calls A' (c0 - n.toNat) ys k _ (Kd.C_of_reads (d := (0 : Int)) (h1 := fun _ => rfl) (hcutr _ (Kd.reads_of_C (by (with_reducible repeat (first | refine Kd.C_alloc ?_ _ | refine Kd.C_drewN ?_ _ | refine Kd.C_drew ?_)); exact HC0.out)))) hcutl fnum.out).mono ?_; rintro e w' ⟨rfl, ⟨nd5, rfl⟩⟩))
    | (go_at_call 32; (refine (basculelaw01_awake.calls true _ faw.out).mono ?_; rintro e w4 ⟨rfl, HB⟩; have HC0 := Aside0.mk (Kd.C_below (by (with_reducible repeat (first | refine Kd.C_alloc ?_ _ | refine Kd.C_drewN ?_ _ | refine Kd.C_drew ?_)); exact HC0.out) HB); have HB0 := Aside0.mk (below_step (by repeat (first | exact HB0.out | apply below_alloc | apply pw_below_drewN | apply below_drew1 | apply below_drew)) HB); clear HB))
    )
  go_ret
  exact ⟨rfl, (by repeat (first | exact HB0.out | apply below_alloc | apply pw_below_drewN | apply below_drew1 | apply below_drew))⟩

set_option maxHeartbeats 8000000 in
set_option maxRecDepth 1000000 in
theorem tells_ok (A0 : Option Addr) (c0 : Nat) (l0 : List Int) (n k : Int) (w : World) (HC0 : Aside0 (Kd.C (Kd.int .u8) w A0 l0.length l0)) (hc0 : l0.length ≤ c0) (hl : l0.length ≤ 2000)
    (hs0 : Aside0 (basculelaw01_small.f l0 = some true)) (fat : Aside0 (wire_At.f l0 n = some (k, 0))) (ftx : Aside0 (wire_TextAt.f l0 n = some (strOfNums ((l0.take (n + 2 + k).toNat).drop (n + 2).toNat), n + 2 + k, 0))) (fnum : Aside0 (basculeref01_Number.f (l0.drop n.toNat) = some k))
    (h0 : 0 ≤ n) (h2 : n ≤ l0.length) (hk : 0 ≤ k ∧ k ≤ 65535) (hq : n + 2 + k ≤ l0.length) (hn : decide (n < 0) = false) (hg : decide ((l0.length : Int) - 2 < n) = false) (ho : decide ((l0.length : Int) < n + 2 + k) = false) :
    Calls Try.prog 10 #[.slice A0 l0.length c0, .int .i64 n] w fun e w' => e = .returned (.bool true) ∧ Below w.heap.size w w' := by
  have faw : Aside0 (basculelaw01_awake.f = some true) := ⟨rfl⟩
  have HB0 := Aside0.mk (Below.refl w.heap.size w)
  obtain ⟨i0, hi, hz0, hz1, hz2⟩ := info_parts Ext.info5
  obtain ⟨A', hcut, hcutr, hcutl⟩ := print_drop_of (P := Try.prog) (Value.int .u8) (0 : Int) 22 5 .i64 Try.underlying22 hi hz1 A0 c0 l0 n h0 h2 hc0
  generalize l0.drop n.toNat = ys at hcut hcutr hcutl fnum
  obtain ⟨A2, hcut2, hcutr2, hcutl2⟩ := print_mid_int (P := Try.prog) (k := .u8) 22 5 Try.underlying22 hi hz1 A0 c0 l0 (n + 2) (n + 2 + k) (by omega) (by omega) hq hc0
  generalize (l0.take (n + 2 + k).toNat).drop (n + 2).toNat = zs at hcut2 hcutr2 hcutl2 ftx
  go_enter Try.func10, Try.ntmps10
  go_wp2_with (first
    | (go_at_call 30; (refine (basculelaw01_small.calls A0 c0 l0 true _ HC0.out hc0 hs0.out).mono ?_; rintro e w' ⟨rfl, ⟨nd1, rfl⟩⟩))
    | (go_at_call 34; (refine (wire_At.calls A0 c0 l0 n k 0 _ (by (with_reducible repeat (first | refine Kd.C_alloc ?_ _ | refine Kd.C_drewN ?_ _ | refine Kd.C_drew ?_)); exact HC0.out) hc0 fat.out).mono ?_; rintro e w' ⟨rfl, ⟨nd2, rfl⟩⟩))
    | (go_at_call 35; (refine (wire_TextAt.calls A0 c0 l0 n (strOfNums zs) (n + 2 + k) 0 _ (by (with_reducible repeat (first | refine Kd.C_alloc ?_ _ | refine Kd.C_drewN ?_ _ | refine Kd.C_drew ?_)); exact HC0.out) hc0 ftx.out).mono ?_; rintro e w' ⟨rfl, ⟨nd3, rfl⟩⟩))
    | (go_at_call 36; (refine (basculeref01_Number.calls A' (c0 - n.toNat) ys k _ (Kd.C_of_reads (d := (0 : Int)) (h1 := fun _ => rfl) (hcutr _ (Kd.reads_of_C (by (with_reducible repeat (first | refine Kd.C_alloc ?_ _ | refine Kd.C_drewN ?_ _ | refine Kd.C_drew ?_)); exact HC0.out)))) hcutl fnum.out).mono ?_; rintro e w' ⟨rfl, ⟨nd5, rfl⟩⟩))
    | (go_at_call 32; (refine (basculelaw01_awake.calls true _ faw.out).mono ?_; rintro e w4 ⟨rfl, HB⟩; have HC0 := Aside0.mk (Kd.C_below (by (with_reducible repeat (first | refine Kd.C_alloc ?_ _ | refine Kd.C_drewN ?_ _ | refine Kd.C_drew ?_)); exact HC0.out) HB); have HB0 := Aside0.mk (below_step (by repeat (first | exact HB0.out | apply below_alloc | apply pw_below_drewN | apply below_drew1 | apply below_drew)) HB); clear HB; have hconv := string_of_reads (P := Try.prog) (c := c0 - (n + 2).toNat) Try.underlying22 Try.underlying5 Try.underlying9 (hcutr2 _ (Kd.reads_of_C HC0.out))))
    )
  go_ret
  exact ⟨rfl, (by repeat (first | exact HB0.out | apply below_alloc | apply pw_below_drewN | apply below_drew1 | apply below_drew))⟩

theorem tells_walk (a0 : Option Addr) (len0 cap0 : Nat) (z0 : List Int) (a1 : Int) (w : World)
    (w0 : (a0 = none ∧ len0 = 0 ∧ cap0 = 0 ∧ z0 = []) ∨ ∃ x, a0 = some x ∧ len0 ≤ cap0 ∧ cap0 ≤ maxLen ∧ z0.length = cap0 ∧ (∀ i, i < z0.length → w.cell? (x.add i) = some (.int .u8 (z0.getD i 0))) ∧ ∀ n ∈ z0, (Lit.int .u8 n).wf = true) (y0 : len0 * 1 ≤ 140737488351232)
    (w1 : (Lit.int .i64 a1).wf = true) :
    Calls Try.prog 10 #[.slice a0 len0 cap0, .int .i64 a1] w fun e w' => e = .returned (.bool true) ∧ Below w.heap.size w w' := by
  obtain ⟨l0, rfl, hr0, hm0, hw0, hc0⟩ := ReadsInt.ofRowC w0
  have HC0 := Aside0.mk (Kd.C_of_reads (d := (0 : Int)) (h1 := fun _ => rfl) hr0)
  have hb := bytes_of hw0
  have h64 := wf64 w1
  by_cases h0 : l0.length ≤ 2000
  · have hs0 : Aside0 (basculelaw01_small.f l0 = some true) := ⟨small1 l0 true (by simp; omega)⟩
    have hcc : Bytes l0 ∧ l0.length ≤ 140737488351232 ∧ -9223372036854775808 ≤ a1 ∧ a1 ≤ 9223372036854775807 := ⟨hb, by omega, by omega, by omega⟩
    by_cases hn : a1 < 0
    · exact tells_neg a0 cap0 l0 a1 w HC0 hc0 h0 hs0 ⟨by unfold wire_At.f; rw [if_pos hcc, if_pos hn]⟩ ⟨by unfold wire_TextAt.f; rw [if_pos hcc, if_pos hn]⟩ (by simpa using hn)
    by_cases hg : a1 > (l0.length : Int) - 2
    · exact tells_big a0 cap0 l0 a1 w HC0 hc0 h0 hs0 ⟨by unfold wire_At.f; rw [if_pos hcc, if_neg hn, if_pos hg]⟩ ⟨by unfold wire_TextAt.f; rw [if_pos hcc, if_neg hn, if_pos hg]⟩ (by simpa using hn) (by simpa using hg)
    have b1 := bytes_rd hb a1
    have b2 := bytes_rd hb (a1 + 1)
    have fnum : Aside0 (basculeref01_Number.f (l0.drop a1.toNat) = some (256 * rd l0 a1 + rd l0 (a1 + 1))) := by
      refine ⟨?_⟩
      rw [number_f _ (fun x hx => hb x (List.mem_of_mem_drop hx)) (by rw [List.length_drop]; omega)]
      obtain ⟨m, rfl⟩ := Int.eq_ofNat_of_zero_le (show 0 ≤ a1 by omega)
      have e0 : rd (l0.drop m) 0 = rd l0 (m : Int) := by
        show (l0.drop m).getD 0 0 = l0.getD m 0
        rw [List.getD_eq_getElem?_getD, List.getD_eq_getElem?_getD, List.getElem?_drop, Nat.add_zero]
      have e1 : rd (l0.drop m) 1 = rd l0 ((m : Int) + 1) := by
        show (l0.drop m).getD 1 0 = l0.getD ((m : Int) + 1).toNat 0
        rw [List.getD_eq_getElem?_getD, List.getD_eq_getElem?_getD, List.getElem?_drop, show ((m : Int) + 1).toNat = m + 1 from by omega]
      simp only [Int.toNat_natCast, e0, e1]
    by_cases hq : 256 * rd l0 a1 + rd l0 (a1 + 1) > (l0.length : Int) - a1 - 2
    · exact tells_over a0 cap0 l0 a1 (256 * rd l0 a1 + rd l0 (a1 + 1)) w HC0 hc0 h0 hs0 ⟨by unfold wire_At.f; rw [if_pos hcc, if_neg hn, if_neg hg]⟩ ⟨by unfold wire_TextAt.f; rw [if_pos hcc, if_neg hn, if_neg hg, if_pos hq]⟩ fnum (by omega) (by omega) (by omega) (by simpa using hn) (by simpa using hg) (by simp; omega)
    · exact tells_ok a0 cap0 l0 a1 (256 * rd l0 a1 + rd l0 (a1 + 1)) w HC0 hc0 h0 hs0 ⟨by unfold wire_At.f; rw [if_pos hcc, if_neg hn, if_neg hg]⟩ ⟨by unfold wire_TextAt.f; rw [if_pos hcc, if_neg hn, if_neg hg, if_neg hq]⟩ fnum (by omega) (by omega) (by omega) (by omega) (by simpa using hn) (by simpa using hg) (by simp; omega)
  · have hs0 : Aside0 (basculelaw01_small.f l0 = some false) := ⟨small1 l0 false (by simp; omega)⟩
    have HB0 := Aside0.mk (Below.refl w.heap.size w)
    go_enter Try.func10, Try.ntmps10
    go_wp2_with (first
          | (go_at_call 30; (refine (basculelaw01_small.calls a0 cap0 l0 false _ HC0.out hc0 hs0.out).mono ?_; rintro e w' ⟨rfl, ⟨nd1, rfl⟩⟩))
          )
    go_ret
    exact ⟨rfl, (by repeat (first | exact HB0.out | apply below_alloc | apply pw_below_drewN | apply below_drew1 | apply below_drew))⟩
end Go.Proofs.Ytmbiofcibnpccaa.HandD

/- The words, contracts and walks that this claim leans on, put together by a program of this session (part 5). -/
import Derived.Test.YtocicifgglkaeaaZA4
import Derived.Lib.SmallJoins
import Derived.ProofKit
import Derived.OpenShut
import Derived.ChangeOld
section
namespace Go.Proofs.Ytocicifgglkaeaa.ExtQ
open Go.RowKit Go.Proofs.YtocicifgglkaeaaW.PrintWords Go.Proofs.YtocicifgglkaeaaW.PrintLast Go.Proofs.YtocicifgglkaeaaW.PrintMore Go.Proofs.Ytocicifgglkaeaa.ExtF Go.Proofs.Ytocicifgglkaeaa.ExtP Go.Proofs.Ytocicifgglkaeaa.PP Go.Proofs.Ytocicifgglkaeaa.PQ Go.Proofs.Ytocicifgglkaeaa.ExtM Go.Proofs.Ytocicifgglkaeaa.MathP Go.Proofs.Ytocicifgglkaeaa.Mth
set_option linter.unusedVariables false
set_option linter.unusedSimpArgs false
def pdu_Parse.f (b : List Int) : Option (Int × Int × Int × List Int × Int × Int × Int × Int) :=
  if Bytes b ∧ b.length ≤ 100000 then some (if b.length < 5 then (0, 0, 0, [], 0, 0, 0, 4) else parseG (rd b 0) (rd (wordsOf (b.drop 1)) 0) b (wordsOf (b.drop 1))) else none
set_option maxHeartbeats 8000000 in
set_option maxRecDepth 100000 in
theorem parse_short (A0 : Option Addr) (c0 : Nat) (l0 : List Int) (w : World) (h5 : l0.length < 5) : Calls Try.prog 34 #[.slice A0 l0.length c0] w (ParseOf w (0, 0, 0, [], 0, 0, 0, 4)) := by
  have hu24 := Try.underlying24
  have h5b : decide ((l0.length : Int) < 5) = true := decide_eq_true (by omega)
  have HB0 := Aside0.mk (Below.refl w.heap.size w)
  clear h5
  go_enter Try.func34, Try.ntmps34
  go_wp2_with (first | ((with_reducible refine gate_dst (N := 2) rfl ?_); refine box_event ?hg (N := 2) ?hd (cs := #[.int .i64 0, .int .i64 0, .int .i64 0, .slice none 0 0, .int .i64 0, .int .i64 0, .int .i64 0]) (t := 24) ?hr ?_; (case hd => rfl); (case hg => rfl); (case hr => first | (go_simp; done) | (go_simp; rfl)); intro gb2 hg w3 hbox HBc; have GE0_gb2 : Aside0 (w.heap.size ≤ gb2) := Aside0.mk (by rw [hg]; exact (below_size (by repeat (first | (with_reducible first | exact HB0.out | apply below_alloc | apply pw_below_drewN | apply below_drew1) | exact HB0.out)))); clear hg; have HB0n := Aside0.mk (below_step (by repeat (first | (with_reducible first | exact HB0.out | apply below_alloc | apply pw_below_drewN | apply below_drew1 | refine below_set ?_ GE0_gb2.out) | exact HB0.out)) HBc); clear HBc HB0; have HB0 := HB0n; clear HB0n; have BK_gb2 := Aside0.mk hbox; clear hbox; have hczq1_0 : w3.cell? ⟨gb2, 0, none⟩ = some (.int .i64 0) := (blk_cell BK_gb2.out 0).trans rfl; have hfzq1_0 := blk_frozen BK_gb2.out 0; have hczq1_1 : w3.cell? ⟨gb2, 1, none⟩ = some (.int .i64 0) := (blk_cell BK_gb2.out 1).trans rfl; have hfzq1_1 := blk_frozen BK_gb2.out 1; have hczq1_2 : w3.cell? ⟨gb2, 2, none⟩ = some (.int .i64 0) := (blk_cell BK_gb2.out 2).trans rfl; have hfzq1_2 := blk_frozen BK_gb2.out 2; have hczq1_3 : w3.cell? ⟨gb2, 3, none⟩ = some (.slice none 0 0) := (blk_cell BK_gb2.out 3).trans rfl; have hfzq1_3 := blk_frozen BK_gb2.out 3; have hczq1_4 : w3.cell? ⟨gb2, 4, none⟩ = some (.int .i64 0) := (blk_cell BK_gb2.out 4).trans rfl; have hfzq1_4 := blk_frozen BK_gb2.out 4; have hczq1_5 : w3.cell? ⟨gb2, 5, none⟩ = some (.int .i64 0) := (blk_cell BK_gb2.out 5).trans rfl; have hfzq1_5 := blk_frozen BK_gb2.out 5; have hczq1_6 : w3.cell? ⟨gb2, 6, none⟩ = some (.int .i64 0) := (blk_cell BK_gb2.out 6).trans rfl; have hfzq1_6 := blk_frozen BK_gb2.out 6))
  refine bodyPost_ret (results_ct rfl _ _ gb2 24 #[.int .i64 0, .int .i64 0, .int .i64 0, .slice none 0 0, .int .i64 0, .int .i64 0, .int .i64 0] (0, 0) _ rfl (by (with_reducible repeat (first | refine blk_drewN ?_ _ | refine blk_drew ?_ | refine blk_alloc ?_ _)); refine blk_put (cs := #[.int .i64 0, .int .i64 0, .int .i64 0, .slice none 0 0, .int .i64 0, .int .i64 0, .int .i64 0]) ?_ 6 _ rfl; (with_reducible repeat (first | refine blk_drewN ?_ _ | refine blk_drew ?_ | refine blk_alloc ?_ _)); refine blk_put (cs := #[.int .i64 0, .int .i64 0, .int .i64 0, .slice none 0 0, .int .i64 0, .int .i64 0, .int .i64 0]) ?_ 5 _ rfl; (with_reducible repeat (first | refine blk_drewN ?_ _ | refine blk_drew ?_ | refine blk_alloc ?_ _)); refine blk_put (cs := #[.int .i64 0, .int .i64 0, .int .i64 0, .slice none 0 0, .int .i64 0, .int .i64 0, .int .i64 0]) ?_ 4 _ rfl; (with_reducible repeat (first | refine blk_drewN ?_ _ | refine blk_drew ?_ | refine blk_alloc ?_ _)); refine blk_put (cs := #[.int .i64 0, .int .i64 0, .int .i64 0, .slice none 0 0, .int .i64 0, .int .i64 0, .int .i64 0]) ?_ 3 _ rfl; (with_reducible repeat (first | refine blk_drewN ?_ _ | refine blk_drew ?_ | refine blk_alloc ?_ _)); refine blk_put (cs := #[.int .i64 0, .int .i64 0, .int .i64 0, .slice none 0 0, .int .i64 0, .int .i64 0, .int .i64 0]) ?_ 2 _ rfl; (with_reducible repeat (first | refine blk_drewN ?_ _ | refine blk_drew ?_ | refine blk_alloc ?_ _)); refine blk_put (cs := #[.int .i64 0, .int .i64 0, .int .i64 0, .slice none 0 0, .int .i64 0, .int .i64 0, .int .i64 0]) ?_ 1 _ rfl; (with_reducible repeat (first | refine blk_drewN ?_ _ | refine blk_drew ?_ | refine blk_alloc ?_ _)); refine blk_put (cs := #[.int .i64 0, .int .i64 0, .int .i64 0, .slice none 0 0, .int .i64 0, .int .i64 0, .int .i64 0]) ?_ 0 _ rfl; (with_reducible repeat (first | refine blk_drewN ?_ _ | refine blk_drew ?_ | refine blk_alloc ?_ _)); exact BK_gb2.out) Try.underlying24 rfl (by kernel_rfl)) rfl ?_
  exact ⟨none, 0, rfl, Nat.le_refl _, Kd.C_nil _ _, (by repeat (first | (with_reducible first | exact HB0.out | apply below_alloc | apply pw_below_drewN | apply below_drew1 | refine below_set ?_ GE0_gb2.out) | exact HB0.out))⟩
theorem words_hd (l : List Int) (hb : Bytes l) (h : 4 ≤ l.length) : 2 ≤ (wordsOf l).length ∧ 0 ≤ rd (wordsOf l) 1 ∧ rd (wordsOf l) 1 ≤ 65535 := by
  have hl : 2 ≤ (wordsOf l).length := by rw [wordsOf_len]; omega
  have e : rd (wordsOf l) 1 = 256 * rd l ((2 : Nat) : Int) + rd l ((3 : Nat) : Int) := by
    have : rd (wordsOf l) ((1 : Nat) : Int) = (wordsOf l)[1] := rd_nat 1 (by omega)
    refine this.trans ?_
    simp [wordsOf]
  have h2 := bytes_rd hb ((2 : Nat) : Int)
  have h3 := bytes_rd hb ((3 : Nat) : Int)
  refine ⟨hl, ?_⟩
  rw [e]
  omega
theorem pdu_Parse.calls (A0 : Option Addr) (c0 : Nat) (l0 : List Int) (r1 r2 r3 : Int) (r4 : List Int) (r5 r6 r7 r8 : Int) (w : World) (hr0 : Kd.C (Kd.int .u8) w A0 l0.length l0) (hc0 : l0.length ≤ c0) (h : pdu_Parse.f l0 = some (r1, r2, r3, r4, r5, r6, r7, r8)) :
    Calls Try.prog 34 #[.slice A0 l0.length c0] w fun e w' => ∃ (A : Option Addr) (c : Nat), e = .returned (.tuple #[.agg #[.int .i64 r1, .int .i64 r2, .int .i64 r3, .slice A r4.length c, .int .i64 r5, .int .i64 r6, .int .i64 r7], .int .i64 r8]) ∧ r4.length ≤ c ∧ Kd.C (Kd.int .i64) w' A r4.length r4 ∧ Below w.heap.size w w' := by
  unfold pdu_Parse.f at h
  by_cases hc : Bytes l0 ∧ l0.length ≤ 100000
  · rw [if_pos hc] at h
    have h := Option.some.inj h
    by_cases h5 : l0.length < 5
    · rw [if_pos h5] at h
      have := parse_short A0 c0 l0 w h5
      rw [h] at this
      exact this
    · rw [if_neg h5] at h
      have hd := bytes_drop hc.1 1
      have hw := words_hd (l0.drop 1) hd (by rw [List.length_drop]; omega)
      have hf := bytes_rd hc.1 0
      have := parse_walk (l0.length + 200000) A0 c0 l0 (wordsOf (l0.drop 1)) (rd l0 0) _ _ w hr0 hc0 (by omega) hc.2 hc.1 (by omega) rfl hf.1 hf.2 ⟨pwords_f _ hd (by rw [List.length_drop]; omega) _ (by rw [List.length_drop]; omega)⟩ hw.1 rfl rfl hw.2.1 hw.2.2
      rw [h] at this
      exact this
  · rw [if_neg hc] at h
    cases h
theorem aw1 : Aside0 (pdu_Bytes.f 60 3 16 2 [] 0 0 0 = some ([3, 0, 16, 0, 2], 0)) := ⟨by decide +kernel⟩
theorem aw2 : Aside0 (PR.pdu_AnswerParse.f 60 3 16 2 [] 0 0 0 [3, 4, 0, 1, 0, 2] = some ([1, 2], 0, 0)) := ⟨by decide +kernel⟩
theorem aw3 : Aside0 (PR.pdu_AnswerParse.f 60 3 16 2 [] 0 0 0 [131, 2] = some ([], 2, 0)) := ⟨by decide +kernel⟩
theorem aw4 : Aside0 (pdu_Parse.f [5, 0, 1, 0, 1] = some (0, 0, 0, [], 0, 0, 0, 4)) := ⟨by kernel_rfl⟩
theorem aw5 : Aside0 (PR.basculeref01_Ints.f 60 [1, 2] [1, 2] = some true) := ⟨by decide +kernel⟩
theorem lit_C (W : World) (xs : List Int) (h : xs.length ≤ 9223372036854775807) : Kd.C (Kd.int .u8) (W.alloc (.cells (nums .u8 xs).toArray 5)) (some ⟨W.heap.size, 0, none⟩) xs.length xs := by
  have h := own_lit W 0 5 .u8 xs (by omega) h
  obtain ⟨A, c, e, hr⟩ := own_reads h
  injection e with e1 e2 e3
  subst e1
  exact Kd.C_of_reads (d := (0 : Int)) (h1 := fun _ => rfl) hr
theorem litI_C (W : World) (xs : List Int) (h : xs.length ≤ 9223372036854775807) : Kd.C (Kd.int .i64) (W.alloc (.cells (nums .i64 xs).toArray 3)) (some ⟨W.heap.size, 0, none⟩) xs.length xs := by
  have h := own_lit W 0 3 .i64 xs (by omega) h
  obtain ⟨A, c, e, hr⟩ := own_reads h
  injection e with e1 e2 e3
  subst e1
  exact Kd.C_of_reads (d := (0 : Int)) (h1 := fun _ => rfl) hr
theorem ne_new {W : World} {g g2 : Nat} {o : Obj} (h : W.heap[g]? = some o) (hg : g2 = W.heap.size) : g ≠ g2 := by
  have := blk_lt h
  omega
set_option maxHeartbeats 8000000 in
set_option maxRecDepth 100000 in
theorem awake_true (w : World) : Calls Try.prog 32 #[] w fun e w' => e = .returned (.bool true) ∧ Below w.heap.size w w' := by
  have hu24 := Try.underlying24
  have hu30 := Try.underlying30
  have HB0 := Aside0.mk (Below.refl w.heap.size w)
  go_enter Try.func32, Try.ntmps32
  go_upto_region 4 with (first | ((with_reducible refine gate_dst (N := 1) rfl ?_); refine box_event ?hg (N := 1) ?hd (cs := #[.int .i64 0, .int .i64 0, .int .i64 0, .slice none 0 0, .int .i64 0, .int .i64 0, .int .i64 0]) (t := 24) ?hr ?_; (case hd => rfl); (case hg => rfl); (case hr => first | (go_simp; done) | (go_simp; rfl)); intro gb1 hg w1 hbox HBc; have GE0_gb1 : Aside0 (w.heap.size ≤ gb1) := Aside0.mk (by rw [hg]; exact (below_size (by repeat (first | (with_reducible first | exact HB0.out | apply below_alloc | apply pw_below_drewN | apply below_drew1) | exact HB0.out)))); clear hg; have HB0n := Aside0.mk (below_step (by repeat (first | (with_reducible first | exact HB0.out | apply below_alloc | apply pw_below_drewN | apply below_drew1 | refine below_set ?_ GE0_gb1.out) | exact HB0.out)) HBc); clear HBc HB0; have HB0 := HB0n; clear HB0n; have BK_gb1 := Aside0.mk hbox; clear hbox; have hczq1_0 : w1.cell? ⟨gb1, 0, none⟩ = some (.int .i64 0) := (blk_cell BK_gb1.out 0).trans rfl; have hfzq1_0 := blk_frozen BK_gb1.out 0; have hczq1_1 : w1.cell? ⟨gb1, 1, none⟩ = some (.int .i64 0) := (blk_cell BK_gb1.out 1).trans rfl; have hfzq1_1 := blk_frozen BK_gb1.out 1; have hczq1_2 : w1.cell? ⟨gb1, 2, none⟩ = some (.int .i64 0) := (blk_cell BK_gb1.out 2).trans rfl; have hfzq1_2 := blk_frozen BK_gb1.out 2; have hczq1_3 : w1.cell? ⟨gb1, 3, none⟩ = some (.slice none 0 0) := (blk_cell BK_gb1.out 3).trans rfl; have hfzq1_3 := blk_frozen BK_gb1.out 3; have hczq1_4 : w1.cell? ⟨gb1, 4, none⟩ = some (.int .i64 0) := (blk_cell BK_gb1.out 4).trans rfl; have hfzq1_4 := blk_frozen BK_gb1.out 4; have hczq1_5 : w1.cell? ⟨gb1, 5, none⟩ = some (.int .i64 0) := (blk_cell BK_gb1.out 5).trans rfl; have hfzq1_5 := blk_frozen BK_gb1.out 5; have hczq1_6 : w1.cell? ⟨gb1, 6, none⟩ = some (.int .i64 0) := (blk_cell BK_gb1.out 6).trans rfl; have hfzq1_6 := blk_frozen BK_gb1.out 6) | (go_at_call 30; refine (pdu_Bytes.calls 60 3 16 2 none 0 [] 0 0 0 [3, 0, 16, 0, 2] 0 _ (Kd.C_nil _ _) (Nat.le_refl _) aw1.out).mono ?_; rintro e w2 ⟨v, rfl, HR_b, HBc⟩; have BKn_gb1 : Aside0 (w2.heap[gb1]? = some (.cells #[.int .i64 3, .int .i64 16, .int .i64 2, .slice none 0 0, .int .i64 0, .int .i64 0, .int .i64 0] 24 (0, 0))) := Aside0.mk (blk_below (g := gb1) (by (with_reducible repeat (first | refine blk_drewN ?_ _ | refine blk_drew ?_ | refine blk_alloc ?_ _)); refine blk_put (cs := #[.int .i64 3, .int .i64 16, .int .i64 2, .slice none 0 0, .int .i64 0, .int .i64 0, .int .i64 0]) ?_ 6 _ rfl; (with_reducible repeat (first | refine blk_drewN ?_ _ | refine blk_drew ?_ | refine blk_alloc ?_ _)); refine blk_put (cs := #[.int .i64 3, .int .i64 16, .int .i64 2, .slice none 0 0, .int .i64 0, .int .i64 0, .int .i64 0]) ?_ 5 _ rfl; (with_reducible repeat (first | refine blk_drewN ?_ _ | refine blk_drew ?_ | refine blk_alloc ?_ _)); refine blk_put (cs := #[.int .i64 3, .int .i64 16, .int .i64 2, .slice none 0 0, .int .i64 0, .int .i64 0, .int .i64 0]) ?_ 4 _ rfl; (with_reducible repeat (first | refine blk_drewN ?_ _ | refine blk_drew ?_ | refine blk_alloc ?_ _)); refine blk_put (cs := #[.int .i64 3, .int .i64 16, .int .i64 2, .slice none 0 0, .int .i64 0, .int .i64 0, .int .i64 0]) ?_ 3 _ rfl; (with_reducible repeat (first | refine blk_drewN ?_ _ | refine blk_drew ?_ | refine blk_alloc ?_ _)); refine blk_put (cs := #[.int .i64 3, .int .i64 16, .int .i64 0, .slice none 0 0, .int .i64 0, .int .i64 0, .int .i64 0]) ?_ 2 _ rfl; (with_reducible repeat (first | refine blk_drewN ?_ _ | refine blk_drew ?_ | refine blk_alloc ?_ _)); refine blk_put (cs := #[.int .i64 3, .int .i64 0, .int .i64 0, .slice none 0 0, .int .i64 0, .int .i64 0, .int .i64 0]) ?_ 1 _ rfl; (with_reducible repeat (first | refine blk_drewN ?_ _ | refine blk_drew ?_ | refine blk_alloc ?_ _)); refine blk_put (cs := #[.int .i64 0, .int .i64 0, .int .i64 0, .slice none 0 0, .int .i64 0, .int .i64 0, .int .i64 0]) ?_ 0 _ rfl; (with_reducible repeat (first | refine blk_drewN ?_ _ | refine blk_drew ?_ | refine blk_alloc ?_ _)); exact BK_gb1.out) HBc); have HB0n := Aside0.mk (below_step (by repeat (first | (with_reducible first | exact HB0.out | apply below_alloc | apply pw_below_drewN | apply below_drew1 | refine below_set ?_ GE0_gb1.out) | exact HB0.out)) HBc); clear HBc BK_gb1 HB0 hczq1_0 hfzq1_0 hczq1_1 hfzq1_1 hczq1_2 hfzq1_2 hczq1_3 hfzq1_3 hczq1_4 hfzq1_4 hczq1_5 hfzq1_5 hczq1_6 hfzq1_6; have BK_gb1 := BKn_gb1; have HB0 := HB0n; clear BKn_gb1 HB0n; have HB_b := Aside0.mk (Below.refl w2.heap.size w2); obtain ⟨A_b, c_b, rfl⟩ := Kd.R_slice HR_b; have HV_b := Aside0.mk (Kd.R_reads' HR_b).2.2; have HC_b := Aside0.mk (Kd.R_reads' HR_b).2.1; clear HR_b; have hczq2_0 : w2.cell? ⟨gb1, 0, none⟩ = some (.int .i64 3) := (blk_cell BK_gb1.out 0).trans rfl; have hfzq2_0 := blk_frozen BK_gb1.out 0; have hczq2_1 : w2.cell? ⟨gb1, 1, none⟩ = some (.int .i64 16) := (blk_cell BK_gb1.out 1).trans rfl; have hfzq2_1 := blk_frozen BK_gb1.out 1; have hczq2_2 : w2.cell? ⟨gb1, 2, none⟩ = some (.int .i64 2) := (blk_cell BK_gb1.out 2).trans rfl; have hfzq2_2 := blk_frozen BK_gb1.out 2; have hczq2_3 : w2.cell? ⟨gb1, 3, none⟩ = some (.slice none 0 0) := (blk_cell BK_gb1.out 3).trans rfl; have hfzq2_3 := blk_frozen BK_gb1.out 3; have hczq2_4 : w2.cell? ⟨gb1, 4, none⟩ = some (.int .i64 0) := (blk_cell BK_gb1.out 4).trans rfl; have hfzq2_4 := blk_frozen BK_gb1.out 4; have hczq2_5 : w2.cell? ⟨gb1, 5, none⟩ = some (.int .i64 0) := (blk_cell BK_gb1.out 5).trans rfl; have hfzq2_5 := blk_frozen BK_gb1.out 5; have hczq2_6 : w2.cell? ⟨gb1, 6, none⟩ = some (.int .i64 0) := (blk_cell BK_gb1.out 6).trans rfl; have hfzq2_6 := blk_frozen BK_gb1.out 6) | (go_at_call 39; refine (PR.pdu_AnswerParse.calls 60 3 16 2 none 0 [] 0 0 0 (some _) 6 [3, 4, 0, 1, 0, 2] [1, 2] 0 0 _ (Kd.C_nil _ _) (Nat.le_refl _) (lit_C _ [3, 4, 0, 1, 0, 2] (by decide)) (Nat.le_refl _) aw2.out).mono ?_; rintro e w3 ⟨v, rfl, HR_a, HBc⟩; have BKn_gb1 : Aside0 (w3.heap[gb1]? = some (.cells #[.int .i64 3, .int .i64 16, .int .i64 2, .slice none 0 0, .int .i64 0, .int .i64 0, .int .i64 0] 24 (0, 0))) := Aside0.mk (blk_below (g := gb1) (by (with_reducible repeat (first | refine blk_drewN ?_ _ | refine blk_drew ?_ | refine blk_alloc ?_ _)); exact BK_gb1.out) HBc); have HB0n := Aside0.mk (below_step (by repeat (first | (with_reducible first | exact HB0.out | apply below_alloc | apply pw_below_drewN | apply below_drew1 | refine below_set ?_ GE0_gb1.out) | exact HB0.out)) HBc); have HB_bn := Aside0.mk (below_step (by repeat (first | (with_reducible first | exact HB_b.out | apply below_alloc | apply pw_below_drewN | apply below_drew1) | exact HB_b.out)) HBc); clear HBc BK_gb1 HB0 HB_b hczq2_0 hfzq2_0 hczq2_1 hfzq2_1 hczq2_2 hfzq2_2 hczq2_3 hfzq2_3 hczq2_4 hfzq2_4 hczq2_5 hfzq2_5 hczq2_6 hfzq2_6; have BK_gb1 := BKn_gb1; have HB0 := HB0n; have HB_b := HB_bn; clear BKn_gb1 HB0n HB_bn; have HB_a := Aside0.mk (Below.refl w3.heap.size w3); obtain ⟨A_a, c_a, rfl⟩ := Kd.R_slice HR_a; have HV_a := Aside0.mk (Kd.R_reads' HR_a).2.2; have HC_a := Aside0.mk (Kd.R_reads' HR_a).2.1; clear HR_a; have hczq3_0 : w3.cell? ⟨gb1, 0, none⟩ = some (.int .i64 3) := (blk_cell BK_gb1.out 0).trans rfl; have hfzq3_0 := blk_frozen BK_gb1.out 0; have hczq3_1 : w3.cell? ⟨gb1, 1, none⟩ = some (.int .i64 16) := (blk_cell BK_gb1.out 1).trans rfl; have hfzq3_1 := blk_frozen BK_gb1.out 1; have hczq3_2 : w3.cell? ⟨gb1, 2, none⟩ = some (.int .i64 2) := (blk_cell BK_gb1.out 2).trans rfl; have hfzq3_2 := blk_frozen BK_gb1.out 2; have hczq3_3 : w3.cell? ⟨gb1, 3, none⟩ = some (.slice none 0 0) := (blk_cell BK_gb1.out 3).trans rfl; have hfzq3_3 := blk_frozen BK_gb1.out 3; have hczq3_4 : w3.cell? ⟨gb1, 4, none⟩ = some (.int .i64 0) := (blk_cell BK_gb1.out 4).trans rfl; have hfzq3_4 := blk_frozen BK_gb1.out 4; have hczq3_5 : w3.cell? ⟨gb1, 5, none⟩ = some (.int .i64 0) := (blk_cell BK_gb1.out 5).trans rfl; have hfzq3_5 := blk_frozen BK_gb1.out 5; have hczq3_6 : w3.cell? ⟨gb1, 6, none⟩ = some (.int .i64 0) := (blk_cell BK_gb1.out 6).trans rfl; have hfzq3_6 := blk_frozen BK_gb1.out 6) | ((with_reducible refine gate_dst (N := 4) rfl ?_); refine box_event ?hg (N := 4) ?hd (cs := #[.slice none 0 0, .int .i64 0]) (t := 30) ?hr ?_; (case hd => rfl); (case hg => rfl); (case hr => first | (go_simp; done) | (go_simp; rfl)); intro gb4 hg w4 hbox HBc; have GE0_gb4 : Aside0 (w.heap.size ≤ gb4) := Aside0.mk (by rw [hg]; exact (below_size (by repeat (first | (with_reducible first | exact HB0.out | apply below_alloc | apply pw_below_drewN | apply below_drew1 | refine below_set ?_ GE0_gb1.out) | exact HB0.out)))); have GEb_gb4 : Aside0 (w2.heap.size ≤ gb4) := Aside0.mk (by rw [hg]; exact (below_size (by repeat (first | (with_reducible first | exact HB_b.out | apply below_alloc | apply pw_below_drewN | apply below_drew1) | exact HB_b.out)))); have GEa_gb4 : Aside0 (w3.heap.size ≤ gb4) := Aside0.mk (by rw [hg]; exact (below_size (by repeat (first | (with_reducible first | exact HB_a.out | apply below_alloc | apply pw_below_drewN | apply below_drew1) | exact HB_a.out)))); have NB_gb1_gb4 : Aside0 (gb1 ≠ gb4) := Aside0.mk (ne_new (by (with_reducible repeat (first | refine blk_drewN ?_ _ | refine blk_drew ?_ | refine blk_alloc ?_ _)); exact BK_gb1.out) hg); have NB_gb4_gb1 : Aside0 (gb4 ≠ gb1) := Aside0.mk (fun e => NB_gb1_gb4.out e.symm); clear hg; have BKn_gb1 : Aside0 (w4.heap[gb1]? = some (.cells #[.int .i64 3, .int .i64 16, .int .i64 2, .slice none 0 0, .int .i64 0, .int .i64 0, .int .i64 0] 24 (0, 0))) := Aside0.mk (blk_below (g := gb1) (by (with_reducible repeat (first | refine blk_drewN ?_ _ | refine blk_drew ?_ | refine blk_alloc ?_ _)); exact BK_gb1.out) HBc); have HB0n := Aside0.mk (below_step (by repeat (first | (with_reducible first | exact HB0.out | apply below_alloc | apply pw_below_drewN | apply below_drew1 | refine below_set ?_ GE0_gb1.out | refine below_set ?_ GE0_gb4.out) | exact HB0.out)) HBc); have HB_bn := Aside0.mk (below_step (by repeat (first | (with_reducible first | exact HB_b.out | apply below_alloc | apply pw_below_drewN | apply below_drew1 | refine below_set ?_ GEb_gb4.out) | exact HB_b.out)) HBc); have HB_an := Aside0.mk (below_step (by repeat (first | (with_reducible first | exact HB_a.out | apply below_alloc | apply pw_below_drewN | apply below_drew1 | refine below_set ?_ GEa_gb4.out) | exact HB_a.out)) HBc); clear HBc BK_gb1 HB0 HB_b HB_a hczq3_0 hfzq3_0 hczq3_1 hfzq3_1 hczq3_2 hfzq3_2 hczq3_3 hfzq3_3 hczq3_4 hfzq3_4 hczq3_5 hfzq3_5 hczq3_6 hfzq3_6; have BK_gb1 := BKn_gb1; have HB0 := HB0n; have HB_b := HB_bn; have HB_a := HB_an; clear BKn_gb1 HB0n HB_bn HB_an; have BK_gb4 := Aside0.mk hbox; clear hbox; have hczq4_0 : w4.cell? ⟨gb1, 0, none⟩ = some (.int .i64 3) := (blk_cell BK_gb1.out 0).trans rfl; have hfzq4_0 := blk_frozen BK_gb1.out 0; have hczq4_1 : w4.cell? ⟨gb1, 1, none⟩ = some (.int .i64 16) := (blk_cell BK_gb1.out 1).trans rfl; have hfzq4_1 := blk_frozen BK_gb1.out 1; have hczq4_2 : w4.cell? ⟨gb1, 2, none⟩ = some (.int .i64 2) := (blk_cell BK_gb1.out 2).trans rfl; have hfzq4_2 := blk_frozen BK_gb1.out 2; have hczq4_3 : w4.cell? ⟨gb1, 3, none⟩ = some (.slice none 0 0) := (blk_cell BK_gb1.out 3).trans rfl; have hfzq4_3 := blk_frozen BK_gb1.out 3; have hczq4_4 : w4.cell? ⟨gb1, 4, none⟩ = some (.int .i64 0) := (blk_cell BK_gb1.out 4).trans rfl; have hfzq4_4 := blk_frozen BK_gb1.out 4; have hczq4_5 : w4.cell? ⟨gb1, 5, none⟩ = some (.int .i64 0) := (blk_cell BK_gb1.out 5).trans rfl; have hfzq4_5 := blk_frozen BK_gb1.out 5; have hczq4_6 : w4.cell? ⟨gb1, 6, none⟩ = some (.int .i64 0) := (blk_cell BK_gb1.out 6).trans rfl; have hfzq4_6 := blk_frozen BK_gb1.out 6; have hczq5_0 : w4.cell? ⟨gb4, 0, none⟩ = some (.slice none 0 0) := (blk_cell BK_gb4.out 0).trans rfl; have hfzq5_0 := blk_frozen BK_gb4.out 0; have hczq5_1 : w4.cell? ⟨gb4, 1, none⟩ = some (.int .i64 0) := (blk_cell BK_gb4.out 1).trans rfl; have hfzq5_1 := blk_frozen BK_gb4.out 1; have hnq6 := NB_gb1_gb4.out; have hmq6 := NB_gb4_gb1.out))
  have BKn_gb1 : Aside0 (((w4.setCell ⟨gb4, 0, none⟩ (.slice A_a 2 c_a)).setCell ⟨gb4, 1, none⟩ (.int .i64 0)).heap[gb1]? = some (.cells #[.int .i64 3, .int .i64 16, .int .i64 2, .slice none 0 0, .int .i64 0, .int .i64 0, .int .i64 0] 24 (0, 0))) := Aside0.mk (by (with_reducible repeat (first | refine blk_drewN ?_ _ | refine blk_drew ?_ | refine blk_alloc ?_ _)); refine blk_far ?_ NB_gb1_gb4.out _; (with_reducible repeat (first | refine blk_drewN ?_ _ | refine blk_drew ?_ | refine blk_alloc ?_ _)); refine blk_far ?_ NB_gb1_gb4.out _; (with_reducible repeat (first | refine blk_drewN ?_ _ | refine blk_drew ?_ | refine blk_alloc ?_ _)); exact BK_gb1.out)
  have BKn_gb4 : Aside0 (((w4.setCell ⟨gb4, 0, none⟩ (.slice A_a 2 c_a)).setCell ⟨gb4, 1, none⟩ (.int .i64 0)).heap[gb4]? = some (.cells #[.slice A_a 2 c_a, .int .i64 0] 30 (0, 0))) := Aside0.mk (by (with_reducible repeat (first | refine blk_drewN ?_ _ | refine blk_drew ?_ | refine blk_alloc ?_ _)); refine blk_put (cs := #[.slice A_a 2 c_a, .int .i64 0]) ?_ 1 _ rfl; (with_reducible repeat (first | refine blk_drewN ?_ _ | refine blk_drew ?_ | refine blk_alloc ?_ _)); refine blk_put (cs := #[.slice none 0 0, .int .i64 0]) ?_ 0 _ rfl; (with_reducible repeat (first | refine blk_drewN ?_ _ | refine blk_drew ?_ | refine blk_alloc ?_ _)); exact BK_gb4.out)
  have HB0n : Aside0 (Below w.heap.size w ((w4.setCell ⟨gb4, 0, none⟩ (.slice A_a 2 c_a)).setCell ⟨gb4, 1, none⟩ (.int .i64 0))) := Aside0.mk (by repeat (first | (with_reducible first | exact HB0.out | apply below_alloc | apply pw_below_drewN | apply below_drew1 | refine below_set ?_ GE0_gb1.out | refine below_set ?_ GE0_gb4.out) | exact HB0.out))
  have HB_bn : Aside0 (Below w2.heap.size w2 ((w4.setCell ⟨gb4, 0, none⟩ (.slice A_a 2 c_a)).setCell ⟨gb4, 1, none⟩ (.int .i64 0))) := Aside0.mk (by repeat (first | (with_reducible first | exact HB_b.out | apply below_alloc | apply pw_below_drewN | apply below_drew1 | refine below_set ?_ GEb_gb4.out) | exact HB_b.out))
  have HB_an : Aside0 (Below w3.heap.size w3 ((w4.setCell ⟨gb4, 0, none⟩ (.slice A_a 2 c_a)).setCell ⟨gb4, 1, none⟩ (.int .i64 0))) := Aside0.mk (by repeat (first | (with_reducible first | exact HB_a.out | apply below_alloc | apply pw_below_drewN | apply below_drew1 | refine below_set ?_ GEa_gb4.out) | exact HB_a.out))
  clear BK_gb1 BK_gb4 HB0 HB_b HB_a hczq4_0 hfzq4_0 hczq4_1 hfzq4_1 hczq4_2 hfzq4_2 hczq4_3 hfzq4_3 hczq4_4 hfzq4_4 hczq4_5 hfzq4_5 hczq4_6 hfzq4_6 hczq5_0 hfzq5_0 hczq5_1 hfzq5_1 hnq6 hmq6
  have BK_gb1 := BKn_gb1
  have BK_gb4 := BKn_gb4
  have HB0 := HB0n
  have HB_b := HB_bn
  have HB_a := HB_an
  clear BKn_gb1 BKn_gb4 HB0n HB_bn HB_an
  generalize ((w4.setCell ⟨gb4, 0, none⟩ (.slice A_a 2 c_a)).setCell ⟨gb4, 1, none⟩ (.int .i64 0)) = w5 at BK_gb1 BK_gb4 HB0 HB_b HB_a ⊢
  have hczq7_0 : w5.cell? ⟨gb1, 0, none⟩ = some (.int .i64 3) := (blk_cell BK_gb1.out 0).trans rfl; have hfzq7_0 := blk_frozen BK_gb1.out 0; have hczq7_1 : w5.cell? ⟨gb1, 1, none⟩ = some (.int .i64 16) := (blk_cell BK_gb1.out 1).trans rfl; have hfzq7_1 := blk_frozen BK_gb1.out 1; have hczq7_2 : w5.cell? ⟨gb1, 2, none⟩ = some (.int .i64 2) := (blk_cell BK_gb1.out 2).trans rfl; have hfzq7_2 := blk_frozen BK_gb1.out 2; have hczq7_3 : w5.cell? ⟨gb1, 3, none⟩ = some (.slice none 0 0) := (blk_cell BK_gb1.out 3).trans rfl; have hfzq7_3 := blk_frozen BK_gb1.out 3; have hczq7_4 : w5.cell? ⟨gb1, 4, none⟩ = some (.int .i64 0) := (blk_cell BK_gb1.out 4).trans rfl; have hfzq7_4 := blk_frozen BK_gb1.out 4; have hczq7_5 : w5.cell? ⟨gb1, 5, none⟩ = some (.int .i64 0) := (blk_cell BK_gb1.out 5).trans rfl; have hfzq7_5 := blk_frozen BK_gb1.out 5; have hczq7_6 : w5.cell? ⟨gb1, 6, none⟩ = some (.int .i64 0) := (blk_cell BK_gb1.out 6).trans rfl; have hfzq7_6 := blk_frozen BK_gb1.out 6
  have hczq8_0 : w5.cell? ⟨gb4, 0, none⟩ = some (.slice A_a 2 c_a) := (blk_cell BK_gb4.out 0).trans rfl; have hfzq8_0 := blk_frozen BK_gb4.out 0; have hczq8_1 : w5.cell? ⟨gb4, 1, none⟩ = some (.int .i64 0) := (blk_cell BK_gb4.out 1).trans rfl; have hfzq8_1 := blk_frozen BK_gb4.out 1
  have hnq9 := NB_gb1_gb4.out; have hmq9 := NB_gb4_gb1.out
  go_upto_region 5 with (first | (go_at_call 39; refine (PR.pdu_AnswerParse.calls 60 3 16 2 none 0 [] 0 0 0 (some _) 2 [131, 2] [] 2 0 _ (Kd.C_nil _ _) (Nat.le_refl _) (lit_C _ [131, 2] (by decide)) (Nat.le_refl _) aw3.out).mono ?_; rintro e w6 ⟨v, rfl, HR_c, HBc⟩; have BKn_gb1 : Aside0 (w6.heap[gb1]? = some (.cells #[.int .i64 3, .int .i64 16, .int .i64 2, .slice none 0 0, .int .i64 0, .int .i64 0, .int .i64 0] 24 (0, 0))) := Aside0.mk (blk_below (g := gb1) (by (with_reducible repeat (first | refine blk_drewN ?_ _ | refine blk_drew ?_ | refine blk_alloc ?_ _)); exact BK_gb1.out) HBc); have BKn_gb4 : Aside0 (w6.heap[gb4]? = some (.cells #[.slice A_a 2 c_a, .int .i64 0] 30 (0, 0))) := Aside0.mk (blk_below (g := gb4) (by (with_reducible repeat (first | refine blk_drewN ?_ _ | refine blk_drew ?_ | refine blk_alloc ?_ _)); exact BK_gb4.out) HBc); have HB0n := Aside0.mk (below_step (by repeat (first | (with_reducible first | exact HB0.out | apply below_alloc | apply pw_below_drewN | apply below_drew1 | refine below_set ?_ GE0_gb1.out | refine below_set ?_ GE0_gb4.out) | exact HB0.out)) HBc); have HB_bn := Aside0.mk (below_step (by repeat (first | (with_reducible first | exact HB_b.out | apply below_alloc | apply pw_below_drewN | apply below_drew1 | refine below_set ?_ GEb_gb4.out) | exact HB_b.out)) HBc); have HB_an := Aside0.mk (below_step (by repeat (first | (with_reducible first | exact HB_a.out | apply below_alloc | apply pw_below_drewN | apply below_drew1 | refine below_set ?_ GEa_gb4.out) | exact HB_a.out)) HBc); clear HBc BK_gb1 BK_gb4 HB0 HB_b HB_a hczq7_0 hfzq7_0 hczq7_1 hfzq7_1 hczq7_2 hfzq7_2 hczq7_3 hfzq7_3 hczq7_4 hfzq7_4 hczq7_5 hfzq7_5 hczq7_6 hfzq7_6 hczq8_0 hfzq8_0 hczq8_1 hfzq8_1 hnq9 hmq9; have BK_gb1 := BKn_gb1; have BK_gb4 := BKn_gb4; have HB0 := HB0n; have HB_b := HB_bn; have HB_a := HB_an; clear BKn_gb1 BKn_gb4 HB0n HB_bn HB_an; have HB_c := Aside0.mk (Below.refl w6.heap.size w6); obtain ⟨A_c, c_c, rfl⟩ := Kd.R_slice HR_c; have HV_c := Aside0.mk (Kd.R_reads' HR_c).2.2; have HC_c := Aside0.mk (Kd.R_reads' HR_c).2.1; clear HR_c; have hczq10_0 : w6.cell? ⟨gb1, 0, none⟩ = some (.int .i64 3) := (blk_cell BK_gb1.out 0).trans rfl; have hfzq10_0 := blk_frozen BK_gb1.out 0; have hczq10_1 : w6.cell? ⟨gb1, 1, none⟩ = some (.int .i64 16) := (blk_cell BK_gb1.out 1).trans rfl; have hfzq10_1 := blk_frozen BK_gb1.out 1; have hczq10_2 : w6.cell? ⟨gb1, 2, none⟩ = some (.int .i64 2) := (blk_cell BK_gb1.out 2).trans rfl; have hfzq10_2 := blk_frozen BK_gb1.out 2; have hczq10_3 : w6.cell? ⟨gb1, 3, none⟩ = some (.slice none 0 0) := (blk_cell BK_gb1.out 3).trans rfl; have hfzq10_3 := blk_frozen BK_gb1.out 3; have hczq10_4 : w6.cell? ⟨gb1, 4, none⟩ = some (.int .i64 0) := (blk_cell BK_gb1.out 4).trans rfl; have hfzq10_4 := blk_frozen BK_gb1.out 4; have hczq10_5 : w6.cell? ⟨gb1, 5, none⟩ = some (.int .i64 0) := (blk_cell BK_gb1.out 5).trans rfl; have hfzq10_5 := blk_frozen BK_gb1.out 5; have hczq10_6 : w6.cell? ⟨gb1, 6, none⟩ = some (.int .i64 0) := (blk_cell BK_gb1.out 6).trans rfl; have hfzq10_6 := blk_frozen BK_gb1.out 6; have hczq11_0 : w6.cell? ⟨gb4, 0, none⟩ = some (.slice A_a 2 c_a) := (blk_cell BK_gb4.out 0).trans rfl; have hfzq11_0 := blk_frozen BK_gb4.out 0; have hczq11_1 : w6.cell? ⟨gb4, 1, none⟩ = some (.int .i64 0) := (blk_cell BK_gb4.out 1).trans rfl; have hfzq11_1 := blk_frozen BK_gb4.out 1; have hnq12 := NB_gb1_gb4.out; have hmq12 := NB_gb4_gb1.out) | ((with_reducible refine gate_dst (N := 6) rfl ?_); refine box_event ?hg (N := 6) ?hd (cs := #[.slice none 0 0, .int .i64 0]) (t := 30) ?hr ?_; (case hd => rfl); (case hg => rfl); (case hr => first | (go_simp; done) | (go_simp; rfl)); intro gb6 hg w7 hbox HBc; have GE0_gb6 : Aside0 (w.heap.size ≤ gb6) := Aside0.mk (by rw [hg]; exact (below_size (by repeat (first | (with_reducible first | exact HB0.out | apply below_alloc | apply pw_below_drewN | apply below_drew1 | refine below_set ?_ GE0_gb1.out | refine below_set ?_ GE0_gb4.out) | exact HB0.out)))); have GEb_gb6 : Aside0 (w2.heap.size ≤ gb6) := Aside0.mk (by rw [hg]; exact (below_size (by repeat (first | (with_reducible first | exact HB_b.out | apply below_alloc | apply pw_below_drewN | apply below_drew1 | refine below_set ?_ GEb_gb4.out) | exact HB_b.out)))); have GEa_gb6 : Aside0 (w3.heap.size ≤ gb6) := Aside0.mk (by rw [hg]; exact (below_size (by repeat (first | (with_reducible first | exact HB_a.out | apply below_alloc | apply pw_below_drewN | apply below_drew1 | refine below_set ?_ GEa_gb4.out) | exact HB_a.out)))); have GEc_gb6 : Aside0 (w6.heap.size ≤ gb6) := Aside0.mk (by rw [hg]; exact (below_size (by repeat (first | (with_reducible first | exact HB_c.out | apply below_alloc | apply pw_below_drewN | apply below_drew1) | exact HB_c.out)))); have NB_gb1_gb6 : Aside0 (gb1 ≠ gb6) := Aside0.mk (ne_new (by (with_reducible repeat (first | refine blk_drewN ?_ _ | refine blk_drew ?_ | refine blk_alloc ?_ _)); exact BK_gb1.out) hg); have NB_gb6_gb1 : Aside0 (gb6 ≠ gb1) := Aside0.mk (fun e => NB_gb1_gb6.out e.symm); have NB_gb4_gb6 : Aside0 (gb4 ≠ gb6) := Aside0.mk (ne_new (by (with_reducible repeat (first | refine blk_drewN ?_ _ | refine blk_drew ?_ | refine blk_alloc ?_ _)); exact BK_gb4.out) hg); have NB_gb6_gb4 : Aside0 (gb6 ≠ gb4) := Aside0.mk (fun e => NB_gb4_gb6.out e.symm); clear hg; have BKn_gb1 : Aside0 (w7.heap[gb1]? = some (.cells #[.int .i64 3, .int .i64 16, .int .i64 2, .slice none 0 0, .int .i64 0, .int .i64 0, .int .i64 0] 24 (0, 0))) := Aside0.mk (blk_below (g := gb1) (by (with_reducible repeat (first | refine blk_drewN ?_ _ | refine blk_drew ?_ | refine blk_alloc ?_ _)); exact BK_gb1.out) HBc); have BKn_gb4 : Aside0 (w7.heap[gb4]? = some (.cells #[.slice A_a 2 c_a, .int .i64 0] 30 (0, 0))) := Aside0.mk (blk_below (g := gb4) (by (with_reducible repeat (first | refine blk_drewN ?_ _ | refine blk_drew ?_ | refine blk_alloc ?_ _)); exact BK_gb4.out) HBc); have HB0n := Aside0.mk (below_step (by repeat (first | (with_reducible first | exact HB0.out | apply below_alloc | apply pw_below_drewN | apply below_drew1 | refine below_set ?_ GE0_gb1.out | refine below_set ?_ GE0_gb4.out | refine below_set ?_ GE0_gb6.out) | exact HB0.out)) HBc); have HB_bn := Aside0.mk (below_step (by repeat (first | (with_reducible first | exact HB_b.out | apply below_alloc | apply pw_below_drewN | apply below_drew1 | refine below_set ?_ GEb_gb4.out | refine below_set ?_ GEb_gb6.out) | exact HB_b.out)) HBc); have HB_an := Aside0.mk (below_step (by repeat (first | (with_reducible first | exact HB_a.out | apply below_alloc | apply pw_below_drewN | apply below_drew1 | refine below_set ?_ GEa_gb4.out | refine below_set ?_ GEa_gb6.out) | exact HB_a.out)) HBc); have HB_cn := Aside0.mk (below_step (by repeat (first | (with_reducible first | exact HB_c.out | apply below_alloc | apply pw_below_drewN | apply below_drew1 | refine below_set ?_ GEc_gb6.out) | exact HB_c.out)) HBc); clear HBc BK_gb1 BK_gb4 HB0 HB_b HB_a HB_c hczq10_0 hfzq10_0 hczq10_1 hfzq10_1 hczq10_2 hfzq10_2 hczq10_3 hfzq10_3 hczq10_4 hfzq10_4 hczq10_5 hfzq10_5 hczq10_6 hfzq10_6 hczq11_0 hfzq11_0 hczq11_1 hfzq11_1 hnq12 hmq12; have BK_gb1 := BKn_gb1; have BK_gb4 := BKn_gb4; have HB0 := HB0n; have HB_b := HB_bn; have HB_a := HB_an; have HB_c := HB_cn; clear BKn_gb1 BKn_gb4 HB0n HB_bn HB_an HB_cn; have BK_gb6 := Aside0.mk hbox; clear hbox; have hczq13_0 : w7.cell? ⟨gb1, 0, none⟩ = some (.int .i64 3) := (blk_cell BK_gb1.out 0).trans rfl; have hfzq13_0 := blk_frozen BK_gb1.out 0; have hczq13_1 : w7.cell? ⟨gb1, 1, none⟩ = some (.int .i64 16) := (blk_cell BK_gb1.out 1).trans rfl; have hfzq13_1 := blk_frozen BK_gb1.out 1; have hczq13_2 : w7.cell? ⟨gb1, 2, none⟩ = some (.int .i64 2) := (blk_cell BK_gb1.out 2).trans rfl; have hfzq13_2 := blk_frozen BK_gb1.out 2; have hczq13_3 : w7.cell? ⟨gb1, 3, none⟩ = some (.slice none 0 0) := (blk_cell BK_gb1.out 3).trans rfl; have hfzq13_3 := blk_frozen BK_gb1.out 3; have hczq13_4 : w7.cell? ⟨gb1, 4, none⟩ = some (.int .i64 0) := (blk_cell BK_gb1.out 4).trans rfl; have hfzq13_4 := blk_frozen BK_gb1.out 4; have hczq13_5 : w7.cell? ⟨gb1, 5, none⟩ = some (.int .i64 0) := (blk_cell BK_gb1.out 5).trans rfl; have hfzq13_5 := blk_frozen BK_gb1.out 5; have hczq13_6 : w7.cell? ⟨gb1, 6, none⟩ = some (.int .i64 0) := (blk_cell BK_gb1.out 6).trans rfl; have hfzq13_6 := blk_frozen BK_gb1.out 6; have hczq14_0 : w7.cell? ⟨gb4, 0, none⟩ = some (.slice A_a 2 c_a) := (blk_cell BK_gb4.out 0).trans rfl; have hfzq14_0 := blk_frozen BK_gb4.out 0; have hczq14_1 : w7.cell? ⟨gb4, 1, none⟩ = some (.int .i64 0) := (blk_cell BK_gb4.out 1).trans rfl; have hfzq14_1 := blk_frozen BK_gb4.out 1; have hczq15_0 : w7.cell? ⟨gb6, 0, none⟩ = some (.slice none 0 0) := (blk_cell BK_gb6.out 0).trans rfl; have hfzq15_0 := blk_frozen BK_gb6.out 0; have hczq15_1 : w7.cell? ⟨gb6, 1, none⟩ = some (.int .i64 0) := (blk_cell BK_gb6.out 1).trans rfl; have hfzq15_1 := blk_frozen BK_gb6.out 1; have hnq16 := NB_gb1_gb4.out; have hmq16 := NB_gb4_gb1.out; have hnq17 := NB_gb1_gb6.out; have hmq17 := NB_gb6_gb1.out; have hnq18 := NB_gb4_gb6.out; have hmq18 := NB_gb6_gb4.out))
  have BKn_gb1 : Aside0 (((w7.setCell ⟨gb6, 0, none⟩ (.slice A_c 0 c_c)).setCell ⟨gb6, 1, none⟩ (.int .i64 2)).heap[gb1]? = some (.cells #[.int .i64 3, .int .i64 16, .int .i64 2, .slice none 0 0, .int .i64 0, .int .i64 0, .int .i64 0] 24 (0, 0))) := Aside0.mk (by (with_reducible repeat (first | refine blk_drewN ?_ _ | refine blk_drew ?_ | refine blk_alloc ?_ _)); refine blk_far ?_ NB_gb1_gb6.out _; (with_reducible repeat (first | refine blk_drewN ?_ _ | refine blk_drew ?_ | refine blk_alloc ?_ _)); refine blk_far ?_ NB_gb1_gb6.out _; (with_reducible repeat (first | refine blk_drewN ?_ _ | refine blk_drew ?_ | refine blk_alloc ?_ _)); exact BK_gb1.out)
  have BKn_gb4 : Aside0 (((w7.setCell ⟨gb6, 0, none⟩ (.slice A_c 0 c_c)).setCell ⟨gb6, 1, none⟩ (.int .i64 2)).heap[gb4]? = some (.cells #[.slice A_a 2 c_a, .int .i64 0] 30 (0, 0))) := Aside0.mk (by (with_reducible repeat (first | refine blk_drewN ?_ _ | refine blk_drew ?_ | refine blk_alloc ?_ _)); refine blk_far ?_ NB_gb4_gb6.out _; (with_reducible repeat (first | refine blk_drewN ?_ _ | refine blk_drew ?_ | refine blk_alloc ?_ _)); refine blk_far ?_ NB_gb4_gb6.out _; (with_reducible repeat (first | refine blk_drewN ?_ _ | refine blk_drew ?_ | refine blk_alloc ?_ _)); exact BK_gb4.out)
  have BKn_gb6 : Aside0 (((w7.setCell ⟨gb6, 0, none⟩ (.slice A_c 0 c_c)).setCell ⟨gb6, 1, none⟩ (.int .i64 2)).heap[gb6]? = some (.cells #[.slice A_c 0 c_c, .int .i64 2] 30 (0, 0))) := Aside0.mk (by (with_reducible repeat (first | refine blk_drewN ?_ _ | refine blk_drew ?_ | refine blk_alloc ?_ _)); refine blk_put (cs := #[.slice A_c 0 c_c, .int .i64 0]) ?_ 1 _ rfl; (with_reducible repeat (first | refine blk_drewN ?_ _ | refine blk_drew ?_ | refine blk_alloc ?_ _)); refine blk_put (cs := #[.slice none 0 0, .int .i64 0]) ?_ 0 _ rfl; (with_reducible repeat (first | refine blk_drewN ?_ _ | refine blk_drew ?_ | refine blk_alloc ?_ _)); exact BK_gb6.out)
  have HB0n : Aside0 (Below w.heap.size w ((w7.setCell ⟨gb6, 0, none⟩ (.slice A_c 0 c_c)).setCell ⟨gb6, 1, none⟩ (.int .i64 2))) := Aside0.mk (by repeat (first | (with_reducible first | exact HB0.out | apply below_alloc | apply pw_below_drewN | apply below_drew1 | refine below_set ?_ GE0_gb1.out | refine below_set ?_ GE0_gb4.out | refine below_set ?_ GE0_gb6.out) | exact HB0.out))
  have HB_bn : Aside0 (Below w2.heap.size w2 ((w7.setCell ⟨gb6, 0, none⟩ (.slice A_c 0 c_c)).setCell ⟨gb6, 1, none⟩ (.int .i64 2))) := Aside0.mk (by repeat (first | (with_reducible first | exact HB_b.out | apply below_alloc | apply pw_below_drewN | apply below_drew1 | refine below_set ?_ GEb_gb4.out | refine below_set ?_ GEb_gb6.out) | exact HB_b.out))
  have HB_an : Aside0 (Below w3.heap.size w3 ((w7.setCell ⟨gb6, 0, none⟩ (.slice A_c 0 c_c)).setCell ⟨gb6, 1, none⟩ (.int .i64 2))) := Aside0.mk (by repeat (first | (with_reducible first | exact HB_a.out | apply below_alloc | apply pw_below_drewN | apply below_drew1 | refine below_set ?_ GEa_gb4.out | refine below_set ?_ GEa_gb6.out) | exact HB_a.out))
  have HB_cn : Aside0 (Below w6.heap.size w6 ((w7.setCell ⟨gb6, 0, none⟩ (.slice A_c 0 c_c)).setCell ⟨gb6, 1, none⟩ (.int .i64 2))) := Aside0.mk (by repeat (first | (with_reducible first | exact HB_c.out | apply below_alloc | apply pw_below_drewN | apply below_drew1 | refine below_set ?_ GEc_gb6.out) | exact HB_c.out))
  clear BK_gb1 BK_gb4 BK_gb6 HB0 HB_b HB_a HB_c hczq13_0 hfzq13_0 hczq13_1 hfzq13_1 hczq13_2 hfzq13_2 hczq13_3 hfzq13_3 hczq13_4 hfzq13_4 hczq13_5 hfzq13_5 hczq13_6 hfzq13_6 hczq14_0 hfzq14_0 hczq14_1 hfzq14_1 hczq15_0 hfzq15_0 hczq15_1 hfzq15_1 hnq16 hmq16 hnq17 hmq17 hnq18 hmq18
  have BK_gb1 := BKn_gb1
  have BK_gb4 := BKn_gb4
  have BK_gb6 := BKn_gb6
  have HB0 := HB0n
  have HB_b := HB_bn
  have HB_a := HB_an
  have HB_c := HB_cn
  clear BKn_gb1 BKn_gb4 BKn_gb6 HB0n HB_bn HB_an HB_cn
  generalize ((w7.setCell ⟨gb6, 0, none⟩ (.slice A_c 0 c_c)).setCell ⟨gb6, 1, none⟩ (.int .i64 2)) = w8 at BK_gb1 BK_gb4 BK_gb6 HB0 HB_b HB_a HB_c ⊢
  have hczq19_0 : w8.cell? ⟨gb1, 0, none⟩ = some (.int .i64 3) := (blk_cell BK_gb1.out 0).trans rfl; have hfzq19_0 := blk_frozen BK_gb1.out 0; have hczq19_1 : w8.cell? ⟨gb1, 1, none⟩ = some (.int .i64 16) := (blk_cell BK_gb1.out 1).trans rfl; have hfzq19_1 := blk_frozen BK_gb1.out 1; have hczq19_2 : w8.cell? ⟨gb1, 2, none⟩ = some (.int .i64 2) := (blk_cell BK_gb1.out 2).trans rfl; have hfzq19_2 := blk_frozen BK_gb1.out 2; have hczq19_3 : w8.cell? ⟨gb1, 3, none⟩ = some (.slice none 0 0) := (blk_cell BK_gb1.out 3).trans rfl; have hfzq19_3 := blk_frozen BK_gb1.out 3; have hczq19_4 : w8.cell? ⟨gb1, 4, none⟩ = some (.int .i64 0) := (blk_cell BK_gb1.out 4).trans rfl; have hfzq19_4 := blk_frozen BK_gb1.out 4; have hczq19_5 : w8.cell? ⟨gb1, 5, none⟩ = some (.int .i64 0) := (blk_cell BK_gb1.out 5).trans rfl; have hfzq19_5 := blk_frozen BK_gb1.out 5; have hczq19_6 : w8.cell? ⟨gb1, 6, none⟩ = some (.int .i64 0) := (blk_cell BK_gb1.out 6).trans rfl; have hfzq19_6 := blk_frozen BK_gb1.out 6
  have hczq20_0 : w8.cell? ⟨gb4, 0, none⟩ = some (.slice A_a 2 c_a) := (blk_cell BK_gb4.out 0).trans rfl; have hfzq20_0 := blk_frozen BK_gb4.out 0; have hczq20_1 : w8.cell? ⟨gb4, 1, none⟩ = some (.int .i64 0) := (blk_cell BK_gb4.out 1).trans rfl; have hfzq20_1 := blk_frozen BK_gb4.out 1
  have hczq21_0 : w8.cell? ⟨gb6, 0, none⟩ = some (.slice A_c 0 c_c) := (blk_cell BK_gb6.out 0).trans rfl; have hfzq21_0 := blk_frozen BK_gb6.out 0; have hczq21_1 : w8.cell? ⟨gb6, 1, none⟩ = some (.int .i64 2) := (blk_cell BK_gb6.out 1).trans rfl; have hfzq21_1 := blk_frozen BK_gb6.out 1
  have hnq22 := NB_gb1_gb4.out; have hmq22 := NB_gb4_gb1.out
  have hnq23 := NB_gb1_gb6.out; have hmq23 := NB_gb6_gb1.out
  have hnq24 := NB_gb4_gb6.out; have hmq24 := NB_gb6_gb4.out
  go_upto_region 6 with (first | (go_at_call 34; refine (pdu_Parse.calls (some _) 5 [5, 0, 1, 0, 1] 0 0 0 [] 0 0 0 4 _ (lit_C _ [5, 0, 1, 0, 1] (by decide)) (Nat.le_refl _) aw4.out).mono ?_; rintro e w9 ⟨A_d, c_d, rfl, HC0_d, HV0_d, HBc⟩; have BKn_gb1 : Aside0 (w9.heap[gb1]? = some (.cells #[.int .i64 3, .int .i64 16, .int .i64 2, .slice none 0 0, .int .i64 0, .int .i64 0, .int .i64 0] 24 (0, 0))) := Aside0.mk (blk_below (g := gb1) (by (with_reducible repeat (first | refine blk_drewN ?_ _ | refine blk_drew ?_ | refine blk_alloc ?_ _)); exact BK_gb1.out) HBc); have BKn_gb4 : Aside0 (w9.heap[gb4]? = some (.cells #[.slice A_a 2 c_a, .int .i64 0] 30 (0, 0))) := Aside0.mk (blk_below (g := gb4) (by (with_reducible repeat (first | refine blk_drewN ?_ _ | refine blk_drew ?_ | refine blk_alloc ?_ _)); exact BK_gb4.out) HBc); have BKn_gb6 : Aside0 (w9.heap[gb6]? = some (.cells #[.slice A_c 0 c_c, .int .i64 2] 30 (0, 0))) := Aside0.mk (blk_below (g := gb6) (by (with_reducible repeat (first | refine blk_drewN ?_ _ | refine blk_drew ?_ | refine blk_alloc ?_ _)); exact BK_gb6.out) HBc); have HB0n := Aside0.mk (below_step (by repeat (first | (with_reducible first | exact HB0.out | apply below_alloc | apply pw_below_drewN | apply below_drew1 | refine below_set ?_ GE0_gb1.out | refine below_set ?_ GE0_gb4.out | refine below_set ?_ GE0_gb6.out) | exact HB0.out)) HBc); have HB_bn := Aside0.mk (below_step (by repeat (first | (with_reducible first | exact HB_b.out | apply below_alloc | apply pw_below_drewN | apply below_drew1 | refine below_set ?_ GEb_gb4.out | refine below_set ?_ GEb_gb6.out) | exact HB_b.out)) HBc); have HB_an := Aside0.mk (below_step (by repeat (first | (with_reducible first | exact HB_a.out | apply below_alloc | apply pw_below_drewN | apply below_drew1 | refine below_set ?_ GEa_gb4.out | refine below_set ?_ GEa_gb6.out) | exact HB_a.out)) HBc); have HB_cn := Aside0.mk (below_step (by repeat (first | (with_reducible first | exact HB_c.out | apply below_alloc | apply pw_below_drewN | apply below_drew1 | refine below_set ?_ GEc_gb6.out) | exact HB_c.out)) HBc); clear HBc BK_gb1 BK_gb4 BK_gb6 HB0 HB_b HB_a HB_c hczq19_0 hfzq19_0 hczq19_1 hfzq19_1 hczq19_2 hfzq19_2 hczq19_3 hfzq19_3 hczq19_4 hfzq19_4 hczq19_5 hfzq19_5 hczq19_6 hfzq19_6 hczq20_0 hfzq20_0 hczq20_1 hfzq20_1 hczq21_0 hfzq21_0 hczq21_1 hfzq21_1 hnq22 hmq22 hnq23 hmq23 hnq24 hmq24; have BK_gb1 := BKn_gb1; have BK_gb4 := BKn_gb4; have BK_gb6 := BKn_gb6; have HB0 := HB0n; have HB_b := HB_bn; have HB_a := HB_an; have HB_c := HB_cn; clear BKn_gb1 BKn_gb4 BKn_gb6 HB0n HB_bn HB_an HB_cn; have HV_d := Aside0.mk HV0_d; have HC_d := Aside0.mk HC0_d; clear HV0_d HC0_d; have HB_d := Aside0.mk (Below.refl w9.heap.size w9); have hczq25_0 : w9.cell? ⟨gb1, 0, none⟩ = some (.int .i64 3) := (blk_cell BK_gb1.out 0).trans rfl; have hfzq25_0 := blk_frozen BK_gb1.out 0; have hczq25_1 : w9.cell? ⟨gb1, 1, none⟩ = some (.int .i64 16) := (blk_cell BK_gb1.out 1).trans rfl; have hfzq25_1 := blk_frozen BK_gb1.out 1; have hczq25_2 : w9.cell? ⟨gb1, 2, none⟩ = some (.int .i64 2) := (blk_cell BK_gb1.out 2).trans rfl; have hfzq25_2 := blk_frozen BK_gb1.out 2; have hczq25_3 : w9.cell? ⟨gb1, 3, none⟩ = some (.slice none 0 0) := (blk_cell BK_gb1.out 3).trans rfl; have hfzq25_3 := blk_frozen BK_gb1.out 3; have hczq25_4 : w9.cell? ⟨gb1, 4, none⟩ = some (.int .i64 0) := (blk_cell BK_gb1.out 4).trans rfl; have hfzq25_4 := blk_frozen BK_gb1.out 4; have hczq25_5 : w9.cell? ⟨gb1, 5, none⟩ = some (.int .i64 0) := (blk_cell BK_gb1.out 5).trans rfl; have hfzq25_5 := blk_frozen BK_gb1.out 5; have hczq25_6 : w9.cell? ⟨gb1, 6, none⟩ = some (.int .i64 0) := (blk_cell BK_gb1.out 6).trans rfl; have hfzq25_6 := blk_frozen BK_gb1.out 6; have hczq26_0 : w9.cell? ⟨gb4, 0, none⟩ = some (.slice A_a 2 c_a) := (blk_cell BK_gb4.out 0).trans rfl; have hfzq26_0 := blk_frozen BK_gb4.out 0; have hczq26_1 : w9.cell? ⟨gb4, 1, none⟩ = some (.int .i64 0) := (blk_cell BK_gb4.out 1).trans rfl; have hfzq26_1 := blk_frozen BK_gb4.out 1; have hczq27_0 : w9.cell? ⟨gb6, 0, none⟩ = some (.slice A_c 0 c_c) := (blk_cell BK_gb6.out 0).trans rfl; have hfzq27_0 := blk_frozen BK_gb6.out 0; have hczq27_1 : w9.cell? ⟨gb6, 1, none⟩ = some (.int .i64 2) := (blk_cell BK_gb6.out 1).trans rfl; have hfzq27_1 := blk_frozen BK_gb6.out 1; have hnq28 := NB_gb1_gb4.out; have hmq28 := NB_gb4_gb1.out; have hnq29 := NB_gb1_gb6.out; have hmq29 := NB_gb6_gb1.out; have hnq30 := NB_gb4_gb6.out; have hmq30 := NB_gb6_gb4.out) | ((with_reducible refine gate_dst (N := 8) rfl ?_); refine box_event ?hg (N := 8) ?hd (cs := #[.int .i64 0, .int .i64 0, .int .i64 0, .slice none 0 0, .int .i64 0, .int .i64 0, .int .i64 0]) (t := 24) ?hr ?_; (case hd => rfl); (case hg => rfl); (case hr => first | (go_simp; done) | (go_simp; rfl)); intro gb8 hg w10 hbox HBc; have GE0_gb8 : Aside0 (w.heap.size ≤ gb8) := Aside0.mk (by rw [hg]; exact (below_size (by repeat (first | (with_reducible first | exact HB0.out | apply below_alloc | apply pw_below_drewN | apply below_drew1 | refine below_set ?_ GE0_gb1.out | refine below_set ?_ GE0_gb4.out | refine below_set ?_ GE0_gb6.out) | exact HB0.out)))); have GEb_gb8 : Aside0 (w2.heap.size ≤ gb8) := Aside0.mk (by rw [hg]; exact (below_size (by repeat (first | (with_reducible first | exact HB_b.out | apply below_alloc | apply pw_below_drewN | apply below_drew1 | refine below_set ?_ GEb_gb4.out | refine below_set ?_ GEb_gb6.out) | exact HB_b.out)))); have GEa_gb8 : Aside0 (w3.heap.size ≤ gb8) := Aside0.mk (by rw [hg]; exact (below_size (by repeat (first | (with_reducible first | exact HB_a.out | apply below_alloc | apply pw_below_drewN | apply below_drew1 | refine below_set ?_ GEa_gb4.out | refine below_set ?_ GEa_gb6.out) | exact HB_a.out)))); have GEc_gb8 : Aside0 (w6.heap.size ≤ gb8) := Aside0.mk (by rw [hg]; exact (below_size (by repeat (first | (with_reducible first | exact HB_c.out | apply below_alloc | apply pw_below_drewN | apply below_drew1 | refine below_set ?_ GEc_gb6.out) | exact HB_c.out)))); have GEd_gb8 : Aside0 (w9.heap.size ≤ gb8) := Aside0.mk (by rw [hg]; exact (below_size (by repeat (first | (with_reducible first | exact HB_d.out | apply below_alloc | apply pw_below_drewN | apply below_drew1) | exact HB_d.out)))); have NB_gb1_gb8 : Aside0 (gb1 ≠ gb8) := Aside0.mk (ne_new (by (with_reducible repeat (first | refine blk_drewN ?_ _ | refine blk_drew ?_ | refine blk_alloc ?_ _)); exact BK_gb1.out) hg); have NB_gb8_gb1 : Aside0 (gb8 ≠ gb1) := Aside0.mk (fun e => NB_gb1_gb8.out e.symm); have NB_gb4_gb8 : Aside0 (gb4 ≠ gb8) := Aside0.mk (ne_new (by (with_reducible repeat (first | refine blk_drewN ?_ _ | refine blk_drew ?_ | refine blk_alloc ?_ _)); exact BK_gb4.out) hg); have NB_gb8_gb4 : Aside0 (gb8 ≠ gb4) := Aside0.mk (fun e => NB_gb4_gb8.out e.symm); have NB_gb6_gb8 : Aside0 (gb6 ≠ gb8) := Aside0.mk (ne_new (by (with_reducible repeat (first | refine blk_drewN ?_ _ | refine blk_drew ?_ | refine blk_alloc ?_ _)); exact BK_gb6.out) hg); have NB_gb8_gb6 : Aside0 (gb8 ≠ gb6) := Aside0.mk (fun e => NB_gb6_gb8.out e.symm); clear hg; have BKn_gb1 : Aside0 (w10.heap[gb1]? = some (.cells #[.int .i64 3, .int .i64 16, .int .i64 2, .slice none 0 0, .int .i64 0, .int .i64 0, .int .i64 0] 24 (0, 0))) := Aside0.mk (blk_below (g := gb1) (by (with_reducible repeat (first | refine blk_drewN ?_ _ | refine blk_drew ?_ | refine blk_alloc ?_ _)); exact BK_gb1.out) HBc); have BKn_gb4 : Aside0 (w10.heap[gb4]? = some (.cells #[.slice A_a 2 c_a, .int .i64 0] 30 (0, 0))) := Aside0.mk (blk_below (g := gb4) (by (with_reducible repeat (first | refine blk_drewN ?_ _ | refine blk_drew ?_ | refine blk_alloc ?_ _)); exact BK_gb4.out) HBc); have BKn_gb6 : Aside0 (w10.heap[gb6]? = some (.cells #[.slice A_c 0 c_c, .int .i64 2] 30 (0, 0))) := Aside0.mk (blk_below (g := gb6) (by (with_reducible repeat (first | refine blk_drewN ?_ _ | refine blk_drew ?_ | refine blk_alloc ?_ _)); exact BK_gb6.out) HBc); have HB0n := Aside0.mk (below_step (by repeat (first | (with_reducible first | exact HB0.out | apply below_alloc | apply pw_below_drewN | apply below_drew1 | refine below_set ?_ GE0_gb1.out | refine below_set ?_ GE0_gb4.out | refine below_set ?_ GE0_gb6.out | refine below_set ?_ GE0_gb8.out) | exact HB0.out)) HBc); have HB_bn := Aside0.mk (below_step (by repeat (first | (with_reducible first | exact HB_b.out | apply below_alloc | apply pw_below_drewN | apply below_drew1 | refine below_set ?_ GEb_gb4.out | refine below_set ?_ GEb_gb6.out | refine below_set ?_ GEb_gb8.out) | exact HB_b.out)) HBc); have HB_an := Aside0.mk (below_step (by repeat (first | (with_reducible first | exact HB_a.out | apply below_alloc | apply pw_below_drewN | apply below_drew1 | refine below_set ?_ GEa_gb4.out | refine below_set ?_ GEa_gb6.out | refine below_set ?_ GEa_gb8.out) | exact HB_a.out)) HBc); have HB_cn := Aside0.mk (below_step (by repeat (first | (with_reducible first | exact HB_c.out | apply below_alloc | apply pw_below_drewN | apply below_drew1 | refine below_set ?_ GEc_gb6.out | refine below_set ?_ GEc_gb8.out) | exact HB_c.out)) HBc); have HB_dn := Aside0.mk (below_step (by repeat (first | (with_reducible first | exact HB_d.out | apply below_alloc | apply pw_below_drewN | apply below_drew1 | refine below_set ?_ GEd_gb8.out) | exact HB_d.out)) HBc); clear HBc BK_gb1 BK_gb4 BK_gb6 HB0 HB_b HB_a HB_c HB_d hczq25_0 hfzq25_0 hczq25_1 hfzq25_1 hczq25_2 hfzq25_2 hczq25_3 hfzq25_3 hczq25_4 hfzq25_4 hczq25_5 hfzq25_5 hczq25_6 hfzq25_6 hczq26_0 hfzq26_0 hczq26_1 hfzq26_1 hczq27_0 hfzq27_0 hczq27_1 hfzq27_1 hnq28 hmq28 hnq29 hmq29 hnq30 hmq30; have BK_gb1 := BKn_gb1; have BK_gb4 := BKn_gb4; have BK_gb6 := BKn_gb6; have HB0 := HB0n; have HB_b := HB_bn; have HB_a := HB_an; have HB_c := HB_cn; have HB_d := HB_dn; clear BKn_gb1 BKn_gb4 BKn_gb6 HB0n HB_bn HB_an HB_cn HB_dn; have BK_gb8 := Aside0.mk hbox; clear hbox; have hczq31_0 : w10.cell? ⟨gb1, 0, none⟩ = some (.int .i64 3) := (blk_cell BK_gb1.out 0).trans rfl; have hfzq31_0 := blk_frozen BK_gb1.out 0; have hczq31_1 : w10.cell? ⟨gb1, 1, none⟩ = some (.int .i64 16) := (blk_cell BK_gb1.out 1).trans rfl; have hfzq31_1 := blk_frozen BK_gb1.out 1; have hczq31_2 : w10.cell? ⟨gb1, 2, none⟩ = some (.int .i64 2) := (blk_cell BK_gb1.out 2).trans rfl; have hfzq31_2 := blk_frozen BK_gb1.out 2; have hczq31_3 : w10.cell? ⟨gb1, 3, none⟩ = some (.slice none 0 0) := (blk_cell BK_gb1.out 3).trans rfl; have hfzq31_3 := blk_frozen BK_gb1.out 3; have hczq31_4 : w10.cell? ⟨gb1, 4, none⟩ = some (.int .i64 0) := (blk_cell BK_gb1.out 4).trans rfl; have hfzq31_4 := blk_frozen BK_gb1.out 4; have hczq31_5 : w10.cell? ⟨gb1, 5, none⟩ = some (.int .i64 0) := (blk_cell BK_gb1.out 5).trans rfl; have hfzq31_5 := blk_frozen BK_gb1.out 5; have hczq31_6 : w10.cell? ⟨gb1, 6, none⟩ = some (.int .i64 0) := (blk_cell BK_gb1.out 6).trans rfl; have hfzq31_6 := blk_frozen BK_gb1.out 6; have hczq32_0 : w10.cell? ⟨gb4, 0, none⟩ = some (.slice A_a 2 c_a) := (blk_cell BK_gb4.out 0).trans rfl; have hfzq32_0 := blk_frozen BK_gb4.out 0; have hczq32_1 : w10.cell? ⟨gb4, 1, none⟩ = some (.int .i64 0) := (blk_cell BK_gb4.out 1).trans rfl; have hfzq32_1 := blk_frozen BK_gb4.out 1; have hczq33_0 : w10.cell? ⟨gb6, 0, none⟩ = some (.slice A_c 0 c_c) := (blk_cell BK_gb6.out 0).trans rfl; have hfzq33_0 := blk_frozen BK_gb6.out 0; have hczq33_1 : w10.cell? ⟨gb6, 1, none⟩ = some (.int .i64 2) := (blk_cell BK_gb6.out 1).trans rfl; have hfzq33_1 := blk_frozen BK_gb6.out 1; have hczq34_0 : w10.cell? ⟨gb8, 0, none⟩ = some (.int .i64 0) := (blk_cell BK_gb8.out 0).trans rfl; have hfzq34_0 := blk_frozen BK_gb8.out 0; have hczq34_1 : w10.cell? ⟨gb8, 1, none⟩ = some (.int .i64 0) := (blk_cell BK_gb8.out 1).trans rfl; have hfzq34_1 := blk_frozen BK_gb8.out 1; have hczq34_2 : w10.cell? ⟨gb8, 2, none⟩ = some (.int .i64 0) := (blk_cell BK_gb8.out 2).trans rfl; have hfzq34_2 := blk_frozen BK_gb8.out 2; have hczq34_3 : w10.cell? ⟨gb8, 3, none⟩ = some (.slice none 0 0) := (blk_cell BK_gb8.out 3).trans rfl; have hfzq34_3 := blk_frozen BK_gb8.out 3; have hczq34_4 : w10.cell? ⟨gb8, 4, none⟩ = some (.int .i64 0) := (blk_cell BK_gb8.out 4).trans rfl; have hfzq34_4 := blk_frozen BK_gb8.out 4; have hczq34_5 : w10.cell? ⟨gb8, 5, none⟩ = some (.int .i64 0) := (blk_cell BK_gb8.out 5).trans rfl; have hfzq34_5 := blk_frozen BK_gb8.out 5; have hczq34_6 : w10.cell? ⟨gb8, 6, none⟩ = some (.int .i64 0) := (blk_cell BK_gb8.out 6).trans rfl; have hfzq34_6 := blk_frozen BK_gb8.out 6; have hnq35 := NB_gb1_gb4.out; have hmq35 := NB_gb4_gb1.out; have hnq36 := NB_gb1_gb6.out; have hmq36 := NB_gb6_gb1.out; have hnq37 := NB_gb1_gb8.out; have hmq37 := NB_gb8_gb1.out; have hnq38 := NB_gb4_gb6.out; have hmq38 := NB_gb6_gb4.out; have hnq39 := NB_gb4_gb8.out; have hmq39 := NB_gb8_gb4.out; have hnq40 := NB_gb6_gb8.out; have hmq40 := NB_gb8_gb6.out))
  have BKn_gb1 : Aside0 ((((((((w10.setCell ⟨gb8, 0, none⟩ (.int .i64 0)).setCell ⟨gb8, 1, none⟩ (.int .i64 0)).setCell ⟨gb8, 2, none⟩ (.int .i64 0)).setCell ⟨gb8, 3, none⟩ (.slice A_d 0 c_d)).setCell ⟨gb8, 4, none⟩ (.int .i64 0)).setCell ⟨gb8, 5, none⟩ (.int .i64 0)).setCell ⟨gb8, 6, none⟩ (.int .i64 0)).heap[gb1]? = some (.cells #[.int .i64 3, .int .i64 16, .int .i64 2, .slice none 0 0, .int .i64 0, .int .i64 0, .int .i64 0] 24 (0, 0))) := Aside0.mk (by (with_reducible repeat (first | refine blk_drewN ?_ _ | refine blk_drew ?_ | refine blk_alloc ?_ _)); refine blk_far ?_ NB_gb1_gb8.out _; (with_reducible repeat (first | refine blk_drewN ?_ _ | refine blk_drew ?_ | refine blk_alloc ?_ _)); refine blk_far ?_ NB_gb1_gb8.out _; (with_reducible repeat (first | refine blk_drewN ?_ _ | refine blk_drew ?_ | refine blk_alloc ?_ _)); refine blk_far ?_ NB_gb1_gb8.out _; (with_reducible repeat (first | refine blk_drewN ?_ _ | refine blk_drew ?_ | refine blk_alloc ?_ _)); refine blk_far ?_ NB_gb1_gb8.out _; (with_reducible repeat (first | refine blk_drewN ?_ _ | refine blk_drew ?_ | refine blk_alloc ?_ _)); refine blk_far ?_ NB_gb1_gb8.out _; (with_reducible repeat (first | refine blk_drewN ?_ _ | refine blk_drew ?_ | refine blk_alloc ?_ _)); refine blk_far ?_ NB_gb1_gb8.out _; (with_reducible repeat (first | refine blk_drewN ?_ _ | refine blk_drew ?_ | refine blk_alloc ?_ _)); refine blk_far ?_ NB_gb1_gb8.out _; (with_reducible repeat (first | refine blk_drewN ?_ _ | refine blk_drew ?_ | refine blk_alloc ?_ _)); exact BK_gb1.out)
  have BKn_gb4 : Aside0 ((((((((w10.setCell ⟨gb8, 0, none⟩ (.int .i64 0)).setCell ⟨gb8, 1, none⟩ (.int .i64 0)).setCell ⟨gb8, 2, none⟩ (.int .i64 0)).setCell ⟨gb8, 3, none⟩ (.slice A_d 0 c_d)).setCell ⟨gb8, 4, none⟩ (.int .i64 0)).setCell ⟨gb8, 5, none⟩ (.int .i64 0)).setCell ⟨gb8, 6, none⟩ (.int .i64 0)).heap[gb4]? = some (.cells #[.slice A_a 2 c_a, .int .i64 0] 30 (0, 0))) := Aside0.mk (by (with_reducible repeat (first | refine blk_drewN ?_ _ | refine blk_drew ?_ | refine blk_alloc ?_ _)); refine blk_far ?_ NB_gb4_gb8.out _; (with_reducible repeat (first | refine blk_drewN ?_ _ | refine blk_drew ?_ | refine blk_alloc ?_ _)); refine blk_far ?_ NB_gb4_gb8.out _; (with_reducible repeat (first | refine blk_drewN ?_ _ | refine blk_drew ?_ | refine blk_alloc ?_ _)); refine blk_far ?_ NB_gb4_gb8.out _; (with_reducible repeat (first | refine blk_drewN ?_ _ | refine blk_drew ?_ | refine blk_alloc ?_ _)); refine blk_far ?_ NB_gb4_gb8.out _; (with_reducible repeat (first | refine blk_drewN ?_ _ | refine blk_drew ?_ | refine blk_alloc ?_ _)); refine blk_far ?_ NB_gb4_gb8.out _; (with_reducible repeat (first | refine blk_drewN ?_ _ | refine blk_drew ?_ | refine blk_alloc ?_ _)); refine blk_far ?_ NB_gb4_gb8.out _; (with_reducible repeat (first | refine blk_drewN ?_ _ | refine blk_drew ?_ | refine blk_alloc ?_ _)); refine blk_far ?_ NB_gb4_gb8.out _; (with_reducible repeat (first | refine blk_drewN ?_ _ | refine blk_drew ?_ | refine blk_alloc ?_ _)); exact BK_gb4.out)
  have BKn_gb6 : Aside0 ((((((((w10.setCell ⟨gb8, 0, none⟩ (.int .i64 0)).setCell ⟨gb8, 1, none⟩ (.int .i64 0)).setCell ⟨gb8, 2, none⟩ (.int .i64 0)).setCell ⟨gb8, 3, none⟩ (.slice A_d 0 c_d)).setCell ⟨gb8, 4, none⟩ (.int .i64 0)).setCell ⟨gb8, 5, none⟩ (.int .i64 0)).setCell ⟨gb8, 6, none⟩ (.int .i64 0)).heap[gb6]? = some (.cells #[.slice A_c 0 c_c, .int .i64 2] 30 (0, 0))) := Aside0.mk (by (with_reducible repeat (first | refine blk_drewN ?_ _ | refine blk_drew ?_ | refine blk_alloc ?_ _)); refine blk_far ?_ NB_gb6_gb8.out _; (with_reducible repeat (first | refine blk_drewN ?_ _ | refine blk_drew ?_ | refine blk_alloc ?_ _)); refine blk_far ?_ NB_gb6_gb8.out _; (with_reducible repeat (first | refine blk_drewN ?_ _ | refine blk_drew ?_ | refine blk_alloc ?_ _)); refine blk_far ?_ NB_gb6_gb8.out _; (with_reducible repeat (first | refine blk_drewN ?_ _ | refine blk_drew ?_ | refine blk_alloc ?_ _)); refine blk_far ?_ NB_gb6_gb8.out _; (with_reducible repeat (first | refine blk_drewN ?_ _ | refine blk_drew ?_ | refine blk_alloc ?_ _)); refine blk_far ?_ NB_gb6_gb8.out _; (with_reducible repeat (first | refine blk_drewN ?_ _ | refine blk_drew ?_ | refine blk_alloc ?_ _)); refine blk_far ?_ NB_gb6_gb8.out _; (with_reducible repeat (first | refine blk_drewN ?_ _ | refine blk_drew ?_ | refine blk_alloc ?_ _)); refine blk_far ?_ NB_gb6_gb8.out _; (with_reducible repeat (first | refine blk_drewN ?_ _ | refine blk_drew ?_ | refine blk_alloc ?_ _)); exact BK_gb6.out)
  have BKn_gb8 : Aside0 ((((((((w10.setCell ⟨gb8, 0, none⟩ (.int .i64 0)).setCell ⟨gb8, 1, none⟩ (.int .i64 0)).setCell ⟨gb8, 2, none⟩ (.int .i64 0)).setCell ⟨gb8, 3, none⟩ (.slice A_d 0 c_d)).setCell ⟨gb8, 4, none⟩ (.int .i64 0)).setCell ⟨gb8, 5, none⟩ (.int .i64 0)).setCell ⟨gb8, 6, none⟩ (.int .i64 0)).heap[gb8]? = some (.cells #[.int .i64 0, .int .i64 0, .int .i64 0, .slice A_d 0 c_d, .int .i64 0, .int .i64 0, .int .i64 0] 24 (0, 0))) := Aside0.mk (by (with_reducible repeat (first | refine blk_drewN ?_ _ | refine blk_drew ?_ | refine blk_alloc ?_ _)); refine blk_put (cs := #[.int .i64 0, .int .i64 0, .int .i64 0, .slice A_d 0 c_d, .int .i64 0, .int .i64 0, .int .i64 0]) ?_ 6 _ rfl; (with_reducible repeat (first | refine blk_drewN ?_ _ | refine blk_drew ?_ | refine blk_alloc ?_ _)); refine blk_put (cs := #[.int .i64 0, .int .i64 0, .int .i64 0, .slice A_d 0 c_d, .int .i64 0, .int .i64 0, .int .i64 0]) ?_ 5 _ rfl; (with_reducible repeat (first | refine blk_drewN ?_ _ | refine blk_drew ?_ | refine blk_alloc ?_ _)); refine blk_put (cs := #[.int .i64 0, .int .i64 0, .int .i64 0, .slice A_d 0 c_d, .int .i64 0, .int .i64 0, .int .i64 0]) ?_ 4 _ rfl; (with_reducible repeat (first | refine blk_drewN ?_ _ | refine blk_drew ?_ | refine blk_alloc ?_ _)); refine blk_put (cs := #[.int .i64 0, .int .i64 0, .int .i64 0, .slice none 0 0, .int .i64 0, .int .i64 0, .int .i64 0]) ?_ 3 _ rfl; (with_reducible repeat (first | refine blk_drewN ?_ _ | refine blk_drew ?_ | refine blk_alloc ?_ _)); refine blk_put (cs := #[.int .i64 0, .int .i64 0, .int .i64 0, .slice none 0 0, .int .i64 0, .int .i64 0, .int .i64 0]) ?_ 2 _ rfl; (with_reducible repeat (first | refine blk_drewN ?_ _ | refine blk_drew ?_ | refine blk_alloc ?_ _)); refine blk_put (cs := #[.int .i64 0, .int .i64 0, .int .i64 0, .slice none 0 0, .int .i64 0, .int .i64 0, .int .i64 0]) ?_ 1 _ rfl; (with_reducible repeat (first | refine blk_drewN ?_ _ | refine blk_drew ?_ | refine blk_alloc ?_ _)); refine blk_put (cs := #[.int .i64 0, .int .i64 0, .int .i64 0, .slice none 0 0, .int .i64 0, .int .i64 0, .int .i64 0]) ?_ 0 _ rfl; (with_reducible repeat (first | refine blk_drewN ?_ _ | refine blk_drew ?_ | refine blk_alloc ?_ _)); exact BK_gb8.out)
  have HB0n : Aside0 (Below w.heap.size w (((((((w10.setCell ⟨gb8, 0, none⟩ (.int .i64 0)).setCell ⟨gb8, 1, none⟩ (.int .i64 0)).setCell ⟨gb8, 2, none⟩ (.int .i64 0)).setCell ⟨gb8, 3, none⟩ (.slice A_d 0 c_d)).setCell ⟨gb8, 4, none⟩ (.int .i64 0)).setCell ⟨gb8, 5, none⟩ (.int .i64 0)).setCell ⟨gb8, 6, none⟩ (.int .i64 0))) := Aside0.mk (by repeat (first | (with_reducible first | exact HB0.out | apply below_alloc | apply pw_below_drewN | apply below_drew1 | refine below_set ?_ GE0_gb1.out | refine below_set ?_ GE0_gb4.out | refine below_set ?_ GE0_gb6.out | refine below_set ?_ GE0_gb8.out) | exact HB0.out))
  have HB_bn : Aside0 (Below w2.heap.size w2 (((((((w10.setCell ⟨gb8, 0, none⟩ (.int .i64 0)).setCell ⟨gb8, 1, none⟩ (.int .i64 0)).setCell ⟨gb8, 2, none⟩ (.int .i64 0)).setCell ⟨gb8, 3, none⟩ (.slice A_d 0 c_d)).setCell ⟨gb8, 4, none⟩ (.int .i64 0)).setCell ⟨gb8, 5, none⟩ (.int .i64 0)).setCell ⟨gb8, 6, none⟩ (.int .i64 0))) := Aside0.mk (by repeat (first | (with_reducible first | exact HB_b.out | apply below_alloc | apply pw_below_drewN | apply below_drew1 | refine below_set ?_ GEb_gb4.out | refine below_set ?_ GEb_gb6.out | refine below_set ?_ GEb_gb8.out) | exact HB_b.out))
  have HB_an : Aside0 (Below w3.heap.size w3 (((((((w10.setCell ⟨gb8, 0, none⟩ (.int .i64 0)).setCell ⟨gb8, 1, none⟩ (.int .i64 0)).setCell ⟨gb8, 2, none⟩ (.int .i64 0)).setCell ⟨gb8, 3, none⟩ (.slice A_d 0 c_d)).setCell ⟨gb8, 4, none⟩ (.int .i64 0)).setCell ⟨gb8, 5, none⟩ (.int .i64 0)).setCell ⟨gb8, 6, none⟩ (.int .i64 0))) := Aside0.mk (by repeat (first | (with_reducible first | exact HB_a.out | apply below_alloc | apply pw_below_drewN | apply below_drew1 | refine below_set ?_ GEa_gb4.out | refine below_set ?_ GEa_gb6.out | refine below_set ?_ GEa_gb8.out) | exact HB_a.out))
  have HB_cn : Aside0 (Below w6.heap.size w6 (((((((w10.setCell ⟨gb8, 0, none⟩ (.int .i64 0)).setCell ⟨gb8, 1, none⟩ (.int .i64 0)).setCell ⟨gb8, 2, none⟩ (.int .i64 0)).setCell ⟨gb8, 3, none⟩ (.slice A_d 0 c_d)).setCell ⟨gb8, 4, none⟩ (.int .i64 0)).setCell ⟨gb8, 5, none⟩ (.int .i64 0)).setCell ⟨gb8, 6, none⟩ (.int .i64 0))) := Aside0.mk (by repeat (first | (with_reducible first | exact HB_c.out | apply below_alloc | apply pw_below_drewN | apply below_drew1 | refine below_set ?_ GEc_gb6.out | refine below_set ?_ GEc_gb8.out) | exact HB_c.out))
  have HB_dn : Aside0 (Below w9.heap.size w9 (((((((w10.setCell ⟨gb8, 0, none⟩ (.int .i64 0)).setCell ⟨gb8, 1, none⟩ (.int .i64 0)).setCell ⟨gb8, 2, none⟩ (.int .i64 0)).setCell ⟨gb8, 3, none⟩ (.slice A_d 0 c_d)).setCell ⟨gb8, 4, none⟩ (.int .i64 0)).setCell ⟨gb8, 5, none⟩ (.int .i64 0)).setCell ⟨gb8, 6, none⟩ (.int .i64 0))) := Aside0.mk (by repeat (first | (with_reducible first | exact HB_d.out | apply below_alloc | apply pw_below_drewN | apply below_drew1 | refine below_set ?_ GEd_gb8.out) | exact HB_d.out))
  clear BK_gb1 BK_gb4 BK_gb6 BK_gb8 HB0 HB_b HB_a HB_c HB_d hczq31_0 hfzq31_0 hczq31_1 hfzq31_1 hczq31_2 hfzq31_2 hczq31_3 hfzq31_3 hczq31_4 hfzq31_4 hczq31_5 hfzq31_5 hczq31_6 hfzq31_6 hczq32_0 hfzq32_0 hczq32_1 hfzq32_1 hczq33_0 hfzq33_0 hczq33_1 hfzq33_1 hczq34_0 hfzq34_0 hczq34_1 hfzq34_1 hczq34_2 hfzq34_2 hczq34_3 hfzq34_3 hczq34_4 hfzq34_4 hczq34_5 hfzq34_5 hczq34_6 hfzq34_6 hnq35 hmq35 hnq36 hmq36 hnq37 hmq37 hnq38 hmq38 hnq39 hmq39 hnq40 hmq40
  have BK_gb1 := BKn_gb1
  have BK_gb4 := BKn_gb4
  have BK_gb6 := BKn_gb6
  have BK_gb8 := BKn_gb8
  have HB0 := HB0n
  have HB_b := HB_bn
  have HB_a := HB_an
  have HB_c := HB_cn
  have HB_d := HB_dn
  clear BKn_gb1 BKn_gb4 BKn_gb6 BKn_gb8 HB0n HB_bn HB_an HB_cn HB_dn
  generalize (((((((w10.setCell ⟨gb8, 0, none⟩ (.int .i64 0)).setCell ⟨gb8, 1, none⟩ (.int .i64 0)).setCell ⟨gb8, 2, none⟩ (.int .i64 0)).setCell ⟨gb8, 3, none⟩ (.slice A_d 0 c_d)).setCell ⟨gb8, 4, none⟩ (.int .i64 0)).setCell ⟨gb8, 5, none⟩ (.int .i64 0)).setCell ⟨gb8, 6, none⟩ (.int .i64 0)) = w11 at BK_gb1 BK_gb4 BK_gb6 BK_gb8 HB0 HB_b HB_a HB_c HB_d ⊢
  have hczq41_0 : w11.cell? ⟨gb1, 0, none⟩ = some (.int .i64 3) := (blk_cell BK_gb1.out 0).trans rfl; have hfzq41_0 := blk_frozen BK_gb1.out 0; have hczq41_1 : w11.cell? ⟨gb1, 1, none⟩ = some (.int .i64 16) := (blk_cell BK_gb1.out 1).trans rfl; have hfzq41_1 := blk_frozen BK_gb1.out 1; have hczq41_2 : w11.cell? ⟨gb1, 2, none⟩ = some (.int .i64 2) := (blk_cell BK_gb1.out 2).trans rfl; have hfzq41_2 := blk_frozen BK_gb1.out 2; have hczq41_3 : w11.cell? ⟨gb1, 3, none⟩ = some (.slice none 0 0) := (blk_cell BK_gb1.out 3).trans rfl; have hfzq41_3 := blk_frozen BK_gb1.out 3; have hczq41_4 : w11.cell? ⟨gb1, 4, none⟩ = some (.int .i64 0) := (blk_cell BK_gb1.out 4).trans rfl; have hfzq41_4 := blk_frozen BK_gb1.out 4; have hczq41_5 : w11.cell? ⟨gb1, 5, none⟩ = some (.int .i64 0) := (blk_cell BK_gb1.out 5).trans rfl; have hfzq41_5 := blk_frozen BK_gb1.out 5; have hczq41_6 : w11.cell? ⟨gb1, 6, none⟩ = some (.int .i64 0) := (blk_cell BK_gb1.out 6).trans rfl; have hfzq41_6 := blk_frozen BK_gb1.out 6
  have hczq42_0 : w11.cell? ⟨gb4, 0, none⟩ = some (.slice A_a 2 c_a) := (blk_cell BK_gb4.out 0).trans rfl; have hfzq42_0 := blk_frozen BK_gb4.out 0; have hczq42_1 : w11.cell? ⟨gb4, 1, none⟩ = some (.int .i64 0) := (blk_cell BK_gb4.out 1).trans rfl; have hfzq42_1 := blk_frozen BK_gb4.out 1
  have hczq43_0 : w11.cell? ⟨gb6, 0, none⟩ = some (.slice A_c 0 c_c) := (blk_cell BK_gb6.out 0).trans rfl; have hfzq43_0 := blk_frozen BK_gb6.out 0; have hczq43_1 : w11.cell? ⟨gb6, 1, none⟩ = some (.int .i64 2) := (blk_cell BK_gb6.out 1).trans rfl; have hfzq43_1 := blk_frozen BK_gb6.out 1
  have hczq44_0 : w11.cell? ⟨gb8, 0, none⟩ = some (.int .i64 0) := (blk_cell BK_gb8.out 0).trans rfl; have hfzq44_0 := blk_frozen BK_gb8.out 0; have hczq44_1 : w11.cell? ⟨gb8, 1, none⟩ = some (.int .i64 0) := (blk_cell BK_gb8.out 1).trans rfl; have hfzq44_1 := blk_frozen BK_gb8.out 1; have hczq44_2 : w11.cell? ⟨gb8, 2, none⟩ = some (.int .i64 0) := (blk_cell BK_gb8.out 2).trans rfl; have hfzq44_2 := blk_frozen BK_gb8.out 2; have hczq44_3 : w11.cell? ⟨gb8, 3, none⟩ = some (.slice A_d 0 c_d) := (blk_cell BK_gb8.out 3).trans rfl; have hfzq44_3 := blk_frozen BK_gb8.out 3; have hczq44_4 : w11.cell? ⟨gb8, 4, none⟩ = some (.int .i64 0) := (blk_cell BK_gb8.out 4).trans rfl; have hfzq44_4 := blk_frozen BK_gb8.out 4; have hczq44_5 : w11.cell? ⟨gb8, 5, none⟩ = some (.int .i64 0) := (blk_cell BK_gb8.out 5).trans rfl; have hfzq44_5 := blk_frozen BK_gb8.out 5; have hczq44_6 : w11.cell? ⟨gb8, 6, none⟩ = some (.int .i64 0) := (blk_cell BK_gb8.out 6).trans rfl; have hfzq44_6 := blk_frozen BK_gb8.out 6
  have hnq45 := NB_gb1_gb4.out; have hmq45 := NB_gb4_gb1.out
  have hnq46 := NB_gb1_gb6.out; have hmq46 := NB_gb6_gb1.out
  have hnq47 := NB_gb1_gb8.out; have hmq47 := NB_gb8_gb1.out
  have hnq48 := NB_gb4_gb6.out; have hmq48 := NB_gb6_gb4.out
  have hnq49 := NB_gb4_gb8.out; have hmq49 := NB_gb8_gb4.out
  have hnq50 := NB_gb6_gb8.out; have hmq50 := NB_gb8_gb6.out
  have hcv : Sem.run Try.prog (convert 58 9 (.slice A_b 5 c_b)) w11 = .ok (.string ⟨#[3, 0, 16, 0, 2]⟩) w11 := Kd.C_string (P := Try.prog) (A := A_b) (c := c_b) Try.underlying58 Try.underlying5 Try.underlying9 (Kd.C_below HV_b.out (by repeat (first | (with_reducible first | exact HB_b.out | apply below_alloc | apply pw_below_drewN | apply below_drew1 | refine below_set ?_ GEb_gb4.out | refine below_set ?_ GEb_gb6.out | refine below_set ?_ GEb_gb8.out) | exact HB_b.out)))
  have hca : ∀ o, (w11.alloc o).cell? ⟨gb6, 1, none⟩ = some (.int .i64 2) := fun o => (blk_cell (blk_alloc BK_gb6.out o) 1).trans rfl
  go_wp2_with (go_at_call 42; refine (PR.basculeref01_Ints.calls 60 A_a c_a [1, 2] (some _) 2 [1, 2] true _ (Kd.C_below HV_a.out (by repeat (first | (with_reducible first | exact HB_a.out | apply below_alloc | apply pw_below_drewN | apply below_drew1 | refine below_set ?_ GEa_gb4.out | refine below_set ?_ GEa_gb6.out | refine below_set ?_ GEa_gb8.out) | exact HB_a.out))) HC_a.out (litI_C _ [1, 2] (by decide)) (Nat.le_refl _) aw5.out).mono ?_; rintro e w' ⟨rfl, ⟨nd, rfl⟩⟩)
  go_ret
  exact ⟨rfl, (by repeat (first | (with_reducible first | exact HB0.out | apply below_alloc | apply pw_below_drewN | apply below_drew1 | refine below_set ?_ GE0_gb1.out | refine below_set ?_ GE0_gb4.out | refine below_set ?_ GE0_gb6.out | refine below_set ?_ GE0_gb8.out) | exact HB0.out))⟩
end Go.Proofs.Ytocicifgglkaeaa.ExtQ
end

section
namespace Go.Proofs.Ytocicifgglkaeaa.MthD
open Go.RowKit Go.Proofs.YtocicifgglkaeaaW.PrintWords Go.Proofs.YtocicifgglkaeaaW.PrintLast Go.Proofs.YtocicifgglkaeaaW.PrintMore Go.Proofs.Ytocicifgglkaeaa.ExtF Go.Proofs.Ytocicifgglkaeaa.ExtP Go.Proofs.Ytocicifgglkaeaa.ExtQ Go.Proofs.Ytocicifgglkaeaa.PP Go.Proofs.Ytocicifgglkaeaa.PQ Go.Proofs.Ytocicifgglkaeaa.ExtM Go.Proofs.Ytocicifgglkaeaa.MathP Go.Proofs.Ytocicifgglkaeaa.Mth
set_option linter.unusedVariables false
set_option linter.unusedSimpArgs false
theorem part_bit {l : List Int} (hb : Bits l) (i : Nat) : ∀ (n m : Nat), m < n → MathP.part l i n / 2 ^ m % 2 = rd l ((i + m : Nat) : Int)
  | 0, m, h => by omega
  | n + 1, m, h => by
    have hp := part_range hb i n
    have hx := bits_rd hb ((i + n : Nat) : Int)
    show (MathP.part l i n + 2 ^ n * rd l ((i + n : Nat) : Int)) / 2 ^ m % 2 = _
    by_cases e : m = n
    · subst e
      have h0 : (0 : Int) < 2 ^ m := by have := hp; omega
      rw [Int.add_mul_ediv_left _ _ (by omega), Int.ediv_eq_zero_of_lt hp.1 hp.2]
      omega
    · have ih := part_bit hb i n m (by omega)
      obtain ⟨d, rfl⟩ : ∃ d, n = m + (d + 1) := ⟨n - m - 1, by omega⟩
      have h2 : (2 : Int) ^ (m + (d + 1)) = 2 ^ m * (2 * 2 ^ d) := by rw [Int.pow_add, Int.pow_succ]; congr 1; omega
      have h0 : (2 : Int) ^ m ≠ 0 := by have := part_range hb i m; omega
      rw [h2, Int.mul_assoc, Int.add_mul_ediv_left _ _ h0, Int.mul_assoc]
      generalize 2 ^ d * rd l ((i + (m + (d + 1)) : Nat) : Int) = y
      omega
theorem packs_rd {l : List Int} (j : Nat) (h : j < (packs l).length) : rd (packs l) (j : Int) = MathP.part l (8 * j) 8 := by
  rw [rd_nat j h]
  simp [packs]
theorem unbits_packs {l : List Int} (hb : Bits l) : unbits (packs l) l.length = l := by
  apply List.ext_getElem
  · rw [unbits_len]
  intro i h1 h2
  rw [unbits_len] at h1
  simp only [unbits, List.getElem_map, List.getElem_range]
  unfold bitOf
  rw [packs_rd (i / 8) (by rw [packs_len]; omega), part_bit hb _ 8 (i % 8) (by omega), show 8 * (i / 8) + i % 8 = i from by omega]
  exact rd_nat i h2
theorem unp_packs {l : List Int} (hb : Bits l) : unp (packs l) (l.length : Int) = l := by
  unfold unp
  rw [if_pos (by rw [packs_len]; omega), Int.toNat_natCast]
  exact unbits_packs hb
theorem lays_app (a b : List Int) : lays (a ++ b) = lays a ++ lays b := by simp [lays]
theorem rd_appL (a b : List Int) (j : Nat) (h : j < a.length) : rd (a ++ b) (j : Int) = rd a (j : Int) := by
  rw [rd_nat j h, rd_nat j (by simp; omega)]
  exact List.getElem_append_left h
theorem words_rd {xs rest : List Int} (hw : Words xs) (j : Nat) (h : j < xs.length) : rd (wordsOf (lays xs ++ rest)) (j : Int) = rd xs (j : Int) := by
  have hl : j < (wordsOf (lays xs ++ rest)).length := by rw [wordsOf_len, List.length_append, lays_len]; omega
  rw [rd_nat j hl]
  simp only [wordsOf, List.getElem_map, List.getElem_range]
  have hll := lays_len xs
  rw [rd_appL _ _ (2 * j) (by omega), rd_appL _ _ (2 * j + 1) (by omega)]
  have := lays_rd xs j h
  rw [this.1, this.2]
  omega
theorem one_list {l : List Int} (h : l.length = 1) : l = [rd l 0] := by
  match l, h with
  | [x], _ => rfl
theorem cand_req {fn a1 a2 : Int} {l : List Int} {a4 a5 a6 : Int} (I : MayIs fn a1 a2 l a4 a5 a6) :
    rd (reqB fn a1 a2 l a4 a5 a6) 0 = fn ∧ rd (wordsOf ((reqB fn a1 a2 l a4 a5 a6).drop 1)) 0 = a1 ∧ cand fn (reqB fn a1 a2 l a4 a5 a6) (wordsOf ((reqB fn a1 a2 l a4 a5 a6).drop 1)) = (a2, l, a4, a5, a6) := by
  have hfn := I.fns
  have hlen := I.len
  have ha := I.addr
  have hr0 : rd (reqB fn a1 a2 l a4 a5 a6) 0 = fn := by
    show fn % 256 = fn
    omega
  refine ⟨hr0, ?_⟩
  have hlr := reqB_len I
  have hd : (reqB fn a1 a2 l a4 a5 a6).drop 1 = lays [a1] ++ tailB fn a2 l a4 a5 a6 := by
    unfold reqB
    rfl
  have key : ∀ (xs rest : List Int), Words xs → tailB fn a2 l a4 a5 a6 = lays xs ++ rest → ∀ j : Nat, j < xs.length + 1 → rd (wordsOf ((reqB fn a1 a2 l a4 a5 a6).drop 1)) (j : Int) = rd (a1 :: xs) (j : Int) := by
    intro xs rest hw ht j hj
    rw [hd, ht, ← List.append_assoc, ← lays_app]
    exact words_rd (xs := a1 :: xs) (fun x hx => by rcases List.mem_cons.1 hx with rfl | h; exact ha; exact hw x h) j (by simpa using hj)
  generalize hB : reqB fn a1 a2 l a4 a5 a6 = B at *
  rcases hfn with rfl | rfl | rfl | rfl | rfl | rfl | rfl | rfl | rfl | rfl
  · have hc := I.cnt (by omega)
    have k := key [a2] [] (words1 (by omega)) (by simp [tailB])
    have k0 := k 0 (by simp); have k1 := k 1 (by simp)
    refine ⟨k0, ?_⟩
    have h4 := I.to0 (by omega); have h5 := I.m0 (by omega); have hl := I.nov (by omega)
    unfold cand
    rw [if_neg (by decide), if_neg (by decide), if_neg (by decide), if_neg (by decide), if_neg (by decide), if_neg (by decide), show rd (wordsOf (B.drop 1)) 1 = _ from k1, h4, h5.1, h5.2, hl]
    rfl
  · have hc := I.cnt (by omega)
    have k := key [a2] [] (words1 (by omega)) (by simp [tailB])
    have k0 := k 0 (by simp); have k1 := k 1 (by simp)
    refine ⟨k0, ?_⟩
    have h4 := I.to0 (by omega); have h5 := I.m0 (by omega); have hl := I.nov (by omega)
    unfold cand
    rw [if_neg (by decide), if_neg (by decide), if_neg (by decide), if_neg (by decide), if_neg (by decide), if_neg (by decide), show rd (wordsOf (B.drop 1)) 1 = _ from k1, h4, h5.1, h5.2, hl]
    rfl
  · have hc := I.cnt (by omega)
    have k := key [a2] [] (words1 (by omega)) (by simp [tailB])
    have k0 := k 0 (by simp); have k1 := k 1 (by simp)
    refine ⟨k0, ?_⟩
    have h4 := I.to0 (by omega); have h5 := I.m0 (by omega); have hl := I.nov (by omega)
    unfold cand
    rw [if_neg (by decide), if_neg (by decide), if_neg (by decide), if_neg (by decide), if_neg (by decide), if_neg (by decide), show rd (wordsOf (B.drop 1)) 1 = _ from k1, h4, h5.1, h5.2, hl]
    rfl
  · have hc := I.cnt (by omega)
    have k := key [a2] [] (words1 (by omega)) (by simp [tailB])
    have k0 := k 0 (by simp); have k1 := k 1 (by simp)
    refine ⟨k0, ?_⟩
    have h4 := I.to0 (by omega); have h5 := I.m0 (by omega); have hl := I.nov (by omega)
    unfold cand
    rw [if_neg (by decide), if_neg (by decide), if_neg (by decide), if_neg (by decide), if_neg (by decide), if_neg (by decide), show rd (wordsOf (B.drop 1)) 1 = _ from k1, h4, h5.1, h5.2, hl]
    rfl
  · have h1 := I.one (by omega)
    have hb := bits_rd (I.bits (by omega)) 0
    have k := key [65280 * rd l 0] [] (words1 (by omega)) (by simp [tailB])
    have k0 := k 0 (by simp); have k1 := k 1 (by simp)
    refine ⟨k0, ?_⟩
    have h2 := I.cnt0 (by omega); have h4 := I.to0 (by omega); have h5 := I.m0 (by omega)
    unfold cand
    rw [if_pos rfl, show rd (wordsOf (B.drop 1)) 1 = _ from k1, h4, h5.1, h5.2, h2]
    have : rd [a1, 65280 * rd l 0] ((1 : Nat) : Int) = 65280 * rd l 0 := rfl
    rw [this, show 65280 * rd l 0 / 65280 = rd l 0 from by omega, ← one_list h1]
  · have h1 := I.one (by omega)
    have hlt : 0 < l.length := by omega
    have hb : 0 ≤ rd l 0 ∧ rd l 0 ≤ 65535 := by
      have : rd l ((0 : Nat) : Int) = l[0] := rd_nat 0 hlt
      rw [show rd l 0 = _ from this]; exact I.wrds (by omega) _ (List.getElem_mem hlt)
    have k := key [rd l 0] [] (words1 hb) (by simp [tailB])
    have k0 := k 0 (by simp); have k1 := k 1 (by simp)
    refine ⟨k0, ?_⟩
    have h2 := I.cnt0 (by omega); have h4 := I.to0 (by omega); have h5 := I.m0 (by omega)
    unfold cand
    rw [if_neg (by decide), if_pos rfl, show rd (wordsOf (B.drop 1)) 1 = _ from k1, h4, h5.1, h5.2, h2]
    have : rd [a1, rd l 0] ((1 : Nat) : Int) = rd l 0 := rfl
    rw [this, ← one_list h1]
  · have hc := I.cntl (by omega)
    have k := key [a2] ((((packs l).length : Int) % 256) :: packs l) (words1 (by omega)) (by simp [tailB])
    have k0 := k 0 (by simp); have k1 := k 1 (by simp)
    refine ⟨k0, ?_⟩
    have h4 := I.to0 (by omega); have h5 := I.m0 (by omega)
    unfold cand
    rw [if_neg (by decide), if_neg (by decide), if_neg (by decide), if_pos rfl, show rd (wordsOf (B.drop 1)) 1 = _ from k1, h4, h5.1, h5.2]
    have e6 : B.drop (min 6 B.length) = packs l := by
      have : 6 ≤ B.length := by rw [hlr]; simp
      rw [Nat.min_eq_left this, ← hB]
      unfold reqB tailB
      rfl
    have : rd [a1, a2] ((1 : Nat) : Int) = a2 := rfl
    rw [e6, this, hc, unp_packs (I.bits (by omega))]
  · have hc := I.cntl (by omega)
    have k := key [a2] ((((lays l).length : Int) % 256) :: lays l) (words1 (by omega)) (by simp [tailB])
    have k0 := k 0 (by simp); have k1 := k 1 (by simp)
    refine ⟨k0, ?_⟩
    have h4 := I.to0 (by omega); have h5 := I.m0 (by omega)
    unfold cand
    rw [if_neg (by decide), if_neg (by decide), if_neg (by decide), if_neg (by decide), if_neg (by decide), if_pos rfl, show rd (wordsOf (B.drop 1)) 1 = _ from k1, h4, h5.1, h5.2]
    have e6 : B.drop (min 6 B.length) = lays l := by
      have : 6 ≤ B.length := by rw [hlr]; simp
      rw [Nat.min_eq_left this, ← hB]
      unfold reqB tailB
      rfl
    rw [e6, words_lays (I.wrds (by omega))]
    rfl
  · have k := key [a5, a6] [] (words2 I.m.1 I.m.2) (by simp [tailB])
    have k0 := k 0 (by simp); have k1 := k 1 (by simp); have k2 := k 2 (by simp)
    refine ⟨k0, ?_⟩
    have h2 := I.cnt0 (by omega); have h4 := I.to0 (by omega); have hl := I.nov (by omega)
    have hL : 2 < (wordsOf (B.drop 1)).length := by
      rw [wordsOf_len, List.length_drop, hlr]
      simp
    unfold cand
    rw [if_neg (by decide), if_neg (by decide), if_pos rfl, if_pos hL, show rd (wordsOf (B.drop 1)) 1 = _ from k1, show rd (wordsOf (B.drop 1)) 2 = _ from k2, h4, h2, hl]
    rfl
  · have hc := I.cnt (by omega)
    have hm := I.many (by omega)
    have k := key [a2, a4, (l.length : Int)] ((((lays l).length : Int) % 256) :: lays l) (words3 (by omega) I.tow (by omega)) (by simp [tailB])
    have k0 := k 0 (by simp); have k1 := k 1 (by simp); have k2 := k 2 (by simp)
    refine ⟨k0, ?_⟩
    have h5 := I.m0 (by omega)
    have hL : 2 < (wordsOf (B.drop 1)).length := by
      rw [wordsOf_len, List.length_drop, hlr]
      simp
      omega
    unfold cand
    rw [if_neg (by decide), if_neg (by decide), if_neg (by decide), if_neg (by decide), if_pos rfl, if_pos hL, show rd (wordsOf (B.drop 1)) 1 = _ from k1, show rd (wordsOf (B.drop 1)) 2 = _ from k2, h5.1, h5.2]
    have e10 : B.drop (min 10 B.length) = lays l := by
      have : 10 ≤ B.length := by rw [hlr]; simp
      rw [Nat.min_eq_left this, ← hB]
      unfold reqB tailB
      rfl
    rw [e10, words_lays (I.wrds (by omega))]
    rfl
theorem req_size {fn a1 a2 : Int} {l : List Int} {a4 a5 a6 : Int} (I : MayIs fn a1 a2 l a4 a5 a6) : 5 ≤ (reqB fn a1 a2 l a4 a5 a6).length ∧ (reqB fn a1 a2 l a4 a5 a6).length ≤ 10000 := by
  have h := reqB_len I
  have hl := I.len
  rw [h]
  split <;> (try split) <;> (try split) <;> (try split) <;> omega
theorem parse_req {fn a1 a2 : Int} {l : List Int} {a4 a5 a6 : Int} (h : mayB fn a1 a2 l a4 a5 a6 = true) : pdu_Parse.f (reqB fn a1 a2 l a4 a5 a6) = some (fn, a1, a2, l, a4, a5, a6, 0) := by
  have I := may_is h
  obtain ⟨h0, h1, hc⟩ := cand_req I
  have hs := req_size I
  unfold pdu_Parse.f
  rw [if_pos ⟨reqB_bytes I, by omega⟩, if_neg (by omega), h0, h1]
  exact congrArg some (parseG_yes hc ⟨h, rfl⟩)
theorem parse_is {b : List Int} (hb : Bytes b) (hl : b.length ≤ 100000) : ∃ f0 f1 f2 pl f4 f5 f6, (pdu_Parse.f b = some (f0, f1, f2, pl, f4, f5, f6, 0) ∧ mayB f0 f1 f2 pl f4 f5 f6 = true ∧ reqB f0 f1 f2 pl f4 f5 f6 = b) ∨ pdu_Parse.f b = some (f0, f1, f2, pl, f4, f5, f6, 4) := by
  unfold pdu_Parse.f
  rw [if_pos ⟨hb, hl⟩]
  by_cases h5 : b.length < 5
  · rw [if_pos h5]
    exact ⟨_, _, _, _, _, _, _, .inr rfl⟩
  · rw [if_neg h5]
    generalize wordsOf (b.drop 1) = L
    unfold parseG
    split
    · next h => exact ⟨_, _, _, _, _, _, _, .inl ⟨rfl, h.1, h.2⟩⟩
    · exact ⟨_, _, _, _, _, _, _, .inr rfl⟩
def candA (fn a2 : Int) (b : List Int) : List Int × Int :=
  if rd b 0 = fn + 128 then ([], rd b 1)
  else if fn = 1 ∨ fn = 2 then (unp (b.drop 2) a2, 0)
  else if fn = 3 ∨ fn = 4 ∨ fn = 23 then (wordsOf (b.drop 2), 0)
  else ([], 0)
def ansP (fn a1 a2 : Int) (l : List Int) (a4 a5 a6 : Int) (b : List Int) : Option (List Int × Int) :=
  if b.length < 2 then none else if rd b 0 = fn + 128 ∧ rd b 1 = 0 then none
  else if ansMayB fn a2 (candA fn a2 b).1 (candA fn a2 b).2 = true ∧ ansB fn a1 a2 l a4 a5 a6 (candA fn a2 b).1 (candA fn a2 b).2 = b then some (candA fn a2 b) else none
theorem ansB_bytes {fn a1 a2 : Int} {l : List Int} {a4 a5 a6 : Int} {al : List Int} {code : Int} (I : MayIs fn a1 a2 l a4 a5 a6) (J : AnsIs fn a2 al code) : Bytes (ansB fn a1 a2 l a4 a5 a6 al code) := by
  have hfn := I.fns
  have hlen := I.len
  unfold ansB
  split
  · next c0 =>
    split
    · next c => exact bytes_cons (by omega) (counted_bytes (packs_bytes (J.bits c0 c)))
    split
    · next c => exact bytes_cons (by omega) (counted_bytes (lays_bytes (J.wrds c0 c)))
    split
    · next c =>
      have := I.cntl c
      exact bytes_cons (by omega) (lays_bytes (words2 I.addr (by omega)))
    · exact reqB_bytes I
  · next c0 =>
    have := J.cd
    exact bytes_cons (by omega) (bytes_cons (by omega) bytes_nil)
def ansT (o : Option (List Int × Int)) : List Int × Int × Int := match o with | some x => (x.1, x.2, 0) | none => ([], 0, 4)
theorem pap_j1 (k : Nat) (hk : 30000 ≤ k) {fn a1 a2 : Int} {l : List Int} {a4 a5 a6 : Int} (h : mayB fn a1 a2 l a4 a5 a6 = true) (b : List Int) (hb : Bytes b) (al : List Int) (code : Int) (hal : al.length ≤ 2500) :
    PR.pdu_AnswerParse.j1 (k + 1) b fn a1 a2 l a4 a5 a6 al code = some (ansT (if ansMayB fn a2 al code = true ∧ ansB fn a1 a2 l a4 a5 a6 al code = b then some (al, code) else none)) := by
  have I := may_is h
  have hlen := I.len
  rw [PR.pdu_AnswerParse.j1]
  cases hm : ansMayB fn a2 al code
  · rw [ansbytes_no k fn a1 a2 l a4 a5 a6 al code (by omega) (by omega) (by omega) (by omega) (fun x => Bool.false_ne_true (hm.symm.trans x.2)), Option.bind_some, if_neg (show ¬ ((1 : Int) = 0) by decide), if_neg (fun x => Bool.false_ne_true x.1)]
    rfl
  · have J := ans_is hm
    rw [ansbytes_yes k fn a1 a2 l a4 a5 a6 al code (by omega) h hm hal, Option.bind_some, if_pos rfl]
    unfold PR.bytes_Equal.f
    rw [str_beq (ansB_bytes I J) hb, Option.bind_some]
    by_cases e : ansB fn a1 a2 l a4 a5 a6 al code = b
    · rw [decide_eq_true e, if_pos rfl, if_pos ⟨rfl, e⟩]; rfl
    · rw [decide_eq_false e, if_neg Bool.false_ne_true, if_neg (fun x => e x.2)]; rfl
theorem pap_no (k : Nat) (fn a1 a2 : Int) (l : List Int) (a4 a5 a6 : Int) (b : List Int) (hl : l.length ≤ 100000) (hk : 200000 ≤ k) (h : mayB fn a1 a2 l a4 a5 a6 = false) : PR.pdu_AnswerParse.f k fn a1 a2 l a4 a5 a6 b = some ([], 0, 1) := by
  unfold PR.pdu_AnswerParse.f
  rw [check_f k fn a1 a2 l a4 a5 a6 (by omega) (by omega), h, Option.bind_some, if_neg (show ¬ ((if false = true then (0 : Int) else 1) = 0) by decide)]
  rfl
theorem pap_yes (k : Nat) (hk : 200000 ≤ k) {fn a1 a2 : Int} {l : List Int} {a4 a5 a6 : Int} (h : mayB fn a1 a2 l a4 a5 a6 = true) (b : List Int) (hb : Bytes b) (hbl : b.length ≤ 4000) :
    PR.pdu_AnswerParse.f k fn a1 a2 l a4 a5 a6 b = some (ansT (ansP fn a1 a2 l a4 a5 a6 b)) := by
  have I := may_is h
  have hlen := I.len
  have hfn := I.fns
  obtain ⟨k, rfl⟩ : ∃ m, k = m + 1 + 1 := ⟨k - 2, by omega⟩
  unfold PR.pdu_AnswerParse.f ansP
  rw [check_f (k + 1 + 1) fn a1 a2 l a4 a5 a6 (by omega) (by omega), h, Option.bind_some, if_pos (show (if true = true then (0 : Int) else 1) = 0 from rfl)]
  by_cases h2 : b.length < 2
  · rw [if_pos (by omega), if_pos h2]; rfl
  have r0 := bytes_rd hb 0
  have r1 := bytes_rd hb 1
  rw [if_neg (by omega), if_pos (by omega), if_neg h2, fn_or64 (by omega), wrap64_id (rd b 0) (by omega) (by omega), wrap64_id (rd b 1) (by omega) (by omega)]
  by_cases e0 : rd b 0 = fn + 128
  · rw [if_pos e0, if_pos (by omega)]
    by_cases e1 : rd b 1 = 0
    · rw [if_pos e1, if_pos ⟨e0, e1⟩, e1]; rfl
    · rw [if_neg e1, if_neg (fun x => e1 x.2), pap_j1 (k + 1) (by omega) h b hb [] (rd b 1) (by simp)]
      unfold candA
      rw [if_pos e0]
  · have hc0 : ∀ x, candA fn a2 b = x → x = (if fn = 1 ∨ fn = 2 then (unp (b.drop 2) a2, 0) else if fn = 3 ∨ fn = 4 ∨ fn = 23 then (wordsOf (b.drop 2), 0) else ([], 0)) := by
      intro x hx; rw [← hx]; unfold candA; rw [if_neg e0]
    have hce := hc0 _ rfl
    have hn01 : ¬ (rd b 0 = fn + 128 ∧ rd b 1 = 0) := fun x => e0 x.1
    rw [if_neg e0, if_neg hn01]
    have hd := bytes_drop hb 2
    have e : (if fn = 1 then PR.pdu_AnswerParse.j0 (k + 1 + 1) b true fn a1 a2 l a4 a5 a6 0 else PR.pdu_AnswerParse.j0 (k + 1 + 1) b (fn == 2) fn a1 a2 l a4 a5 a6 0) = PR.pdu_AnswerParse.j0 (k + 1 + 1) b (decide (fn = 1 ∨ fn = 2)) fn a1 a2 l a4 a5 a6 0 := by
      by_cases c1 : fn = 1
      · rw [if_pos c1]; congr 1; rw [eq_comm, decide_eq_true_eq]; exact Or.inl c1
      · rw [if_neg c1]; congr 1; rw [beq_dec, decide_eq_decide]; omega
    rw [e, PR.pdu_AnswerParse.j0]
    by_cases c12 : fn = 1 ∨ fn = 2
    · have hcn := I.cnt (by omega)
      rw [if_pos (decide_eq_true c12), if_pos (by omega), unp_f _ hd a2 (by omega) (by rw [List.length_drop]; omega) (k + 1) (by omega), Option.bind_some, pap_j1 k (by omega) h b hb _ 0 (by unfold unp; split; rw [unbits_len]; omega; simp)]
      rw [hce, if_pos c12]
    rw [if_neg (by rw [decide_eq_true_eq]; exact c12)]
    by_cases c3 : fn = 3 ∨ fn = 4 ∨ fn = 23
    · have hw := pwords_f _ hd (by rw [List.length_drop]; omega) (k + 1) (by rw [List.length_drop]; omega)
      have hj := pap_j1 k (by omega) h b hb (wordsOf (b.drop 2)) 0 (by rw [wordsOf_len, List.length_drop]; omega)
      rw [hce, if_neg c12, if_pos c3]
      rw [← hj]
      by_cases d3 : fn = 3
      · rw [if_pos d3, if_pos (by omega), hw, Option.bind_some]
      by_cases d4 : fn = 4
      · rw [if_neg d3, if_pos d4, if_pos (by omega), hw, Option.bind_some]
      rw [if_neg d3, if_neg d4, if_pos (by omega), if_pos (by omega), hw, Option.bind_some]
    · rw [if_neg (by omega), if_neg (by omega), if_neg (by omega), pap_j1 k (by omega) h b hb [] 0 (by simp)]
      rw [hce, if_neg c12, if_neg c3]
theorem ansP_is {fn a1 a2 : Int} {l : List Int} {a4 a5 a6 : Int} {b al : List Int} {code : Int} (h : ansP fn a1 a2 l a4 a5 a6 b = some (al, code)) : ansMayB fn a2 al code = true ∧ ansB fn a1 a2 l a4 a5 a6 al code = b := by
  unfold ansP at h
  split at h
  · cases h
  split at h
  · cases h
  split at h
  · next hh =>
    have := Option.some.inj h
    rw [this] at hh
    exact hh
  · cases h
theorem ansB_len {fn a1 a2 : Int} {l : List Int} {a4 a5 a6 : Int} {al : List Int} {code : Int} (I : MayIs fn a1 a2 l a4 a5 a6) (c0 : code = 0) : (ansB fn a1 a2 l a4 a5 a6 al code).length =
    if fn = 1 ∨ fn = 2 then 2 + (al.length + 7) / 8 else if fn = 3 ∨ fn = 4 ∨ fn = 23 then 2 + 2 * al.length else if fn = 15 ∨ fn = 16 then 5 else (reqB fn a1 a2 l a4 a5 a6).length := by
  unfold ansB
  rw [if_pos c0]
  split
  · simp [packs_len]; omega
  split
  · simp [lays_len]; omega
  split
  · simp [lays_len]
  · rfl
theorem ansB_hd {fn a1 a2 : Int} {l : List Int} {a4 a5 a6 : Int} {al : List Int} {code : Int} (I : MayIs fn a1 a2 l a4 a5 a6) (c0 : code = 0) : rd (ansB fn a1 a2 l a4 a5 a6 al code) 0 = fn := by
  have hfn := I.fns
  have e : fn % 256 = fn := by omega
  unfold ansB
  rw [if_pos c0]
  split
  · exact e
  split
  · exact e
  split
  · exact e
  · exact (cand_req I).1
theorem ansP_ansB {fn a1 a2 : Int} {l : List Int} {a4 a5 a6 : Int} {al : List Int} {code : Int} (h : mayB fn a1 a2 l a4 a5 a6 = true) (h2 : ansMayB fn a2 al code = true) : ansP fn a1 a2 l a4 a5 a6 (ansB fn a1 a2 l a4 a5 a6 al code) = some (al, code) := by
  have I := may_is h
  have J := ans_is h2
  have hfn := I.fns
  have hcd : candA fn a2 (ansB fn a1 a2 l a4 a5 a6 al code) = (al, code) ∧ 2 ≤ (ansB fn a1 a2 l a4 a5 a6 al code).length ∧ ¬ (rd (ansB fn a1 a2 l a4 a5 a6 al code) 0 = fn + 128 ∧ rd (ansB fn a1 a2 l a4 a5 a6 al code) 1 = 0) := by
    by_cases c0 : code = 0
    · have hh := ansB_hd (al := al) I c0
      have hlen := ansB_len (al := al) I c0
      have hrs := req_size I
      refine ⟨?_, by rw [hlen]; split <;> (try split) <;> (try split) <;> omega, fun x => by omega⟩
      unfold candA
      rw [if_neg (by omega)]
      by_cases c12 : fn = 1 ∨ fn = 2
      · have hb := J.bits c0 c12
        have hl := J.len c0 (by omega)
        have hd : (ansB fn a1 a2 l a4 a5 a6 al code).drop 2 = packs al := by unfold ansB; rw [if_pos c0, if_pos c12]; rfl
        rw [if_pos c12, hd, ← hl, unp_packs hb, c0]
      rw [if_neg c12]
      by_cases c3 : fn = 3 ∨ fn = 4 ∨ fn = 23
      · have hd : (ansB fn a1 a2 l a4 a5 a6 al code).drop 2 = lays al := by unfold ansB; rw [if_pos c0, if_neg c12, if_pos c3]; rfl
        rw [if_pos c3, hd, words_lays (J.wrds c0 c3), c0]
      rw [if_neg c3, J.nov c0 (by omega), c0]
    · have e : ansB fn a1 a2 l a4 a5 a6 al code = [fn + 128, code] := by unfold ansB; rw [if_neg c0]
      rw [e]
      refine ⟨?_, by simp, fun x => c0 x.2⟩
      unfold candA
      rw [show rd [fn + 128, code] 0 = fn + 128 from rfl, if_pos rfl, J.none c0]
      rfl
  unfold ansP
  rw [if_neg (by omega), if_neg hcd.2.2, hcd.1, if_pos ⟨h2, rfl⟩]
theorem ansB_size {fn a1 a2 : Int} {l : List Int} {a4 a5 a6 : Int} {al : List Int} {code : Int} (I : MayIs fn a1 a2 l a4 a5 a6) (hal : al.length ≤ 125 ∨ (fn = 1 ∨ fn = 2) ∧ al.length ≤ 2000) : (ansB fn a1 a2 l a4 a5 a6 al code).length ≤ 4000 := by
  have hl := I.len
  have hr := reqB_len I
  have hmo := I.most
  have hon := I.one
  by_cases c0 : code = 0
  · rw [ansB_len I c0, hr]
    split <;> (try split) <;> (try split) <;> (try split) <;> (try split) <;> (try split) <;> (try split) <;> omega
  · unfold ansB; rw [if_neg c0]; simp
theorem ints_same (l : List Int) (hl : l.length ≤ 1000000000000) (k : Nat) (hk : l.length + 1 ≤ k) : PR.basculeref01_Ints.f k l l = some true := MathP.ints_f l hl k hk
theorem same_f (k : Nat) (fn a1 a2 : Int) (l : List Int) (a4 a5 a6 : Int) (hl : l.length ≤ 1000000000000) (hk : l.length + 1 ≤ k) : PR.basculeref03_Same.f k fn a1 a2 l a4 a5 a6 fn a1 a2 l a4 a5 a6 = some true := by
  unfold PR.basculeref03_Same.f
  simp [ints_same l hl k hk]
theorem anssame_f (k : Nat) (al : List Int) (code : Int) (hl : al.length ≤ 1000000000000) (hk : al.length + 1 ≤ k) : PR.basculeref03_AnswerSame.f k al code al code = some true := by
  unfold PR.basculeref03_AnswerSame.f
  simp [ints_same al hl k hk]
end Go.Proofs.Ytocicifgglkaeaa.MthD
end

section
namespace Go.Proofs.Ytocicifgglkaeaa.ExtR
open Go.ChangeShapes Go.WideShapes Go.ChangeAt Go.RowKit Go.Joins Go.Deep
set_option linter.unusedVariables false
def IsRow (k : IntKind) (w : World) (a : Option Addr) (len cap : Nat) (zs : List Int) : Prop :=
  (a = none ∧ len = 0 ∧ cap = 0 ∧ zs = []) ∨
  ∃ x, a = some x ∧ len ≤ cap ∧ cap ≤ maxLen ∧ zs.length = cap ∧ (∀ i, i < zs.length → w.cell? (x.add i) = some (.int k (zs.getD i 0))) ∧ ∀ n ∈ zs, (Lit.int k n).wf = true
section
variable {H : Type} {enc : TypeId × Value → H} {P : Program} {w : World} {base : Nat} {spare : Nat → Bool} {held : Bool}
end
section
variable {H : Type} {enc : TypeId × Value → H} {w : World} {base : Nat} {held : Bool}
end
end Go.Proofs.Ytocicifgglkaeaa.ExtR
end

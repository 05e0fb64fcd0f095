/- The words, contracts and walks that this claim leans on, put together by a program of this session (part 5). -/
import Derived.Test.YtocicifgglkaeaaZL4
import Derived.MapKept
section
namespace Go.Proofs.Ytocicifgglkaeaa.ExtQ
open Go.RowKit Go.Proofs.YtocicifgglkaeaaW.PrintWords Go.Proofs.YtocicifgglkaeaaW.PrintLast Go.Proofs.YtocicifgglkaeaaW.PrintMore Go.Proofs.Ytocicifgglkaeaa.ExtF Go.Proofs.Ytocicifgglkaeaa.ExtP Go.Proofs.Ytocicifgglkaeaa.PP Go.Proofs.Ytocicifgglkaeaa.PQ Go.Proofs.Ytocicifgglkaeaa.ExtM Go.Proofs.Ytocicifgglkaeaa.MathP Go.Proofs.Ytocicifgglkaeaa.Mth
set_option linter.unusedVariables false
set_option linter.unusedSimpArgs false
def pdu_Parse.f (b : List Int) : Option (Int × Int × Int × List Int × Int × Int × Int × Int) :=
  if Bytes b ∧ b.length ≤ 100000 then some (if b.length < 5 then (0, 0, 0, [], 0, 0, 0, 4) else parseG (rd b 0) (rd (wordsOf (b.drop 1)) 0) b (wordsOf (b.drop 1))) else none
set_option maxHeartbeats 8000000 in
set_option maxRecDepth 100000 in
theorem parse_short (A0 : Option Addr) (c0 : Nat) (l0 : List Int) (w : World) (h5 : l0.length < 5) : Calls Try.prog 34 #[.slice A0 l0.length c0] w (ParseOf w (0, 0, 0, [], 0, 0, 0, 4)) := by
  have hu24 := Try.underlying24
  have h5b : decide ((l0.length : Int) < 5) = true := decide_eq_true (by omega)
  have HB0 := Aside0.mk (Below.refl w.heap.size w)
  clear h5
  go_enter Try.func34, Try.ntmps34
  go_wp2_with (first | ((with_reducible refine gate_dst (N := 2) rfl ?_); refine box_event ?hg (N := 2) ?hd (cs := #[.int .i64 0, .int .i64 0, .int .i64 0, .slice none 0 0, .int .i64 0, .int .i64 0, .int .i64 0]) (t := 24) ?hr ?_; (case hd => rfl); (case hg => rfl); (case hr => first | (go_simp; done) | (go_simp; rfl)); intro gb2 hg w3 hbox HBc; have GE0_gb2 : Aside0 (w.heap.size ≤ gb2) := Aside0.mk (by rw [hg]; exact (below_size (bl0_ HB0))); clear hg; have HB0n := Aside0.mk (below_step (by repeat (first | (with_reducible first | exact HB0.out | apply below_alloc | apply pw_below_drewN | apply below_drew1 | refine below_set ?_ GE0_gb2.out) | exact HB0.out)) HBc); clear HBc HB0; have HB0 := HB0n; clear HB0n; have BK_gb2 := Aside0.mk hbox; clear hbox; have hczq1_0 : w3.cell? ⟨gb2, 0, none⟩ = some (.int .i64 0) := (blk_cell BK_gb2.out 0).trans rfl; have hfzq1_0 := blk_frozen BK_gb2.out 0; have hczq1_1 : w3.cell? ⟨gb2, 1, none⟩ = some (.int .i64 0) := (blk_cell BK_gb2.out 1).trans rfl; have hfzq1_1 := blk_frozen BK_gb2.out 1; have hczq1_2 : w3.cell? ⟨gb2, 2, none⟩ = some (.int .i64 0) := (blk_cell BK_gb2.out 2).trans rfl; have hfzq1_2 := blk_frozen BK_gb2.out 2; have hczq1_3 : w3.cell? ⟨gb2, 3, none⟩ = some (.slice none 0 0) := (blk_cell BK_gb2.out 3).trans rfl; have hfzq1_3 := blk_frozen BK_gb2.out 3; have hczq1_4 : w3.cell? ⟨gb2, 4, none⟩ = some (.int .i64 0) := (blk_cell BK_gb2.out 4).trans rfl; have hfzq1_4 := blk_frozen BK_gb2.out 4; have hczq1_5 : w3.cell? ⟨gb2, 5, none⟩ = some (.int .i64 0) := (blk_cell BK_gb2.out 5).trans rfl; have hfzq1_5 := blk_frozen BK_gb2.out 5; have hczq1_6 : w3.cell? ⟨gb2, 6, none⟩ = some (.int .i64 0) := (blk_cell BK_gb2.out 6).trans rfl; have hfzq1_6 := blk_frozen BK_gb2.out 6))
  refine bodyPost_ret (results_ct rfl _ _ gb2 24 #[.int .i64 0, .int .i64 0, .int .i64 0, .slice none 0 0, .int .i64 0, .int .i64 0, .int .i64 0] (0, 0) _ rfl (by (with_reducible repeat (first | refine blk_drewN ?_ _ | refine blk_drew ?_ | refine blk_alloc ?_ _)); refine blk_put (cs := #[.int .i64 0, .int .i64 0, .int .i64 0, .slice none 0 0, .int .i64 0, .int .i64 0, .int .i64 0]) ?_ 6 _ rfl; (with_reducible repeat (first | refine blk_drewN ?_ _ | refine blk_drew ?_ | refine blk_alloc ?_ _)); refine blk_put (cs := #[.int .i64 0, .int .i64 0, .int .i64 0, .slice none 0 0, .int .i64 0, .int .i64 0, .int .i64 0]) ?_ 5 _ rfl; (with_reducible repeat (first | refine blk_drewN ?_ _ | refine blk_drew ?_ | refine blk_alloc ?_ _)); refine blk_put (cs := #[.int .i64 0, .int .i64 0, .int .i64 0, .slice none 0 0, .int .i64 0, .int .i64 0, .int .i64 0]) ?_ 4 _ rfl; (with_reducible repeat (first | refine blk_drewN ?_ _ | refine blk_drew ?_ | refine blk_alloc ?_ _)); refine blk_put (cs := #[.int .i64 0, .int .i64 0, .int .i64 0, .slice none 0 0, .int .i64 0, .int .i64 0, .int .i64 0]) ?_ 3 _ rfl; (with_reducible repeat (first | refine blk_drewN ?_ _ | refine blk_drew ?_ | refine blk_alloc ?_ _)); refine blk_put (cs := #[.int .i64 0, .int .i64 0, .int .i64 0, .slice none 0 0, .int .i64 0, .int .i64 0, .int .i64 0]) ?_ 2 _ rfl; (with_reducible repeat (first | refine blk_drewN ?_ _ | refine blk_drew ?_ | refine blk_alloc ?_ _)); refine blk_put (cs := #[.int .i64 0, .int .i64 0, .int .i64 0, .slice none 0 0, .int .i64 0, .int .i64 0, .int .i64 0]) ?_ 1 _ rfl; (with_reducible repeat (first | refine blk_drewN ?_ _ | refine blk_drew ?_ | refine blk_alloc ?_ _)); refine blk_put (cs := #[.int .i64 0, .int .i64 0, .int .i64 0, .slice none 0 0, .int .i64 0, .int .i64 0, .int .i64 0]) ?_ 0 _ rfl; (with_reducible repeat (first | refine blk_drewN ?_ _ | refine blk_drew ?_ | refine blk_alloc ?_ _)); exact BK_gb2.out) Try.underlying24 rfl (by kernel_rfl)) rfl ?_
  exact ⟨none, 0, rfl, Nat.le_refl _, Kd.C_nil _ _, (by repeat (first | (with_reducible first | exact HB0.out | apply below_alloc | apply pw_below_drewN | apply below_drew1 | refine below_set ?_ GE0_gb2.out) | exact HB0.out))⟩
theorem words_hd (l : List Int) (hb : Bytes l) (h : 4 ≤ l.length) : 2 ≤ (wordsOf l).length ∧ 0 ≤ rd (wordsOf l) 1 ∧ rd (wordsOf l) 1 ≤ 65535 := by
  have hl : 2 ≤ (wordsOf l).length := by rw [wordsOf_len]; omega
  have e : rd (wordsOf l) 1 = 256 * rd l ((2 : Nat) : Int) + rd l ((3 : Nat) : Int) := by
    have : rd (wordsOf l) ((1 : Nat) : Int) = (wordsOf l)[1] := rd_nat 1 (by omega)
    refine this.trans ?_
    simp [wordsOf]
  have h2 := bytes_rd hb ((2 : Nat) : Int)
  have h3 := bytes_rd hb ((3 : Nat) : Int)
  refine ⟨hl, ?_⟩
  rw [e]
  omega
theorem pdu_Parse.calls (A0 : Option Addr) (c0 : Nat) (l0 : List Int) (r1 r2 r3 : Int) (r4 : List Int) (r5 r6 r7 r8 : Int) (w : World) (hr0 : Kd.C (Kd.int .u8) w A0 l0.length l0) (hc0 : l0.length ≤ c0) (h : pdu_Parse.f l0 = some (r1, r2, r3, r4, r5, r6, r7, r8)) :
    Calls Try.prog 34 #[.slice A0 l0.length c0] w fun e w' => ∃ (A : Option Addr) (c : Nat), e = .returned (.tuple #[.agg #[.int .i64 r1, .int .i64 r2, .int .i64 r3, .slice A r4.length c, .int .i64 r5, .int .i64 r6, .int .i64 r7], .int .i64 r8]) ∧ r4.length ≤ c ∧ Kd.C (Kd.int .i64) w' A r4.length r4 ∧ Below w.heap.size w w' := by
  unfold pdu_Parse.f at h
  by_cases hc : Bytes l0 ∧ l0.length ≤ 100000
  · rw [if_pos hc] at h
    have h := Option.some.inj h
    by_cases h5 : l0.length < 5
    · rw [if_pos h5] at h
      have := parse_short A0 c0 l0 w h5
      rw [h] at this
      exact this
    · rw [if_neg h5] at h
      have hd := bytes_drop hc.1 1
      have hw := words_hd (l0.drop 1) hd (by rw [List.length_drop]; omega)
      have hf := bytes_rd hc.1 0
      have := parse_walk (l0.length + 200000) A0 c0 l0 (wordsOf (l0.drop 1)) (rd l0 0) _ _ w hr0 hc0 (by omega) hc.2 hc.1 (by omega) rfl hf.1 hf.2 ⟨pwords_f _ hd (by rw [List.length_drop]; omega) _ (by rw [List.length_drop]; omega)⟩ hw.1 rfl rfl hw.2.1 hw.2.2
      rw [h] at this
      exact this
  · rw [if_neg hc] at h
    cases h
theorem aw1 : Aside0 (pdu_Bytes.f 60 3 16 2 [] 0 0 0 = some ([3, 0, 16, 0, 2], 0)) := ⟨by decide +kernel⟩
theorem aw2 : Aside0 (PR.pdu_AnswerParse.f 60 3 16 2 [] 0 0 0 [3, 4, 0, 1, 0, 2] = some ([1, 2], 0, 0)) := ⟨by decide +kernel⟩
theorem aw3 : Aside0 (PR.pdu_AnswerParse.f 60 3 16 2 [] 0 0 0 [131, 2] = some ([], 2, 0)) := ⟨by decide +kernel⟩
theorem aw4 : Aside0 (pdu_Parse.f [5, 0, 1, 0, 1] = some (0, 0, 0, [], 0, 0, 0, 4)) := ⟨by kernel_rfl⟩
theorem aw5 : Aside0 (PR.basculeref01_Ints.f 60 [1, 2] [1, 2] = some true) := ⟨by decide +kernel⟩
theorem lit_C (W : World) (xs : List Int) (h : xs.length ≤ 9223372036854775807) : Kd.C (Kd.int .u8) (W.alloc (.cells (nums .u8 xs).toArray 5)) (some ⟨W.heap.size, 0, none⟩) xs.length xs := by
  have h := own_lit W 0 5 .u8 xs (by omega) h
  obtain ⟨A, c, e, hr⟩ := own_reads h
  injection e with e1 e2 e3
  subst e1
  exact Kd.C_of_reads (d := (0 : Int)) (h1 := fun _ => rfl) hr
theorem litI_C (W : World) (xs : List Int) (h : xs.length ≤ 9223372036854775807) : Kd.C (Kd.int .i64) (W.alloc (.cells (nums .i64 xs).toArray 3)) (some ⟨W.heap.size, 0, none⟩) xs.length xs := by
  have h := own_lit W 0 3 .i64 xs (by omega) h
  obtain ⟨A, c, e, hr⟩ := own_reads h
  injection e with e1 e2 e3
  subst e1
  exact Kd.C_of_reads (d := (0 : Int)) (h1 := fun _ => rfl) hr
theorem ne_new {W : World} {g g2 : Nat} {o : Obj} (h : W.heap[g]? = some o) (hg : g2 = W.heap.size) : g ≠ g2 := by
  have := blk_lt h
  omega
set_option maxHeartbeats 8000000 in
set_option maxRecDepth 100000 in
theorem awake_true (w : World) : Calls Try.prog 32 #[] w fun e w' => e = .returned (.bool true) ∧ Below w.heap.size w w' := by
  have hu24 := Try.underlying24
  have hu30 := Try.underlying30
  have HB0 := Aside0.mk (Below.refl w.heap.size w)
  go_enter Try.func32, Try.ntmps32
  go_upto_region 4 with (first | ((with_reducible refine gate_dst (N := 1) rfl ?_); refine box_event ?hg (N := 1) ?hd (cs := #[.int .i64 0, .int .i64 0, .int .i64 0, .slice none 0 0, .int .i64 0, .int .i64 0, .int .i64 0]) (t := 24) ?hr ?_; (case hd => rfl); (case hg => rfl); (case hr => first | (go_simp; done) | (go_simp; rfl)); intro gb1 hg w1 hbox HBc; have GE0_gb1 : Aside0 (w.heap.size ≤ gb1) := Aside0.mk (by rw [hg]; exact (below_size (bl0_ HB0))); clear hg; have HB0n := Aside0.mk (below_step (by repeat (first | (with_reducible first | exact HB0.out | apply below_alloc | apply pw_below_drewN | apply below_drew1 | refine below_set ?_ GE0_gb1.out) | exact HB0.out)) HBc); clear HBc HB0; have HB0 := HB0n; clear HB0n; have BK_gb1 := Aside0.mk hbox; clear hbox; have hczq1_0 : w1.cell? ⟨gb1, 0, none⟩ = some (.int .i64 0) := (blk_cell BK_gb1.out 0).trans rfl; have hfzq1_0 := blk_frozen BK_gb1.out 0; have hczq1_1 : w1.cell? ⟨gb1, 1, none⟩ = some (.int .i64 0) := (blk_cell BK_gb1.out 1).trans rfl; have hfzq1_1 := blk_frozen BK_gb1.out 1; have hczq1_2 : w1.cell? ⟨gb1, 2, none⟩ = some (.int .i64 0) := (blk_cell BK_gb1.out 2).trans rfl; have hfzq1_2 := blk_frozen BK_gb1.out 2; have hczq1_3 : w1.cell? ⟨gb1, 3, none⟩ = some (.slice none 0 0) := (blk_cell BK_gb1.out 3).trans rfl; have hfzq1_3 := blk_frozen BK_gb1.out 3; have hczq1_4 : w1.cell? ⟨gb1, 4, none⟩ = some (.int .i64 0) := (blk_cell BK_gb1.out 4).trans rfl; have hfzq1_4 := blk_frozen BK_gb1.out 4; have hczq1_5 : w1.cell? ⟨gb1, 5, none⟩ = some (.int .i64 0) := (blk_cell BK_gb1.out 5).trans rfl; have hfzq1_5 := blk_frozen BK_gb1.out 5; have hczq1_6 : w1.cell? ⟨gb1, 6, none⟩ = some (.int .i64 0) := (blk_cell BK_gb1.out 6).trans rfl; have hfzq1_6 := blk_frozen BK_gb1.out 6) | (go_at_call 30; refine (pdu_Bytes.calls 60 3 16 2 none 0 [] 0 0 0 [3, 0, 16, 0, 2] 0 _ (Kd.C_nil _ _) (Nat.le_refl _) aw1.out).mono ?_; rintro e w2 ⟨v, rfl, HR_b, HBc⟩; have BKn_gb1 : Aside0 (w2.heap[gb1]? = some (.cells #[.int .i64 3, .int .i64 16, .int .i64 2, .slice none 0 0, .int .i64 0, .int .i64 0, .int .i64 0] 24 (0, 0))) := Aside0.mk (blk_below (g := gb1) (by (with_reducible repeat (first | refine blk_drewN ?_ _ | refine blk_drew ?_ | refine blk_alloc ?_ _)); refine blk_put (cs := #[.int .i64 3, .int .i64 16, .int .i64 2, .slice none 0 0, .int .i64 0, .int .i64 0, .int .i64 0]) ?_ 6 _ rfl; (with_reducible repeat (first | refine blk_drewN ?_ _ | refine blk_drew ?_ | refine blk_alloc ?_ _)); refine blk_put (cs := #[.int .i64 3, .int .i64 16, .int .i64 2, .slice none 0 0, .int .i64 0, .int .i64 0, .int .i64 0]) ?_ 5 _ rfl; (with_reducible repeat (first | refine blk_drewN ?_ _ | refine blk_drew ?_ | refine blk_alloc ?_ _)); refine blk_put (cs := #[.int .i64 3, .int .i64 16, .int .i64 2, .slice none 0 0, .int .i64 0, .int .i64 0, .int .i64 0]) ?_ 4 _ rfl; (with_reducible repeat (first | refine blk_drewN ?_ _ | refine blk_drew ?_ | refine blk_alloc ?_ _)); refine blk_put (cs := #[.int .i64 3, .int .i64 16, .int .i64 2, .slice none 0 0, .int .i64 0, .int .i64 0, .int .i64 0]) ?_ 3 _ rfl; (with_reducible repeat (first | refine blk_drewN ?_ _ | refine blk_drew ?_ | refine blk_alloc ?_ _)); refine blk_put (cs := #[.int .i64 3, .int .i64 16, .int .i64 0, .slice none 0 0, .int .i64 0, .int .i64 0, .int .i64 0]) ?_ 2 _ rfl; (with_reducible repeat (first | refine blk_drewN ?_ _ | refine blk_drew ?_ | refine blk_alloc ?_ _)); refine blk_put (cs := #[.int .i64 3, .int .i64 0, .int .i64 0, .slice none 0 0, .int .i64 0, .int .i64 0, .int .i64 0]) ?_ 1 _ rfl; (with_reducible repeat (first | refine blk_drewN ?_ _ | refine blk_drew ?_ | refine blk_alloc ?_ _)); refine blk_put (cs := #[.int .i64 0, .int .i64 0, .int .i64 0, .slice none 0 0, .int .i64 0, .int .i64 0, .int .i64 0]) ?_ 0 _ rfl; (with_reducible repeat (first | refine blk_drewN ?_ _ | refine blk_drew ?_ | refine blk_alloc ?_ _)); exact BK_gb1.out) HBc); have HB0n := Aside0.mk (below_step (by repeat (first | (with_reducible first | exact HB0.out | apply below_alloc | apply pw_below_drewN | apply below_drew1 | refine below_set ?_ GE0_gb1.out) | exact HB0.out)) HBc); clear HBc BK_gb1 HB0 hczq1_0 hfzq1_0 hczq1_1 hfzq1_1 hczq1_2 hfzq1_2 hczq1_3 hfzq1_3 hczq1_4 hfzq1_4 hczq1_5 hfzq1_5 hczq1_6 hfzq1_6; have BK_gb1 := BKn_gb1; have HB0 := HB0n; clear BKn_gb1 HB0n; have HB_b := Aside0.mk (Below.refl w2.heap.size w2); obtain ⟨A_b, c_b, rfl⟩ := Kd.R_slice HR_b; have HV_b := Aside0.mk (Kd.R_reads' HR_b).2.2; have HC_b := Aside0.mk (Kd.R_reads' HR_b).2.1; clear HR_b; have hczq2_0 : w2.cell? ⟨gb1, 0, none⟩ = some (.int .i64 3) := (blk_cell BK_gb1.out 0).trans rfl; have hfzq2_0 := blk_frozen BK_gb1.out 0; have hczq2_1 : w2.cell? ⟨gb1, 1, none⟩ = some (.int .i64 16) := (blk_cell BK_gb1.out 1).trans rfl; have hfzq2_1 := blk_frozen BK_gb1.out 1; have hczq2_2 : w2.cell? ⟨gb1, 2, none⟩ = some (.int .i64 2) := (blk_cell BK_gb1.out 2).trans rfl; have hfzq2_2 := blk_frozen BK_gb1.out 2; have hczq2_3 : w2.cell? ⟨gb1, 3, none⟩ = some (.slice none 0 0) := (blk_cell BK_gb1.out 3).trans rfl; have hfzq2_3 := blk_frozen BK_gb1.out 3; have hczq2_4 : w2.cell? ⟨gb1, 4, none⟩ = some (.int .i64 0) := (blk_cell BK_gb1.out 4).trans rfl; have hfzq2_4 := blk_frozen BK_gb1.out 4; have hczq2_5 : w2.cell? ⟨gb1, 5, none⟩ = some (.int .i64 0) := (blk_cell BK_gb1.out 5).trans rfl; have hfzq2_5 := blk_frozen BK_gb1.out 5; have hczq2_6 : w2.cell? ⟨gb1, 6, none⟩ = some (.int .i64 0) := (blk_cell BK_gb1.out 6).trans rfl; have hfzq2_6 := blk_frozen BK_gb1.out 6) | (go_at_call 39; refine (PR.pdu_AnswerParse.calls 60 3 16 2 none 0 [] 0 0 0 (some _) 6 [3, 4, 0, 1, 0, 2] [1, 2] 0 0 _ (Kd.C_nil _ _) (Nat.le_refl _) (lit_C _ [3, 4, 0, 1, 0, 2] (by decide)) (Nat.le_refl _) aw2.out).mono ?_; rintro e w3 ⟨v, rfl, HR_a, HBc⟩; have BKn_gb1 : Aside0 (w3.heap[gb1]? = some (.cells #[.int .i64 3, .int .i64 16, .int .i64 2, .slice none 0 0, .int .i64 0, .int .i64 0, .int .i64 0] 24 (0, 0))) := Aside0.mk (blk_below (g := gb1) (bk_ BK_gb1) HBc); have HB0n := Aside0.mk (below_step (by repeat (first | (with_reducible first | exact HB0.out | apply below_alloc | apply pw_below_drewN | apply below_drew1 | refine below_set ?_ GE0_gb1.out) | exact HB0.out)) HBc); have HB_bn := Aside0.mk (below_step (bl0_ HB_b) HBc); clear HBc BK_gb1 HB0 HB_b hczq2_0 hfzq2_0 hczq2_1 hfzq2_1 hczq2_2 hfzq2_2 hczq2_3 hfzq2_3 hczq2_4 hfzq2_4 hczq2_5 hfzq2_5 hczq2_6 hfzq2_6; have BK_gb1 := BKn_gb1; have HB0 := HB0n; have HB_b := HB_bn; clear BKn_gb1 HB0n HB_bn; have HB_a := Aside0.mk (Below.refl w3.heap.size w3); obtain ⟨A_a, c_a, rfl⟩ := Kd.R_slice HR_a; have HV_a := Aside0.mk (Kd.R_reads' HR_a).2.2; have HC_a := Aside0.mk (Kd.R_reads' HR_a).2.1; clear HR_a; have hczq3_0 : w3.cell? ⟨gb1, 0, none⟩ = some (.int .i64 3) := (blk_cell BK_gb1.out 0).trans rfl; have hfzq3_0 := blk_frozen BK_gb1.out 0; have hczq3_1 : w3.cell? ⟨gb1, 1, none⟩ = some (.int .i64 16) := (blk_cell BK_gb1.out 1).trans rfl; have hfzq3_1 := blk_frozen BK_gb1.out 1; have hczq3_2 : w3.cell? ⟨gb1, 2, none⟩ = some (.int .i64 2) := (blk_cell BK_gb1.out 2).trans rfl; have hfzq3_2 := blk_frozen BK_gb1.out 2; have hczq3_3 : w3.cell? ⟨gb1, 3, none⟩ = some (.slice none 0 0) := (blk_cell BK_gb1.out 3).trans rfl; have hfzq3_3 := blk_frozen BK_gb1.out 3; have hczq3_4 : w3.cell? ⟨gb1, 4, none⟩ = some (.int .i64 0) := (blk_cell BK_gb1.out 4).trans rfl; have hfzq3_4 := blk_frozen BK_gb1.out 4; have hczq3_5 : w3.cell? ⟨gb1, 5, none⟩ = some (.int .i64 0) := (blk_cell BK_gb1.out 5).trans rfl; have hfzq3_5 := blk_frozen BK_gb1.out 5; have hczq3_6 : w3.cell? ⟨gb1, 6, none⟩ = some (.int .i64 0) := (blk_cell BK_gb1.out 6).trans rfl; have hfzq3_6 := blk_frozen BK_gb1.out 6) | ((with_reducible refine gate_dst (N := 4) rfl ?_); refine box_event ?hg (N := 4) ?hd (cs := #[.slice none 0 0, .int .i64 0]) (t := 30) ?hr ?_; (case hd => rfl); (case hg => rfl); (case hr => first | (go_simp; done) | (go_simp; rfl)); intro gb4 hg w4 hbox HBc; have GE0_gb4 : Aside0 (w.heap.size ≤ gb4) := Aside0.mk (by rw [hg]; exact (below_size (by repeat (first | (with_reducible first | exact HB0.out | apply below_alloc | apply pw_below_drewN | apply below_drew1 | refine below_set ?_ GE0_gb1.out) | exact HB0.out)))); have GEb_gb4 : Aside0 (w2.heap.size ≤ gb4) := Aside0.mk (by rw [hg]; exact (below_size (bl0_ HB_b))); have GEa_gb4 : Aside0 (w3.heap.size ≤ gb4) := Aside0.mk (by rw [hg]; exact (below_size (bl0_ HB_a))); have NB_gb1_gb4 : Aside0 (gb1 ≠ gb4) := Aside0.mk (ne_new (bk_ BK_gb1) hg); have NB_gb4_gb1 : Aside0 (gb4 ≠ gb1) := Aside0.mk (fun e => NB_gb1_gb4.out e.symm); clear hg; have BKn_gb1 : Aside0 (w4.heap[gb1]? = some (.cells #[.int .i64 3, .int .i64 16, .int .i64 2, .slice none 0 0, .int .i64 0, .int .i64 0, .int .i64 0] 24 (0, 0))) := Aside0.mk (blk_below (g := gb1) (bk_ BK_gb1) HBc); have HB0n := Aside0.mk (below_step (by repeat (first | (with_reducible first | exact HB0.out | apply below_alloc | apply pw_below_drewN | apply below_drew1 | refine below_set ?_ GE0_gb1.out | refine below_set ?_ GE0_gb4.out) | exact HB0.out)) HBc); have HB_bn := Aside0.mk (below_step (by repeat (first | (with_reducible first | exact HB_b.out | apply below_alloc | apply pw_below_drewN | apply below_drew1 | refine below_set ?_ GEb_gb4.out) | exact HB_b.out)) HBc); have HB_an := Aside0.mk (below_step (by repeat (first | (with_reducible first | exact HB_a.out | apply below_alloc | apply pw_below_drewN | apply below_drew1 | refine below_set ?_ GEa_gb4.out) | exact HB_a.out)) HBc); clear HBc BK_gb1 HB0 HB_b HB_a hczq3_0 hfzq3_0 hczq3_1 hfzq3_1 hczq3_2 hfzq3_2 hczq3_3 hfzq3_3 hczq3_4 hfzq3_4 hczq3_5 hfzq3_5 hczq3_6 hfzq3_6; have BK_gb1 := BKn_gb1; have HB0 := HB0n; have HB_b := HB_bn; have HB_a := HB_an; clear BKn_gb1 HB0n HB_bn HB_an; have BK_gb4 := Aside0.mk hbox; clear hbox; have hczq4_0 : w4.cell? ⟨gb1, 0, none⟩ = some (.int .i64 3) := (blk_cell BK_gb1.out 0).trans rfl; have hfzq4_0 := blk_frozen BK_gb1.out 0; have hczq4_1 : w4.cell? ⟨gb1, 1, none⟩ = some (.int .i64 16) := (blk_cell BK_gb1.out 1).trans rfl; have hfzq4_1 := blk_frozen BK_gb1.out 1; have hczq4_2 : w4.cell? ⟨gb1, 2, none⟩ = some (.int .i64 2) := (blk_cell BK_gb1.out 2).trans rfl; have hfzq4_2 := blk_frozen BK_gb1.out 2; have hczq4_3 : w4.cell? ⟨gb1, 3, none⟩ = some (.slice none 0 0) := (blk_cell BK_gb1.out 3).trans rfl; have hfzq4_3 := blk_frozen BK_gb1.out 3; have hczq4_4 : w4.cell? ⟨gb1, 4, none⟩ = some (.int .i64 0) := (blk_cell BK_gb1.out 4).trans rfl; have hfzq4_4 := blk_frozen BK_gb1.out 4; have hczq4_5 : w4.cell? ⟨gb1, 5, none⟩ = some (.int .i64 0) := (blk_cell BK_gb1.out 5).trans rfl; have hfzq4_5 := blk_frozen BK_gb1.out 5; have hczq4_6 : w4.cell? ⟨gb1, 6, none⟩ = some (.int .i64 0) := (blk_cell BK_gb1.out 6).trans rfl; have hfzq4_6 := blk_frozen BK_gb1.out 6; have hczq5_0 : w4.cell? ⟨gb4, 0, none⟩ = some (.slice none 0 0) := (blk_cell BK_gb4.out 0).trans rfl; have hfzq5_0 := blk_frozen BK_gb4.out 0; have hczq5_1 : w4.cell? ⟨gb4, 1, none⟩ = some (.int .i64 0) := (blk_cell BK_gb4.out 1).trans rfl; have hfzq5_1 := blk_frozen BK_gb4.out 1; have hnq6 := NB_gb1_gb4.out; have hmq6 := NB_gb4_gb1.out))
  have BKn_gb1 : Aside0 (((w4.setCell ⟨gb4, 0, none⟩ (.slice A_a 2 c_a)).setCell ⟨gb4, 1, none⟩ (.int .i64 0)).heap[gb1]? = some (.cells #[.int .i64 3, .int .i64 16, .int .i64 2, .slice none 0 0, .int .i64 0, .int .i64 0, .int .i64 0] 24 (0, 0))) := Aside0.mk (by (with_reducible repeat (first | refine blk_drewN ?_ _ | refine blk_drew ?_ | refine blk_alloc ?_ _)); refine blk_far ?_ NB_gb1_gb4.out _; (with_reducible repeat (first | refine blk_drewN ?_ _ | refine blk_drew ?_ | refine blk_alloc ?_ _)); refine blk_far ?_ NB_gb1_gb4.out _; (with_reducible repeat (first | refine blk_drewN ?_ _ | refine blk_drew ?_ | refine blk_alloc ?_ _)); exact BK_gb1.out)
  have BKn_gb4 : Aside0 (((w4.setCell ⟨gb4, 0, none⟩ (.slice A_a 2 c_a)).setCell ⟨gb4, 1, none⟩ (.int .i64 0)).heap[gb4]? = some (.cells #[.slice A_a 2 c_a, .int .i64 0] 30 (0, 0))) := Aside0.mk (by (with_reducible repeat (first | refine blk_drewN ?_ _ | refine blk_drew ?_ | refine blk_alloc ?_ _)); refine blk_put (cs := #[.slice A_a 2 c_a, .int .i64 0]) ?_ 1 _ rfl; (with_reducible repeat (first | refine blk_drewN ?_ _ | refine blk_drew ?_ | refine blk_alloc ?_ _)); refine blk_put (cs := #[.slice none 0 0, .int .i64 0]) ?_ 0 _ rfl; (with_reducible repeat (first | refine blk_drewN ?_ _ | refine blk_drew ?_ | refine blk_alloc ?_ _)); exact BK_gb4.out)
  have HB0n : Aside0 (Below w.heap.size w ((w4.setCell ⟨gb4, 0, none⟩ (.slice A_a 2 c_a)).setCell ⟨gb4, 1, none⟩ (.int .i64 0))) := Aside0.mk (by repeat (first | (with_reducible first | exact HB0.out | apply below_alloc | apply pw_below_drewN | apply below_drew1 | refine below_set ?_ GE0_gb1.out | refine below_set ?_ GE0_gb4.out) | exact HB0.out))
  have HB_bn : Aside0 (Below w2.heap.size w2 ((w4.setCell ⟨gb4, 0, none⟩ (.slice A_a 2 c_a)).setCell ⟨gb4, 1, none⟩ (.int .i64 0))) := Aside0.mk (by repeat (first | (with_reducible first | exact HB_b.out | apply below_alloc | apply pw_below_drewN | apply below_drew1 | refine below_set ?_ GEb_gb4.out) | exact HB_b.out))
  have HB_an : Aside0 (Below w3.heap.size w3 ((w4.setCell ⟨gb4, 0, none⟩ (.slice A_a 2 c_a)).setCell ⟨gb4, 1, none⟩ (.int .i64 0))) := Aside0.mk (by repeat (first | (with_reducible first | exact HB_a.out | apply below_alloc | apply pw_below_drewN | apply below_drew1 | refine below_set ?_ GEa_gb4.out) | exact HB_a.out))
  clear BK_gb1 BK_gb4 HB0 HB_b HB_a hczq4_0 hfzq4_0 hczq4_1 hfzq4_1 hczq4_2 hfzq4_2 hczq4_3 hfzq4_3 hczq4_4 hfzq4_4 hczq4_5 hfzq4_5 hczq4_6 hfzq4_6 hczq5_0 hfzq5_0 hczq5_1 hfzq5_1 hnq6 hmq6
  have BK_gb1 := BKn_gb1
  have BK_gb4 := BKn_gb4
  have HB0 := HB0n
  have HB_b := HB_bn
  have HB_a := HB_an
  clear BKn_gb1 BKn_gb4 HB0n HB_bn HB_an
  generalize ((w4.setCell ⟨gb4, 0, none⟩ (.slice A_a 2 c_a)).setCell ⟨gb4, 1, none⟩ (.int .i64 0)) = w5 at BK_gb1 BK_gb4 HB0 HB_b HB_a ⊢
  have hczq7_0 : w5.cell? ⟨gb1, 0, none⟩ = some (.int .i64 3) := (blk_cell BK_gb1.out 0).trans rfl; have hfzq7_0 := blk_frozen BK_gb1.out 0; have hczq7_1 : w5.cell? ⟨gb1, 1, none⟩ = some (.int .i64 16) := (blk_cell BK_gb1.out 1).trans rfl; have hfzq7_1 := blk_frozen BK_gb1.out 1; have hczq7_2 : w5.cell? ⟨gb1, 2, none⟩ = some (.int .i64 2) := (blk_cell BK_gb1.out 2).trans rfl; have hfzq7_2 := blk_frozen BK_gb1.out 2; have hczq7_3 : w5.cell? ⟨gb1, 3, none⟩ = some (.slice none 0 0) := (blk_cell BK_gb1.out 3).trans rfl; have hfzq7_3 := blk_frozen BK_gb1.out 3; have hczq7_4 : w5.cell? ⟨gb1, 4, none⟩ = some (.int .i64 0) := (blk_cell BK_gb1.out 4).trans rfl; have hfzq7_4 := blk_frozen BK_gb1.out 4; have hczq7_5 : w5.cell? ⟨gb1, 5, none⟩ = some (.int .i64 0) := (blk_cell BK_gb1.out 5).trans rfl; have hfzq7_5 := blk_frozen BK_gb1.out 5; have hczq7_6 : w5.cell? ⟨gb1, 6, none⟩ = some (.int .i64 0) := (blk_cell BK_gb1.out 6).trans rfl; have hfzq7_6 := blk_frozen BK_gb1.out 6
  have hczq8_0 : w5.cell? ⟨gb4, 0, none⟩ = some (.slice A_a 2 c_a) := (blk_cell BK_gb4.out 0).trans rfl; have hfzq8_0 := blk_frozen BK_gb4.out 0; have hczq8_1 : w5.cell? ⟨gb4, 1, none⟩ = some (.int .i64 0) := (blk_cell BK_gb4.out 1).trans rfl; have hfzq8_1 := blk_frozen BK_gb4.out 1
  have hnq9 := NB_gb1_gb4.out; have hmq9 := NB_gb4_gb1.out
  go_upto_region 5 with (first | (go_at_call 39; refine (PR.pdu_AnswerParse.calls 60 3 16 2 none 0 [] 0 0 0 (some _) 2 [131, 2] [] 2 0 _ (Kd.C_nil _ _) (Nat.le_refl _) (lit_C _ [131, 2] (by decide)) (Nat.le_refl _) aw3.out).mono ?_; rintro e w6 ⟨v, rfl, HR_c, HBc⟩; have BKn_gb1 : Aside0 (w6.heap[gb1]? = some (.cells #[.int .i64 3, .int .i64 16, .int .i64 2, .slice none 0 0, .int .i64 0, .int .i64 0, .int .i64 0] 24 (0, 0))) := Aside0.mk (blk_below (g := gb1) (bk_ BK_gb1) HBc); have BKn_gb4 : Aside0 (w6.heap[gb4]? = some (.cells #[.slice A_a 2 c_a, .int .i64 0] 30 (0, 0))) := Aside0.mk (blk_below (g := gb4) (bk_ BK_gb4) HBc); have HB0n := Aside0.mk (below_step (by repeat (first | (with_reducible first | exact HB0.out | apply below_alloc | apply pw_below_drewN | apply below_drew1 | refine below_set ?_ GE0_gb1.out | refine below_set ?_ GE0_gb4.out) | exact HB0.out)) HBc); have HB_bn := Aside0.mk (below_step (by repeat (first | (with_reducible first | exact HB_b.out | apply below_alloc | apply pw_below_drewN | apply below_drew1 | refine below_set ?_ GEb_gb4.out) | exact HB_b.out)) HBc); have HB_an := Aside0.mk (below_step (by repeat (first | (with_reducible first | exact HB_a.out | apply below_alloc | apply pw_below_drewN | apply below_drew1 | refine below_set ?_ GEa_gb4.out) | exact HB_a.out)) HBc); clear HBc BK_gb1 BK_gb4 HB0 HB_b HB_a hczq7_0 hfzq7_0 hczq7_1 hfzq7_1 hczq7_2 hfzq7_2 hczq7_3 hfzq7_3 hczq7_4 hfzq7_4 hczq7_5 hfzq7_5 hczq7_6 hfzq7_6 hczq8_0 hfzq8_0 hczq8_1 hfzq8_1 hnq9 hmq9; have BK_gb1 := BKn_gb1; have BK_gb4 := BKn_gb4; have HB0 := HB0n; have HB_b := HB_bn; have HB_a := HB_an; clear BKn_gb1 BKn_gb4 HB0n HB_bn HB_an; have HB_c := Aside0.mk (Below.refl w6.heap.size w6); obtain ⟨A_c, c_c, rfl⟩ := Kd.R_slice HR_c; have HV_c := Aside0.mk (Kd.R_reads' HR_c).2.2; have HC_c := Aside0.mk (Kd.R_reads' HR_c).2.1; clear HR_c; have hczq10_0 : w6.cell? ⟨gb1, 0, none⟩ = some (.int .i64 3) := (blk_cell BK_gb1.out 0).trans rfl; have hfzq10_0 := blk_frozen BK_gb1.out 0; have hczq10_1 : w6.cell? ⟨gb1, 1, none⟩ = some (.int .i64 16) := (blk_cell BK_gb1.out 1).trans rfl; have hfzq10_1 := blk_frozen BK_gb1.out 1; have hczq10_2 : w6.cell? ⟨gb1, 2, none⟩ = some (.int .i64 2) := (blk_cell BK_gb1.out 2).trans rfl; have hfzq10_2 := blk_frozen BK_gb1.out 2; have hczq10_3 : w6.cell? ⟨gb1, 3, none⟩ = some (.slice none 0 0) := (blk_cell BK_gb1.out 3).trans rfl; have hfzq10_3 := blk_frozen BK_gb1.out 3; have hczq10_4 : w6.cell? ⟨gb1, 4, none⟩ = some (.int .i64 0) := (blk_cell BK_gb1.out 4).trans rfl; have hfzq10_4 := blk_frozen BK_gb1.out 4; have hczq10_5 : w6.cell? ⟨gb1, 5, none⟩ = some (.int .i64 0) := (blk_cell BK_gb1.out 5).trans rfl; have hfzq10_5 := blk_frozen BK_gb1.out 5; have hczq10_6 : w6.cell? ⟨gb1, 6, none⟩ = some (.int .i64 0) := (blk_cell BK_gb1.out 6).trans rfl; have hfzq10_6 := blk_frozen BK_gb1.out 6; have hczq11_0 : w6.cell? ⟨gb4, 0, none⟩ = some (.slice A_a 2 c_a) := (blk_cell BK_gb4.out 0).trans rfl; have hfzq11_0 := blk_frozen BK_gb4.out 0; have hczq11_1 : w6.cell? ⟨gb4, 1, none⟩ = some (.int .i64 0) := (blk_cell BK_gb4.out 1).trans rfl; have hfzq11_1 := blk_frozen BK_gb4.out 1; have hnq12 := NB_gb1_gb4.out; have hmq12 := NB_gb4_gb1.out) | ((with_reducible refine gate_dst (N := 6) rfl ?_); refine box_event ?hg (N := 6) ?hd (cs := #[.slice none 0 0, .int .i64 0]) (t := 30) ?hr ?_; (case hd => rfl); (case hg => rfl); (case hr => first | (go_simp; done) | (go_simp; rfl)); intro gb6 hg w7 hbox HBc; have GE0_gb6 : Aside0 (w.heap.size ≤ gb6) := Aside0.mk (by rw [hg]; exact (below_size (by repeat (first | (with_reducible first | exact HB0.out | apply below_alloc | apply pw_below_drewN | apply below_drew1 | refine below_set ?_ GE0_gb1.out | refine below_set ?_ GE0_gb4.out) | exact HB0.out)))); have GEb_gb6 : Aside0 (w2.heap.size ≤ gb6) := Aside0.mk (by rw [hg]; exact (below_size (by repeat (first | (with_reducible first | exact HB_b.out | apply below_alloc | apply pw_below_drewN | apply below_drew1 | refine below_set ?_ GEb_gb4.out) | exact HB_b.out)))); have GEa_gb6 : Aside0 (w3.heap.size ≤ gb6) := Aside0.mk (by rw [hg]; exact (below_size (by repeat (first | (with_reducible first | exact HB_a.out | apply below_alloc | apply pw_below_drewN | apply below_drew1 | refine below_set ?_ GEa_gb4.out) | exact HB_a.out)))); have GEc_gb6 : Aside0 (w6.heap.size ≤ gb6) := Aside0.mk (by rw [hg]; exact (below_size (bl0_ HB_c))); have NB_gb1_gb6 : Aside0 (gb1 ≠ gb6) := Aside0.mk (ne_new (bk_ BK_gb1) hg); have NB_gb6_gb1 : Aside0 (gb6 ≠ gb1) := Aside0.mk (fun e => NB_gb1_gb6.out e.symm); have NB_gb4_gb6 : Aside0 (gb4 ≠ gb6) := Aside0.mk (ne_new (bk_ BK_gb4) hg); have NB_gb6_gb4 : Aside0 (gb6 ≠ gb4) := Aside0.mk (fun e => NB_gb4_gb6.out e.symm); clear hg; have BKn_gb1 : Aside0 (w7.heap[gb1]? = some (.cells #[.int .i64 3, .int .i64 16, .int .i64 2, .slice none 0 0, .int .i64 0, .int .i64 0, .int .i64 0] 24 (0, 0))) := Aside0.mk (blk_below (g := gb1) (bk_ BK_gb1) HBc); have BKn_gb4 : Aside0 (w7.heap[gb4]? = some (.cells #[.slice A_a 2 c_a, .int .i64 0] 30 (0, 0))) := Aside0.mk (blk_below (g := gb4) (bk_ BK_gb4) HBc); have HB0n := Aside0.mk (below_step (by repeat (first | (with_reducible first | exact HB0.out | apply below_alloc | apply pw_below_drewN | apply below_drew1 | refine below_set ?_ GE0_gb1.out | refine below_set ?_ GE0_gb4.out | refine below_set ?_ GE0_gb6.out) | exact HB0.out)) HBc); have HB_bn := Aside0.mk (below_step (by repeat (first | (with_reducible first | exact HB_b.out | apply below_alloc | apply pw_below_drewN | apply below_drew1 | refine below_set ?_ GEb_gb4.out | refine below_set ?_ GEb_gb6.out) | exact HB_b.out)) HBc); have HB_an := Aside0.mk (below_step (by repeat (first | (with_reducible first | exact HB_a.out | apply below_alloc | apply pw_below_drewN | apply below_drew1 | refine below_set ?_ GEa_gb4.out | refine below_set ?_ GEa_gb6.out) | exact HB_a.out)) HBc); have HB_cn := Aside0.mk (below_step (by repeat (first | (with_reducible first | exact HB_c.out | apply below_alloc | apply pw_below_drewN | apply below_drew1 | refine below_set ?_ GEc_gb6.out) | exact HB_c.out)) HBc); clear HBc BK_gb1 BK_gb4 HB0 HB_b HB_a HB_c hczq10_0 hfzq10_0 hczq10_1 hfzq10_1 hczq10_2 hfzq10_2 hczq10_3 hfzq10_3 hczq10_4 hfzq10_4 hczq10_5 hfzq10_5 hczq10_6 hfzq10_6 hczq11_0 hfzq11_0 hczq11_1 hfzq11_1 hnq12 hmq12; have BK_gb1 := BKn_gb1; have BK_gb4 := BKn_gb4; have HB0 := HB0n; have HB_b := HB_bn; have HB_a := HB_an; have HB_c := HB_cn; clear BKn_gb1 BKn_gb4 HB0n HB_bn HB_an HB_cn; have BK_gb6 := Aside0.mk hbox; clear hbox; have hczq13_0 : w7.cell? ⟨gb1, 0, none⟩ = some (.int .i64 3) := (blk_cell BK_gb1.out 0).trans rfl; have hfzq13_0 := blk_frozen BK_gb1.out 0; have hczq13_1 : w7.cell? ⟨gb1, 1, none⟩ = some (.int .i64 16) := (blk_cell BK_gb1.out 1).trans rfl; have hfzq13_1 := blk_frozen BK_gb1.out 1; have hczq13_2 : w7.cell? ⟨gb1, 2, none⟩ = some (.int .i64 2) := (blk_cell BK_gb1.out 2).trans rfl; have hfzq13_2 := blk_frozen BK_gb1.out 2; have hczq13_3 : w7.cell? ⟨gb1, 3, none⟩ = some (.slice none 0 0) := (blk_cell BK_gb1.out 3).trans rfl; have hfzq13_3 := blk_frozen BK_gb1.out 3; have hczq13_4 : w7.cell? ⟨gb1, 4, none⟩ = some (.int .i64 0) := (blk_cell BK_gb1.out 4).trans rfl; have hfzq13_4 := blk_frozen BK_gb1.out 4; have hczq13_5 : w7.cell? ⟨gb1, 5, none⟩ = some (.int .i64 0) := (blk_cell BK_gb1.out 5).trans rfl; have hfzq13_5 := blk_frozen BK_gb1.out 5; have hczq13_6 : w7.cell? ⟨gb1, 6, none⟩ = some (.int .i64 0) := (blk_cell BK_gb1.out 6).trans rfl; have hfzq13_6 := blk_frozen BK_gb1.out 6; have hczq14_0 : w7.cell? ⟨gb4, 0, none⟩ = some (.slice A_a 2 c_a) := (blk_cell BK_gb4.out 0).trans rfl; have hfzq14_0 := blk_frozen BK_gb4.out 0; have hczq14_1 : w7.cell? ⟨gb4, 1, none⟩ = some (.int .i64 0) := (blk_cell BK_gb4.out 1).trans rfl; have hfzq14_1 := blk_frozen BK_gb4.out 1; have hczq15_0 : w7.cell? ⟨gb6, 0, none⟩ = some (.slice none 0 0) := (blk_cell BK_gb6.out 0).trans rfl; have hfzq15_0 := blk_frozen BK_gb6.out 0; have hczq15_1 : w7.cell? ⟨gb6, 1, none⟩ = some (.int .i64 0) := (blk_cell BK_gb6.out 1).trans rfl; have hfzq15_1 := blk_frozen BK_gb6.out 1; have hnq16 := NB_gb1_gb4.out; have hmq16 := NB_gb4_gb1.out; have hnq17 := NB_gb1_gb6.out; have hmq17 := NB_gb6_gb1.out; have hnq18 := NB_gb4_gb6.out; have hmq18 := NB_gb6_gb4.out))
  have BKn_gb1 : Aside0 (((w7.setCell ⟨gb6, 0, none⟩ (.slice A_c 0 c_c)).setCell ⟨gb6, 1, none⟩ (.int .i64 2)).heap[gb1]? = some (.cells #[.int .i64 3, .int .i64 16, .int .i64 2, .slice none 0 0, .int .i64 0, .int .i64 0, .int .i64 0] 24 (0, 0))) := Aside0.mk (by (with_reducible repeat (first | refine blk_drewN ?_ _ | refine blk_drew ?_ | refine blk_alloc ?_ _)); refine blk_far ?_ NB_gb1_gb6.out _; (with_reducible repeat (first | refine blk_drewN ?_ _ | refine blk_drew ?_ | refine blk_alloc ?_ _)); refine blk_far ?_ NB_gb1_gb6.out _; (with_reducible repeat (first | refine blk_drewN ?_ _ | refine blk_drew ?_ | refine blk_alloc ?_ _)); exact BK_gb1.out)
  have BKn_gb4 : Aside0 (((w7.setCell ⟨gb6, 0, none⟩ (.slice A_c 0 c_c)).setCell ⟨gb6, 1, none⟩ (.int .i64 2)).heap[gb4]? = some (.cells #[.slice A_a 2 c_a, .int .i64 0] 30 (0, 0))) := Aside0.mk (by (with_reducible repeat (first | refine blk_drewN ?_ _ | refine blk_drew ?_ | refine blk_alloc ?_ _)); refine blk_far ?_ NB_gb4_gb6.out _; (with_reducible repeat (first | refine blk_drewN ?_ _ | refine blk_drew ?_ | refine blk_alloc ?_ _)); refine blk_far ?_ NB_gb4_gb6.out _; (with_reducible repeat (first | refine blk_drewN ?_ _ | refine blk_drew ?_ | refine blk_alloc ?_ _)); exact BK_gb4.out)
  have BKn_gb6 : Aside0 (((w7.setCell ⟨gb6, 0, none⟩ (.slice A_c 0 c_c)).setCell ⟨gb6, 1, none⟩ (.int .i64 2)).heap[gb6]? = some (.cells #[.slice A_c 0 c_c, .int .i64 2] 30 (0, 0))) := Aside0.mk (by (with_reducible repeat (first | refine blk_drewN ?_ _ | refine blk_drew ?_ | refine blk_alloc ?_ _)); refine blk_put (cs := #[.slice A_c 0 c_c, .int .i64 0]) ?_ 1 _ rfl; (with_reducible repeat (first | refine blk_drewN ?_ _ | refine blk_drew ?_ | refine blk_alloc ?_ _)); refine blk_put (cs := #[.slice none 0 0, .int .i64 0]) ?_ 0 _ rfl; (with_reducible repeat (first | refine blk_drewN ?_ _ | refine blk_drew ?_ | refine blk_alloc ?_ _)); exact BK_gb6.out)
  have HB0n : Aside0 (Below w.heap.size w ((w7.setCell ⟨gb6, 0, none⟩ (.slice A_c 0 c_c)).setCell ⟨gb6, 1, none⟩ (.int .i64 2))) := Aside0.mk (by repeat (first | (with_reducible first | exact HB0.out | apply below_alloc | apply pw_below_drewN | apply below_drew1 | refine below_set ?_ GE0_gb1.out | refine below_set ?_ GE0_gb4.out | refine below_set ?_ GE0_gb6.out) | exact HB0.out))
  have HB_bn : Aside0 (Below w2.heap.size w2 ((w7.setCell ⟨gb6, 0, none⟩ (.slice A_c 0 c_c)).setCell ⟨gb6, 1, none⟩ (.int .i64 2))) := Aside0.mk (by repeat (first | (with_reducible first | exact HB_b.out | apply below_alloc | apply pw_below_drewN | apply below_drew1 | refine below_set ?_ GEb_gb4.out | refine below_set ?_ GEb_gb6.out) | exact HB_b.out))
  have HB_an : Aside0 (Below w3.heap.size w3 ((w7.setCell ⟨gb6, 0, none⟩ (.slice A_c 0 c_c)).setCell ⟨gb6, 1, none⟩ (.int .i64 2))) := Aside0.mk (by repeat (first | (with_reducible first | exact HB_a.out | apply below_alloc | apply pw_below_drewN | apply below_drew1 | refine below_set ?_ GEa_gb4.out | refine below_set ?_ GEa_gb6.out) | exact HB_a.out))
  have HB_cn : Aside0 (Below w6.heap.size w6 ((w7.setCell ⟨gb6, 0, none⟩ (.slice A_c 0 c_c)).setCell ⟨gb6, 1, none⟩ (.int .i64 2))) := Aside0.mk (by repeat (first | (with_reducible first | exact HB_c.out | apply below_alloc | apply pw_below_drewN | apply below_drew1 | refine below_set ?_ GEc_gb6.out) | exact HB_c.out))
  clear BK_gb1 BK_gb4 BK_gb6 HB0 HB_b HB_a HB_c hczq13_0 hfzq13_0 hczq13_1 hfzq13_1 hczq13_2 hfzq13_2 hczq13_3 hfzq13_3 hczq13_4 hfzq13_4 hczq13_5 hfzq13_5 hczq13_6 hfzq13_6 hczq14_0 hfzq14_0 hczq14_1 hfzq14_1 hczq15_0 hfzq15_0 hczq15_1 hfzq15_1 hnq16 hmq16 hnq17 hmq17 hnq18 hmq18
  have BK_gb1 := BKn_gb1
  have BK_gb4 := BKn_gb4
  have BK_gb6 := BKn_gb6
  have HB0 := HB0n
  have HB_b := HB_bn
  have HB_a := HB_an
  have HB_c := HB_cn
  clear BKn_gb1 BKn_gb4 BKn_gb6 HB0n HB_bn HB_an HB_cn
  generalize ((w7.setCell ⟨gb6, 0, none⟩ (.slice A_c 0 c_c)).setCell ⟨gb6, 1, none⟩ (.int .i64 2)) = w8 at BK_gb1 BK_gb4 BK_gb6 HB0 HB_b HB_a HB_c ⊢
  have hczq19_0 : w8.cell? ⟨gb1, 0, none⟩ = some (.int .i64 3) := (blk_cell BK_gb1.out 0).trans rfl; have hfzq19_0 := blk_frozen BK_gb1.out 0; have hczq19_1 : w8.cell? ⟨gb1, 1, none⟩ = some (.int .i64 16) := (blk_cell BK_gb1.out 1).trans rfl; have hfzq19_1 := blk_frozen BK_gb1.out 1; have hczq19_2 : w8.cell? ⟨gb1, 2, none⟩ = some (.int .i64 2) := (blk_cell BK_gb1.out 2).trans rfl; have hfzq19_2 := blk_frozen BK_gb1.out 2; have hczq19_3 : w8.cell? ⟨gb1, 3, none⟩ = some (.slice none 0 0) := (blk_cell BK_gb1.out 3).trans rfl; have hfzq19_3 := blk_frozen BK_gb1.out 3; have hczq19_4 : w8.cell? ⟨gb1, 4, none⟩ = some (.int .i64 0) := (blk_cell BK_gb1.out 4).trans rfl; have hfzq19_4 := blk_frozen BK_gb1.out 4; have hczq19_5 : w8.cell? ⟨gb1, 5, none⟩ = some (.int .i64 0) := (blk_cell BK_gb1.out 5).trans rfl; have hfzq19_5 := blk_frozen BK_gb1.out 5; have hczq19_6 : w8.cell? ⟨gb1, 6, none⟩ = some (.int .i64 0) := (blk_cell BK_gb1.out 6).trans rfl; have hfzq19_6 := blk_frozen BK_gb1.out 6
  have hczq20_0 : w8.cell? ⟨gb4, 0, none⟩ = some (.slice A_a 2 c_a) := (blk_cell BK_gb4.out 0).trans rfl; have hfzq20_0 := blk_frozen BK_gb4.out 0; have hczq20_1 : w8.cell? ⟨gb4, 1, none⟩ = some (.int .i64 0) := (blk_cell BK_gb4.out 1).trans rfl; have hfzq20_1 := blk_frozen BK_gb4.out 1
  have hczq21_0 : w8.cell? ⟨gb6, 0, none⟩ = some (.slice A_c 0 c_c) := (blk_cell BK_gb6.out 0).trans rfl; have hfzq21_0 := blk_frozen BK_gb6.out 0; have hczq21_1 : w8.cell? ⟨gb6, 1, none⟩ = some (.int .i64 2) := (blk_cell BK_gb6.out 1).trans rfl; have hfzq21_1 := blk_frozen BK_gb6.out 1
  have hnq22 := NB_gb1_gb4.out; have hmq22 := NB_gb4_gb1.out
  have hnq23 := NB_gb1_gb6.out; have hmq23 := NB_gb6_gb1.out
  have hnq24 := NB_gb4_gb6.out; have hmq24 := NB_gb6_gb4.out
  go_upto_region 6 with (first | (go_at_call 34; refine (pdu_Parse.calls (some _) 5 [5, 0, 1, 0, 1] 0 0 0 [] 0 0 0 4 _ (lit_C _ [5, 0, 1, 0, 1] (by decide)) (Nat.le_refl _) aw4.out).mono ?_; rintro e w9 ⟨A_d, c_d, rfl, HC0_d, HV0_d, HBc⟩; have BKn_gb1 : Aside0 (w9.heap[gb1]? = some (.cells #[.int .i64 3, .int .i64 16, .int .i64 2, .slice none 0 0, .int .i64 0, .int .i64 0, .int .i64 0] 24 (0, 0))) := Aside0.mk (blk_below (g := gb1) (bk_ BK_gb1) HBc); have BKn_gb4 : Aside0 (w9.heap[gb4]? = some (.cells #[.slice A_a 2 c_a, .int .i64 0] 30 (0, 0))) := Aside0.mk (blk_below (g := gb4) (bk_ BK_gb4) HBc); have BKn_gb6 : Aside0 (w9.heap[gb6]? = some (.cells #[.slice A_c 0 c_c, .int .i64 2] 30 (0, 0))) := Aside0.mk (blk_below (g := gb6) (bk_ BK_gb6) HBc); have HB0n := Aside0.mk (below_step (by repeat (first | (with_reducible first | exact HB0.out | apply below_alloc | apply pw_below_drewN | apply below_drew1 | refine below_set ?_ GE0_gb1.out | refine below_set ?_ GE0_gb4.out | refine below_set ?_ GE0_gb6.out) | exact HB0.out)) HBc); have HB_bn := Aside0.mk (below_step (by repeat (first | (with_reducible first | exact HB_b.out | apply below_alloc | apply pw_below_drewN | apply below_drew1 | refine below_set ?_ GEb_gb4.out | refine below_set ?_ GEb_gb6.out) | exact HB_b.out)) HBc); have HB_an := Aside0.mk (below_step (by repeat (first | (with_reducible first | exact HB_a.out | apply below_alloc | apply pw_below_drewN | apply below_drew1 | refine below_set ?_ GEa_gb4.out | refine below_set ?_ GEa_gb6.out) | exact HB_a.out)) HBc); have HB_cn := Aside0.mk (below_step (by repeat (first | (with_reducible first | exact HB_c.out | apply below_alloc | apply pw_below_drewN | apply below_drew1 | refine below_set ?_ GEc_gb6.out) | exact HB_c.out)) HBc); clear HBc BK_gb1 BK_gb4 BK_gb6 HB0 HB_b HB_a HB_c hczq19_0 hfzq19_0 hczq19_1 hfzq19_1 hczq19_2 hfzq19_2 hczq19_3 hfzq19_3 hczq19_4 hfzq19_4 hczq19_5 hfzq19_5 hczq19_6 hfzq19_6 hczq20_0 hfzq20_0 hczq20_1 hfzq20_1 hczq21_0 hfzq21_0 hczq21_1 hfzq21_1 hnq22 hmq22 hnq23 hmq23 hnq24 hmq24; have BK_gb1 := BKn_gb1; have BK_gb4 := BKn_gb4; have BK_gb6 := BKn_gb6; have HB0 := HB0n; have HB_b := HB_bn; have HB_a := HB_an; have HB_c := HB_cn; clear BKn_gb1 BKn_gb4 BKn_gb6 HB0n HB_bn HB_an HB_cn; have HV_d := Aside0.mk HV0_d; have HC_d := Aside0.mk HC0_d; clear HV0_d HC0_d; have HB_d := Aside0.mk (Below.refl w9.heap.size w9); have hczq25_0 : w9.cell? ⟨gb1, 0, none⟩ = some (.int .i64 3) := (blk_cell BK_gb1.out 0).trans rfl; have hfzq25_0 := blk_frozen BK_gb1.out 0; have hczq25_1 : w9.cell? ⟨gb1, 1, none⟩ = some (.int .i64 16) := (blk_cell BK_gb1.out 1).trans rfl; have hfzq25_1 := blk_frozen BK_gb1.out 1; have hczq25_2 : w9.cell? ⟨gb1, 2, none⟩ = some (.int .i64 2) := (blk_cell BK_gb1.out 2).trans rfl; have hfzq25_2 := blk_frozen BK_gb1.out 2; have hczq25_3 : w9.cell? ⟨gb1, 3, none⟩ = some (.slice none 0 0) := (blk_cell BK_gb1.out 3).trans rfl; have hfzq25_3 := blk_frozen BK_gb1.out 3; have hczq25_4 : w9.cell? ⟨gb1, 4, none⟩ = some (.int .i64 0) := (blk_cell BK_gb1.out 4).trans rfl; have hfzq25_4 := blk_frozen BK_gb1.out 4; have hczq25_5 : w9.cell? ⟨gb1, 5, none⟩ = some (.int .i64 0) := (blk_cell BK_gb1.out 5).trans rfl; have hfzq25_5 := blk_frozen BK_gb1.out 5; have hczq25_6 : w9.cell? ⟨gb1, 6, none⟩ = some (.int .i64 0) := (blk_cell BK_gb1.out 6).trans rfl; have hfzq25_6 := blk_frozen BK_gb1.out 6; have hczq26_0 : w9.cell? ⟨gb4, 0, none⟩ = some (.slice A_a 2 c_a) := (blk_cell BK_gb4.out 0).trans rfl; have hfzq26_0 := blk_frozen BK_gb4.out 0; have hczq26_1 : w9.cell? ⟨gb4, 1, none⟩ = some (.int .i64 0) := (blk_cell BK_gb4.out 1).trans rfl; have hfzq26_1 := blk_frozen BK_gb4.out 1; have hczq27_0 : w9.cell? ⟨gb6, 0, none⟩ = some (.slice A_c 0 c_c) := (blk_cell BK_gb6.out 0).trans rfl; have hfzq27_0 := blk_frozen BK_gb6.out 0; have hczq27_1 : w9.cell? ⟨gb6, 1, none⟩ = some (.int .i64 2) := (blk_cell BK_gb6.out 1).trans rfl; have hfzq27_1 := blk_frozen BK_gb6.out 1; have hnq28 := NB_gb1_gb4.out; have hmq28 := NB_gb4_gb1.out; have hnq29 := NB_gb1_gb6.out; have hmq29 := NB_gb6_gb1.out; have hnq30 := NB_gb4_gb6.out; have hmq30 := NB_gb6_gb4.out) | ((with_reducible refine gate_dst (N := 8) rfl ?_); refine box_event ?hg (N := 8) ?hd (cs := #[.int .i64 0, .int .i64 0, .int .i64 0, .slice none 0 0, .int .i64 0, .int .i64 0, .int .i64 0]) (t := 24) ?hr ?_; (case hd => rfl); (case hg => rfl); (case hr => first | (go_simp; done) | (go_simp; rfl)); intro gb8 hg w10 hbox HBc; have GE0_gb8 : Aside0 (w.heap.size ≤ gb8) := Aside0.mk (by rw [hg]; exact (below_size (by repeat (first | (with_reducible first | exact HB0.out | apply below_alloc | apply pw_below_drewN | apply below_drew1 | refine below_set ?_ GE0_gb1.out | refine below_set ?_ GE0_gb4.out | refine below_set ?_ GE0_gb6.out) | exact HB0.out)))); have GEb_gb8 : Aside0 (w2.heap.size ≤ gb8) := Aside0.mk (by rw [hg]; exact (below_size (by repeat (first | (with_reducible first | exact HB_b.out | apply below_alloc | apply pw_below_drewN | apply below_drew1 | refine below_set ?_ GEb_gb4.out | refine below_set ?_ GEb_gb6.out) | exact HB_b.out)))); have GEa_gb8 : Aside0 (w3.heap.size ≤ gb8) := Aside0.mk (by rw [hg]; exact (below_size (by repeat (first | (with_reducible first | exact HB_a.out | apply below_alloc | apply pw_below_drewN | apply below_drew1 | refine below_set ?_ GEa_gb4.out | refine below_set ?_ GEa_gb6.out) | exact HB_a.out)))); have GEc_gb8 : Aside0 (w6.heap.size ≤ gb8) := Aside0.mk (by rw [hg]; exact (below_size (by repeat (first | (with_reducible first | exact HB_c.out | apply below_alloc | apply pw_below_drewN | apply below_drew1 | refine below_set ?_ GEc_gb6.out) | exact HB_c.out)))); have GEd_gb8 : Aside0 (w9.heap.size ≤ gb8) := Aside0.mk (by rw [hg]; exact (below_size (bl0_ HB_d))); have NB_gb1_gb8 : Aside0 (gb1 ≠ gb8) := Aside0.mk (ne_new (bk_ BK_gb1) hg); have NB_gb8_gb1 : Aside0 (gb8 ≠ gb1) := Aside0.mk (fun e => NB_gb1_gb8.out e.symm); have NB_gb4_gb8 : Aside0 (gb4 ≠ gb8) := Aside0.mk (ne_new (bk_ BK_gb4) hg); have NB_gb8_gb4 : Aside0 (gb8 ≠ gb4) := Aside0.mk (fun e => NB_gb4_gb8.out e.symm); have NB_gb6_gb8 : Aside0 (gb6 ≠ gb8) := Aside0.mk (ne_new (bk_ BK_gb6) hg); have NB_gb8_gb6 : Aside0 (gb8 ≠ gb6) := Aside0.mk (fun e => NB_gb6_gb8.out e.symm); clear hg; have BKn_gb1 : Aside0 (w10.heap[gb1]? = some (.cells #[.int .i64 3, .int .i64 16, .int .i64 2, .slice none 0 0, .int .i64 0, .int .i64 0, .int .i64 0] 24 (0, 0))) := Aside0.mk (blk_below (g := gb1) (bk_ BK_gb1) HBc); have BKn_gb4 : Aside0 (w10.heap[gb4]? = some (.cells #[.slice A_a 2 c_a, .int .i64 0] 30 (0, 0))) := Aside0.mk (blk_below (g := gb4) (bk_ BK_gb4) HBc); have BKn_gb6 : Aside0 (w10.heap[gb6]? = some (.cells #[.slice A_c 0 c_c, .int .i64 2] 30 (0, 0))) := Aside0.mk (blk_below (g := gb6) (bk_ BK_gb6) HBc); have HB0n := Aside0.mk (below_step (by repeat (first | (with_reducible first | exact HB0.out | apply below_alloc | apply pw_below_drewN | apply below_drew1 | refine below_set ?_ GE0_gb1.out | refine below_set ?_ GE0_gb4.out | refine below_set ?_ GE0_gb6.out | refine below_set ?_ GE0_gb8.out) | exact HB0.out)) HBc); have HB_bn := Aside0.mk (below_step (by repeat (first | (with_reducible first | exact HB_b.out | apply below_alloc | apply pw_below_drewN | apply below_drew1 | refine below_set ?_ GEb_gb4.out | refine below_set ?_ GEb_gb6.out | refine below_set ?_ GEb_gb8.out) | exact HB_b.out)) HBc); have HB_an := Aside0.mk (below_step (by repeat (first | (with_reducible first | exact HB_a.out | apply below_alloc | apply pw_below_drewN | apply below_drew1 | refine below_set ?_ GEa_gb4.out | refine below_set ?_ GEa_gb6.out | refine below_set ?_ GEa_gb8.out) | exact HB_a.out)) HBc); have HB_cn := Aside0.mk (below_step (by repeat (first | (with_reducible first | exact HB_c.out | apply below_alloc | apply pw_below_drewN | apply below_drew1 | refine below_set ?_ GEc_gb6.out | refine below_set ?_ GEc_gb8.out) | exact HB_c.out)) HBc); have HB_dn := Aside0.mk (below_step (by repeat (first | (with_reducible first | exact HB_d.out | apply below_alloc | apply pw_below_drewN | apply below_drew1 | refine below_set ?_ GEd_gb8.out) | exact HB_d.out)) HBc); clear HBc BK_gb1 BK_gb4 BK_gb6 HB0 HB_b HB_a HB_c HB_d hczq25_0 hfzq25_0 hczq25_1 hfzq25_1 hczq25_2 hfzq25_2 hczq25_3 hfzq25_3 hczq25_4 hfzq25_4 hczq25_5 hfzq25_5 hczq25_6 hfzq25_6 hczq26_0 hfzq26_0 hczq26_1 hfzq26_1 hczq27_0 hfzq27_0 hczq27_1 hfzq27_1 hnq28 hmq28 hnq29 hmq29 hnq30 hmq30; have BK_gb1 := BKn_gb1; have BK_gb4 := BKn_gb4; have BK_gb6 := BKn_gb6; have HB0 := HB0n; have HB_b := HB_bn; have HB_a := HB_an; have HB_c := HB_cn; have HB_d := HB_dn; clear BKn_gb1 BKn_gb4 BKn_gb6 HB0n HB_bn HB_an HB_cn HB_dn; have BK_gb8 := Aside0.mk hbox; clear hbox; have hczq31_0 : w10.cell? ⟨gb1, 0, none⟩ = some (.int .i64 3) := (blk_cell BK_gb1.out 0).trans rfl; have hfzq31_0 := blk_frozen BK_gb1.out 0; have hczq31_1 : w10.cell? ⟨gb1, 1, none⟩ = some (.int .i64 16) := (blk_cell BK_gb1.out 1).trans rfl; have hfzq31_1 := blk_frozen BK_gb1.out 1; have hczq31_2 : w10.cell? ⟨gb1, 2, none⟩ = some (.int .i64 2) := (blk_cell BK_gb1.out 2).trans rfl; have hfzq31_2 := blk_frozen BK_gb1.out 2; have hczq31_3 : w10.cell? ⟨gb1, 3, none⟩ = some (.slice none 0 0) := (blk_cell BK_gb1.out 3).trans rfl; have hfzq31_3 := blk_frozen BK_gb1.out 3; have hczq31_4 : w10.cell? ⟨gb1, 4, none⟩ = some (.int .i64 0) := (blk_cell BK_gb1.out 4).trans rfl; have hfzq31_4 := blk_frozen BK_gb1.out 4; have hczq31_5 : w10.cell? ⟨gb1, 5, none⟩ = some (.int .i64 0) := (blk_cell BK_gb1.out 5).trans rfl; have hfzq31_5 := blk_frozen BK_gb1.out 5; have hczq31_6 : w10.cell? ⟨gb1, 6, none⟩ = some (.int .i64 0) := (blk_cell BK_gb1.out 6).trans rfl; have hfzq31_6 := blk_frozen BK_gb1.out 6; have hczq32_0 : w10.cell? ⟨gb4, 0, none⟩ = some (.slice A_a 2 c_a) := (blk_cell BK_gb4.out 0).trans rfl; have hfzq32_0 := blk_frozen BK_gb4.out 0; have hczq32_1 : w10.cell? ⟨gb4, 1, none⟩ = some (.int .i64 0) := (blk_cell BK_gb4.out 1).trans rfl; have hfzq32_1 := blk_frozen BK_gb4.out 1; have hczq33_0 : w10.cell? ⟨gb6, 0, none⟩ = some (.slice A_c 0 c_c) := (blk_cell BK_gb6.out 0).trans rfl; have hfzq33_0 := blk_frozen BK_gb6.out 0; have hczq33_1 : w10.cell? ⟨gb6, 1, none⟩ = some (.int .i64 2) := (blk_cell BK_gb6.out 1).trans rfl; have hfzq33_1 := blk_frozen BK_gb6.out 1; have hczq34_0 : w10.cell? ⟨gb8, 0, none⟩ = some (.int .i64 0) := (blk_cell BK_gb8.out 0).trans rfl; have hfzq34_0 := blk_frozen BK_gb8.out 0; have hczq34_1 : w10.cell? ⟨gb8, 1, none⟩ = some (.int .i64 0) := (blk_cell BK_gb8.out 1).trans rfl; have hfzq34_1 := blk_frozen BK_gb8.out 1; have hczq34_2 : w10.cell? ⟨gb8, 2, none⟩ = some (.int .i64 0) := (blk_cell BK_gb8.out 2).trans rfl; have hfzq34_2 := blk_frozen BK_gb8.out 2; have hczq34_3 : w10.cell? ⟨gb8, 3, none⟩ = some (.slice none 0 0) := (blk_cell BK_gb8.out 3).trans rfl; have hfzq34_3 := blk_frozen BK_gb8.out 3; have hczq34_4 : w10.cell? ⟨gb8, 4, none⟩ = some (.int .i64 0) := (blk_cell BK_gb8.out 4).trans rfl; have hfzq34_4 := blk_frozen BK_gb8.out 4; have hczq34_5 : w10.cell? ⟨gb8, 5, none⟩ = some (.int .i64 0) := (blk_cell BK_gb8.out 5).trans rfl; have hfzq34_5 := blk_frozen BK_gb8.out 5; have hczq34_6 : w10.cell? ⟨gb8, 6, none⟩ = some (.int .i64 0) := (blk_cell BK_gb8.out 6).trans rfl; have hfzq34_6 := blk_frozen BK_gb8.out 6; have hnq35 := NB_gb1_gb4.out; have hmq35 := NB_gb4_gb1.out; have hnq36 := NB_gb1_gb6.out; have hmq36 := NB_gb6_gb1.out; have hnq37 := NB_gb1_gb8.out; have hmq37 := NB_gb8_gb1.out; have hnq38 := NB_gb4_gb6.out; have hmq38 := NB_gb6_gb4.out; have hnq39 := NB_gb4_gb8.out; have hmq39 := NB_gb8_gb4.out; have hnq40 := NB_gb6_gb8.out; have hmq40 := NB_gb8_gb6.out))
  have BKn_gb1 : Aside0 ((((((((w10.setCell ⟨gb8, 0, none⟩ (.int .i64 0)).setCell ⟨gb8, 1, none⟩ (.int .i64 0)).setCell ⟨gb8, 2, none⟩ (.int .i64 0)).setCell ⟨gb8, 3, none⟩ (.slice A_d 0 c_d)).setCell ⟨gb8, 4, none⟩ (.int .i64 0)).setCell ⟨gb8, 5, none⟩ (.int .i64 0)).setCell ⟨gb8, 6, none⟩ (.int .i64 0)).heap[gb1]? = some (.cells #[.int .i64 3, .int .i64 16, .int .i64 2, .slice none 0 0, .int .i64 0, .int .i64 0, .int .i64 0] 24 (0, 0))) := Aside0.mk (by (with_reducible repeat (first | refine blk_drewN ?_ _ | refine blk_drew ?_ | refine blk_alloc ?_ _)); refine blk_far ?_ NB_gb1_gb8.out _; (with_reducible repeat (first | refine blk_drewN ?_ _ | refine blk_drew ?_ | refine blk_alloc ?_ _)); refine blk_far ?_ NB_gb1_gb8.out _; (with_reducible repeat (first | refine blk_drewN ?_ _ | refine blk_drew ?_ | refine blk_alloc ?_ _)); refine blk_far ?_ NB_gb1_gb8.out _; (with_reducible repeat (first | refine blk_drewN ?_ _ | refine blk_drew ?_ | refine blk_alloc ?_ _)); refine blk_far ?_ NB_gb1_gb8.out _; (with_reducible repeat (first | refine blk_drewN ?_ _ | refine blk_drew ?_ | refine blk_alloc ?_ _)); refine blk_far ?_ NB_gb1_gb8.out _; (with_reducible repeat (first | refine blk_drewN ?_ _ | refine blk_drew ?_ | refine blk_alloc ?_ _)); refine blk_far ?_ NB_gb1_gb8.out _; (with_reducible repeat (first | refine blk_drewN ?_ _ | refine blk_drew ?_ | refine blk_alloc ?_ _)); refine blk_far ?_ NB_gb1_gb8.out _; (with_reducible repeat (first | refine blk_drewN ?_ _ | refine blk_drew ?_ | refine blk_alloc ?_ _)); exact BK_gb1.out)
  have BKn_gb4 : Aside0 ((((((((w10.setCell ⟨gb8, 0, none⟩ (.int .i64 0)).setCell ⟨gb8, 1, none⟩ (.int .i64 0)).setCell ⟨gb8, 2, none⟩ (.int .i64 0)).setCell ⟨gb8, 3, none⟩ (.slice A_d 0 c_d)).setCell ⟨gb8, 4, none⟩ (.int .i64 0)).setCell ⟨gb8, 5, none⟩ (.int .i64 0)).setCell ⟨gb8, 6, none⟩ (.int .i64 0)).heap[gb4]? = some (.cells #[.slice A_a 2 c_a, .int .i64 0] 30 (0, 0))) := Aside0.mk (by (with_reducible repeat (first | refine blk_drewN ?_ _ | refine blk_drew ?_ | refine blk_alloc ?_ _)); refine blk_far ?_ NB_gb4_gb8.out _; (with_reducible repeat (first | refine blk_drewN ?_ _ | refine blk_drew ?_ | refine blk_alloc ?_ _)); refine blk_far ?_ NB_gb4_gb8.out _; (with_reducible repeat (first | refine blk_drewN ?_ _ | refine blk_drew ?_ | refine blk_alloc ?_ _)); refine blk_far ?_ NB_gb4_gb8.out _; (with_reducible repeat (first | refine blk_drewN ?_ _ | refine blk_drew ?_ | refine blk_alloc ?_ _)); refine blk_far ?_ NB_gb4_gb8.out _; (with_reducible repeat (first | refine blk_drewN ?_ _ | refine blk_drew ?_ | refine blk_alloc ?_ _)); refine blk_far ?_ NB_gb4_gb8.out _; (with_reducible repeat (first | refine blk_drewN ?_ _ | refine blk_drew ?_ | refine blk_alloc ?_ _)); refine blk_far ?_ NB_gb4_gb8.out _; (with_reducible repeat (first | refine blk_drewN ?_ _ | refine blk_drew ?_ | refine blk_alloc ?_ _)); refine blk_far ?_ NB_gb4_gb8.out _; (with_reducible repeat (first | refine blk_drewN ?_ _ | refine blk_drew ?_ | refine blk_alloc ?_ _)); exact BK_gb4.out)
  have BKn_gb6 : Aside0 ((((((((w10.setCell ⟨gb8, 0, none⟩ (.int .i64 0)).setCell ⟨gb8, 1, none⟩ (.int .i64 0)).setCell ⟨gb8, 2, none⟩ (.int .i64 0)).setCell ⟨gb8, 3, none⟩ (.slice A_d 0 c_d)).setCell ⟨gb8, 4, none⟩ (.int .i64 0)).setCell ⟨gb8, 5, none⟩ (.int .i64 0)).setCell ⟨gb8, 6, none⟩ (.int .i64 0)).heap[gb6]? = some (.cells #[.slice A_c 0 c_c, .int .i64 2] 30 (0, 0))) := Aside0.mk (by (with_reducible repeat (first | refine blk_drewN ?_ _ | refine blk_drew ?_ | refine blk_alloc ?_ _)); refine blk_far ?_ NB_gb6_gb8.out _; (with_reducible repeat (first | refine blk_drewN ?_ _ | refine blk_drew ?_ | refine blk_alloc ?_ _)); refine blk_far ?_ NB_gb6_gb8.out _; (with_reducible repeat (first | refine blk_drewN ?_ _ | refine blk_drew ?_ | refine blk_alloc ?_ _)); refine blk_far ?_ NB_gb6_gb8.out _; (with_reducible repeat (first | refine blk_drewN ?_ _ | refine blk_drew ?_ | refine blk_alloc ?_ _)); refine blk_far ?_ NB_gb6_gb8.out _; (with_reducible repeat (first | refine blk_drewN ?_ _ | refine blk_drew ?_ | refine blk_alloc ?_ _)); refine blk_far ?_ NB_gb6_gb8.out _; (with_reducible repeat (first | refine blk_drewN ?_ _ | refine blk_drew ?_ | refine blk_alloc ?_ _)); refine blk_far ?_ NB_gb6_gb8.out _; (with_reducible repeat (first | refine blk_drewN ?_ _ | refine blk_drew ?_ | refine blk_alloc ?_ _)); refine blk_far ?_ NB_gb6_gb8.out _; (with_reducible repeat (first | refine blk_drewN ?_ _ | refine blk_drew ?_ | refine blk_alloc ?_ _)); exact BK_gb6.out)
  have BKn_gb8 : Aside0 ((((((((w10.setCell ⟨gb8, 0, none⟩ (.int .i64 0)).setCell ⟨gb8, 1, none⟩ (.int .i64 0)).setCell ⟨gb8, 2, none⟩ (.int .i64 0)).setCell ⟨gb8, 3, none⟩ (.slice A_d 0 c_d)).setCell ⟨gb8, 4, none⟩ (.int .i64 0)).setCell ⟨gb8, 5, none⟩ (.int .i64 0)).setCell ⟨gb8, 6, none⟩ (.int .i64 0)).heap[gb8]? = some (.cells #[.int .i64 0, .int .i64 0, .int .i64 0, .slice A_d 0 c_d, .int .i64 0, .int .i64 0, .int .i64 0] 24 (0, 0))) := Aside0.mk (by (with_reducible repeat (first | refine blk_drewN ?_ _ | refine blk_drew ?_ | refine blk_alloc ?_ _)); refine blk_put (cs := #[.int .i64 0, .int .i64 0, .int .i64 0, .slice A_d 0 c_d, .int .i64 0, .int .i64 0, .int .i64 0]) ?_ 6 _ rfl; (with_reducible repeat (first | refine blk_drewN ?_ _ | refine blk_drew ?_ | refine blk_alloc ?_ _)); refine blk_put (cs := #[.int .i64 0, .int .i64 0, .int .i64 0, .slice A_d 0 c_d, .int .i64 0, .int .i64 0, .int .i64 0]) ?_ 5 _ rfl; (with_reducible repeat (first | refine blk_drewN ?_ _ | refine blk_drew ?_ | refine blk_alloc ?_ _)); refine blk_put (cs := #[.int .i64 0, .int .i64 0, .int .i64 0, .slice A_d 0 c_d, .int .i64 0, .int .i64 0, .int .i64 0]) ?_ 4 _ rfl; (with_reducible repeat (first | refine blk_drewN ?_ _ | refine blk_drew ?_ | refine blk_alloc ?_ _)); refine blk_put (cs := #[.int .i64 0, .int .i64 0, .int .i64 0, .slice none 0 0, .int .i64 0, .int .i64 0, .int .i64 0]) ?_ 3 _ rfl; (with_reducible repeat (first | refine blk_drewN ?_ _ | refine blk_drew ?_ | refine blk_alloc ?_ _)); refine blk_put (cs := #[.int .i64 0, .int .i64 0, .int .i64 0, .slice none 0 0, .int .i64 0, .int .i64 0, .int .i64 0]) ?_ 2 _ rfl; (with_reducible repeat (first | refine blk_drewN ?_ _ | refine blk_drew ?_ | refine blk_alloc ?_ _)); refine blk_put (cs := #[.int .i64 0, .int .i64 0, .int .i64 0, .slice none 0 0, .int .i64 0, .int .i64 0, .int .i64 0]) ?_ 1 _ rfl; (with_reducible repeat (first | refine blk_drewN ?_ _ | refine blk_drew ?_ | refine blk_alloc ?_ _)); refine blk_put (cs := #[.int .i64 0, .int .i64 0, .int .i64 0, .slice none 0 0, .int .i64 0, .int .i64 0, .int .i64 0]) ?_ 0 _ rfl; (with_reducible repeat (first | refine blk_drewN ?_ _ | refine blk_drew ?_ | refine blk_alloc ?_ _)); exact BK_gb8.out)
  have HB0n : Aside0 (Below w.heap.size w (((((((w10.setCell ⟨gb8, 0, none⟩ (.int .i64 0)).setCell ⟨gb8, 1, none⟩ (.int .i64 0)).setCell ⟨gb8, 2, none⟩ (.int .i64 0)).setCell ⟨gb8, 3, none⟩ (.slice A_d 0 c_d)).setCell ⟨gb8, 4, none⟩ (.int .i64 0)).setCell ⟨gb8, 5, none⟩ (.int .i64 0)).setCell ⟨gb8, 6, none⟩ (.int .i64 0))) := Aside0.mk (by repeat (first | (with_reducible first | exact HB0.out | apply below_alloc | apply pw_below_drewN | apply below_drew1 | refine below_set ?_ GE0_gb1.out | refine below_set ?_ GE0_gb4.out | refine below_set ?_ GE0_gb6.out | refine below_set ?_ GE0_gb8.out) | exact HB0.out))
  have HB_bn : Aside0 (Below w2.heap.size w2 (((((((w10.setCell ⟨gb8, 0, none⟩ (.int .i64 0)).setCell ⟨gb8, 1, none⟩ (.int .i64 0)).setCell ⟨gb8, 2, none⟩ (.int .i64 0)).setCell ⟨gb8, 3, none⟩ (.slice A_d 0 c_d)).setCell ⟨gb8, 4, none⟩ (.int .i64 0)).setCell ⟨gb8, 5, none⟩ (.int .i64 0)).setCell ⟨gb8, 6, none⟩ (.int .i64 0))) := Aside0.mk (by repeat (first | (with_reducible first | exact HB_b.out | apply below_alloc | apply pw_below_drewN | apply below_drew1 | refine below_set ?_ GEb_gb4.out | refine below_set ?_ GEb_gb6.out | refine below_set ?_ GEb_gb8.out) | exact HB_b.out))
  have HB_an : Aside0 (Below w3.heap.size w3 (((((((w10.setCell ⟨gb8, 0, none⟩ (.int .i64 0)).setCell ⟨gb8, 1, none⟩ (.int .i64 0)).setCell ⟨gb8, 2, none⟩ (.int .i64 0)).setCell ⟨gb8, 3, none⟩ (.slice A_d 0 c_d)).setCell ⟨gb8, 4, none⟩ (.int .i64 0)).setCell ⟨gb8, 5, none⟩ (.int .i64 0)).setCell ⟨gb8, 6, none⟩ (.int .i64 0))) := Aside0.mk (by repeat (first | (with_reducible first | exact HB_a.out | apply below_alloc | apply pw_below_drewN | apply below_drew1 | refine below_set ?_ GEa_gb4.out | refine below_set ?_ GEa_gb6.out | refine below_set ?_ GEa_gb8.out) | exact HB_a.out))
  have HB_cn : Aside0 (Below w6.heap.size w6 (((((((w10.setCell ⟨gb8, 0, none⟩ (.int .i64 0)).setCell ⟨gb8, 1, none⟩ (.int .i64 0)).setCell ⟨gb8, 2, none⟩ (.int .i64 0)).setCell ⟨gb8, 3, none⟩ (.slice A_d 0 c_d)).setCell ⟨gb8, 4, none⟩ (.int .i64 0)).setCell ⟨gb8, 5, none⟩ (.int .i64 0)).setCell ⟨gb8, 6, none⟩ (.int .i64 0))) := Aside0.mk (by repeat (first | (with_reducible first | exact HB_c.out | apply below_alloc | apply pw_below_drewN | apply below_drew1 | refine below_set ?_ GEc_gb6.out | refine below_set ?_ GEc_gb8.out) | exact HB_c.out))
  have HB_dn : Aside0 (Below w9.heap.size w9 (((((((w10.setCell ⟨gb8, 0, none⟩ (.int .i64 0)).setCell ⟨gb8, 1, none⟩ (.int .i64 0)).setCell ⟨gb8, 2, none⟩ (.int .i64 0)).setCell ⟨gb8, 3, none⟩ (.slice A_d 0 c_d)).setCell ⟨gb8, 4, none⟩ (.int .i64 0)).setCell ⟨gb8, 5, none⟩ (.int .i64 0)).setCell ⟨gb8, 6, none⟩ (.int .i64 0))) := Aside0.mk (by repeat (first | (with_reducible first | exact HB_d.out | apply below_alloc | apply pw_below_drewN | apply below_drew1 | refine below_set ?_ GEd_gb8.out) | exact HB_d.out))
  clear BK_gb1 BK_gb4 BK_gb6 BK_gb8 HB0 HB_b HB_a HB_c HB_d hczq31_0 hfzq31_0 hczq31_1 hfzq31_1 hczq31_2 hfzq31_2 hczq31_3 hfzq31_3 hczq31_4 hfzq31_4 hczq31_5 hfzq31_5 hczq31_6 hfzq31_6 hczq32_0 hfzq32_0 hczq32_1 hfzq32_1 hczq33_0 hfzq33_0 hczq33_1 hfzq33_1 hczq34_0 hfzq34_0 hczq34_1 hfzq34_1 hczq34_2 hfzq34_2 hczq34_3 hfzq34_3 hczq34_4 hfzq34_4 hczq34_5 hfzq34_5 hczq34_6 hfzq34_6 hnq35 hmq35 hnq36 hmq36 hnq37 hmq37 hnq38 hmq38 hnq39 hmq39 hnq40 hmq40
  have BK_gb1 := BKn_gb1
  have BK_gb4 := BKn_gb4
  have BK_gb6 := BKn_gb6
  have BK_gb8 := BKn_gb8
  have HB0 := HB0n
  have HB_b := HB_bn
  have HB_a := HB_an
  have HB_c := HB_cn
  have HB_d := HB_dn
  clear BKn_gb1 BKn_gb4 BKn_gb6 BKn_gb8 HB0n HB_bn HB_an HB_cn HB_dn
  generalize (((((((w10.setCell ⟨gb8, 0, none⟩ (.int .i64 0)).setCell ⟨gb8, 1, none⟩ (.int .i64 0)).setCell ⟨gb8, 2, none⟩ (.int .i64 0)).setCell ⟨gb8, 3, none⟩ (.slice A_d 0 c_d)).setCell ⟨gb8, 4, none⟩ (.int .i64 0)).setCell ⟨gb8, 5, none⟩ (.int .i64 0)).setCell ⟨gb8, 6, none⟩ (.int .i64 0)) = w11 at BK_gb1 BK_gb4 BK_gb6 BK_gb8 HB0 HB_b HB_a HB_c HB_d ⊢
  have hczq41_0 : w11.cell? ⟨gb1, 0, none⟩ = some (.int .i64 3) := (blk_cell BK_gb1.out 0).trans rfl; have hfzq41_0 := blk_frozen BK_gb1.out 0; have hczq41_1 : w11.cell? ⟨gb1, 1, none⟩ = some (.int .i64 16) := (blk_cell BK_gb1.out 1).trans rfl; have hfzq41_1 := blk_frozen BK_gb1.out 1; have hczq41_2 : w11.cell? ⟨gb1, 2, none⟩ = some (.int .i64 2) := (blk_cell BK_gb1.out 2).trans rfl; have hfzq41_2 := blk_frozen BK_gb1.out 2; have hczq41_3 : w11.cell? ⟨gb1, 3, none⟩ = some (.slice none 0 0) := (blk_cell BK_gb1.out 3).trans rfl; have hfzq41_3 := blk_frozen BK_gb1.out 3; have hczq41_4 : w11.cell? ⟨gb1, 4, none⟩ = some (.int .i64 0) := (blk_cell BK_gb1.out 4).trans rfl; have hfzq41_4 := blk_frozen BK_gb1.out 4; have hczq41_5 : w11.cell? ⟨gb1, 5, none⟩ = some (.int .i64 0) := (blk_cell BK_gb1.out 5).trans rfl; have hfzq41_5 := blk_frozen BK_gb1.out 5; have hczq41_6 : w11.cell? ⟨gb1, 6, none⟩ = some (.int .i64 0) := (blk_cell BK_gb1.out 6).trans rfl; have hfzq41_6 := blk_frozen BK_gb1.out 6
  have hczq42_0 : w11.cell? ⟨gb4, 0, none⟩ = some (.slice A_a 2 c_a) := (blk_cell BK_gb4.out 0).trans rfl; have hfzq42_0 := blk_frozen BK_gb4.out 0; have hczq42_1 : w11.cell? ⟨gb4, 1, none⟩ = some (.int .i64 0) := (blk_cell BK_gb4.out 1).trans rfl; have hfzq42_1 := blk_frozen BK_gb4.out 1
  have hczq43_0 : w11.cell? ⟨gb6, 0, none⟩ = some (.slice A_c 0 c_c) := (blk_cell BK_gb6.out 0).trans rfl; have hfzq43_0 := blk_frozen BK_gb6.out 0; have hczq43_1 : w11.cell? ⟨gb6, 1, none⟩ = some (.int .i64 2) := (blk_cell BK_gb6.out 1).trans rfl; have hfzq43_1 := blk_frozen BK_gb6.out 1
  have hczq44_0 : w11.cell? ⟨gb8, 0, none⟩ = some (.int .i64 0) := (blk_cell BK_gb8.out 0).trans rfl; have hfzq44_0 := blk_frozen BK_gb8.out 0; have hczq44_1 : w11.cell? ⟨gb8, 1, none⟩ = some (.int .i64 0) := (blk_cell BK_gb8.out 1).trans rfl; have hfzq44_1 := blk_frozen BK_gb8.out 1; have hczq44_2 : w11.cell? ⟨gb8, 2, none⟩ = some (.int .i64 0) := (blk_cell BK_gb8.out 2).trans rfl; have hfzq44_2 := blk_frozen BK_gb8.out 2; have hczq44_3 : w11.cell? ⟨gb8, 3, none⟩ = some (.slice A_d 0 c_d) := (blk_cell BK_gb8.out 3).trans rfl; have hfzq44_3 := blk_frozen BK_gb8.out 3; have hczq44_4 : w11.cell? ⟨gb8, 4, none⟩ = some (.int .i64 0) := (blk_cell BK_gb8.out 4).trans rfl; have hfzq44_4 := blk_frozen BK_gb8.out 4; have hczq44_5 : w11.cell? ⟨gb8, 5, none⟩ = some (.int .i64 0) := (blk_cell BK_gb8.out 5).trans rfl; have hfzq44_5 := blk_frozen BK_gb8.out 5; have hczq44_6 : w11.cell? ⟨gb8, 6, none⟩ = some (.int .i64 0) := (blk_cell BK_gb8.out 6).trans rfl; have hfzq44_6 := blk_frozen BK_gb8.out 6
  have hnq45 := NB_gb1_gb4.out; have hmq45 := NB_gb4_gb1.out
  have hnq46 := NB_gb1_gb6.out; have hmq46 := NB_gb6_gb1.out
  have hnq47 := NB_gb1_gb8.out; have hmq47 := NB_gb8_gb1.out
  have hnq48 := NB_gb4_gb6.out; have hmq48 := NB_gb6_gb4.out
  have hnq49 := NB_gb4_gb8.out; have hmq49 := NB_gb8_gb4.out
  have hnq50 := NB_gb6_gb8.out; have hmq50 := NB_gb8_gb6.out
  have hcv : Sem.run Try.prog (convert 58 9 (.slice A_b 5 c_b)) w11 = .ok (.string ⟨#[3, 0, 16, 0, 2]⟩) w11 := Kd.C_string (P := Try.prog) (A := A_b) (c := c_b) Try.underlying58 Try.underlying5 Try.underlying9 (Kd.C_below HV_b.out (by repeat (first | (with_reducible first | exact HB_b.out | apply below_alloc | apply pw_below_drewN | apply below_drew1 | refine below_set ?_ GEb_gb4.out | refine below_set ?_ GEb_gb6.out | refine below_set ?_ GEb_gb8.out) | exact HB_b.out)))
  have hca : ∀ o, (w11.alloc o).cell? ⟨gb6, 1, none⟩ = some (.int .i64 2) := fun o => (blk_cell (blk_alloc BK_gb6.out o) 1).trans rfl
  go_wp2_with (go_at_call 42; refine (PR.basculeref01_Ints.calls 60 A_a c_a [1, 2] (some _) 2 [1, 2] true _ (Kd.C_below HV_a.out (by repeat (first | (with_reducible first | exact HB_a.out | apply below_alloc | apply pw_below_drewN | apply below_drew1 | refine below_set ?_ GEa_gb4.out | refine below_set ?_ GEa_gb6.out | refine below_set ?_ GEa_gb8.out) | exact HB_a.out))) HC_a.out (litI_C _ [1, 2] (by decide)) (Nat.le_refl _) aw5.out).mono ?_; rintro e w' ⟨rfl, ⟨nd, rfl⟩⟩)
  go_ret
  exact ⟨rfl, (by repeat (first | (with_reducible first | exact HB0.out | apply below_alloc | apply pw_below_drewN | apply below_drew1 | refine below_set ?_ GE0_gb1.out | refine below_set ?_ GE0_gb4.out | refine below_set ?_ GE0_gb6.out | refine below_set ?_ GE0_gb8.out) | exact HB0.out))⟩
end Go.Proofs.Ytocicifgglkaeaa.ExtQ
end

section
namespace Go.Proofs.Ytocicifgglkaeaa.Core
open Go.RowKit Go.Proofs.YtocicifgglkaeaaW.PrintWords Go.Proofs.YtocicifgglkaeaaW.PrintLast Go.Proofs.YtocicifgglkaeaaW.PrintMore
set_option linter.unusedVariables false
set_option linter.unusedSimpArgs false
structure Ext (M : Nat → Prop) (w w' : World) : Prop where
  os : w'.os = w.os
  tape : w'.tape = w.tape
  output : w'.output = w.output
  size : w.heap.size ≤ w'.heap.size
  block : ∀ k, k < w.heap.size → ¬ M k → w'.heap[k]? = w.heap[k]?
structure Ever (M : Nat → Prop) (w : World) (P : World → Prop) : Prop where
  at_ : ∀ w', Ext M w w' → P w'
section
variable {M M' : Nat → Prop} {w w1 w2 W : World} {P Q : World → Prop}
theorem Ext.refl (M : Nat → Prop) (w : World) : Ext M w w := ⟨rfl, rfl, rfl, Nat.le_refl _, fun _ _ _ => rfl⟩
theorem Ext.trans (h : Ext M w w1) (k : Ext M w1 w2) : Ext M w w2 :=
  ⟨k.os.trans h.os, k.tape.trans h.tape, k.output.trans h.output, Nat.le_trans h.size k.size, fun i hi hm => (k.block i (Nat.lt_of_lt_of_le hi h.size) hm).trans (h.block i hi hm)⟩
theorem Ext.mono (h : Ext M w w1) (hm : ∀ k, k < w.heap.size → M k → M' k) : Ext M' w w1 := ⟨h.os, h.tape, h.output, h.size, fun i hi hn => h.block i hi (fun a => hn (hm i hi a))⟩
theorem Ext.of_below (h : Below w.heap.size w w1) : Ext M w w1 := ⟨h.os, h.tape, h.output, h.size, fun i hi _ => h.block i hi⟩
theorem Ext.then_below (h : Ext M w w1) (k : Below w1.heap.size w1 w2) : Ext M w w2 := h.trans (.of_below k)
theorem Ext.alloc (h : Ext M w W) (o : Obj) : Ext M w (W.alloc o) := h.then_below (below_alloc (Below.refl _ _) o)
theorem Ext.set (h : Ext M w W) {g j : Nat} (hg : M g) (v : Value) : Ext M w (W.setCell ⟨g, j, none⟩ v) :=
  h.trans ⟨rfl, rfl, rfl, by simp [World.setCell], fun k _ hk => Below.heap_setCell _ _ _ _ (fun e => hk (by simpa using e ▸ hg))⟩
theorem Ext.grown (h : Ext M w W) {row : Option Nat} (hg : W.grownBy w1 row) (hr : ∀ k, row = some k → M k ∨ w.heap.size ≤ k) : Ext M w w1 :=
  ⟨hg.os.trans h.os, hg.tape.trans h.tape, hg.output.trans h.output, Nat.le_trans h.size hg.size, fun k hk hm => (hg.block k (Nat.lt_of_lt_of_le hk h.size) (fun e => by rcases hr k e.symm with a | a; exact hm a; omega)).trans (h.block k hk hm)⟩
theorem Ext.below (h : Ext M w W) (hM : ∀ k, M k → w.heap.size ≤ k) : Below w.heap.size w W := ⟨h.os, h.tape, h.output, h.size, fun k hk => h.block k hk (fun a => by have := hM k a; omega)⟩
theorem Ext.grow (h : Ext M w W) (k : Ext M' W w2) (hM : ∀ k, M' k → M k ∨ w.heap.size ≤ k) : Ext M w w2 :=
  ⟨k.os.trans h.os, k.tape.trans h.tape, k.output.trans h.output, Nat.le_trans h.size k.size, fun i hi hm => (k.block i (Nat.lt_of_lt_of_le hi h.size) (fun a => by rcases hM i a with b | b; exact hm b; omega)).trans (h.block i hi hm)⟩
theorem Ever.now (h : Ever M w P) : P w := h.at_ w (Ext.refl _ _)
theorem Ever.step (h : Ever M w P) (k : Ext M w w1) : Ever M w1 P := ⟨fun w2 h2 => h.at_ w2 (k.trans h2)⟩
theorem Ever.grow (h : Ever M w P) (k : Ext M w w1) (hM : ∀ k, M' k → M k ∨ w.heap.size ≤ k) : Ever M' w1 P := ⟨fun w2 h2 => h.at_ w2 (k.grow h2 hM)⟩
theorem Ever.imp (h : Ever M w P) (k : ∀ w, P w → Q w) : Ever M w Q := ⟨fun w1 h1 => k _ (h.at_ w1 h1)⟩
theorem Ever.old (h : P w) (hb : ∀ w1, Below w.heap.size w w1 → P w1) (hM : ∀ k, M k → w.heap.size ≤ k) : Ever M w P := ⟨fun w1 h1 => hb w1 (h1.below hM)⟩
theorem Ever.C {α : Type} {d : Kd α} {A : Option Addr} {n : Nat} {xs : List α} (h : d.C w A n xs) (hM : ∀ k, M k → w.heap.size ≤ k) : Ever M w (fun W => d.C W A n xs) := .old h (fun _ hb => Kd.C_below h hb) hM
end
section
variable {α : Type} {enc : α → Value} {h1 : ∀ x, (enc x).oneCell' = true} {M : Nat → Prop} {w : World} {A : Option Addr}
theorem Ever.take {d : Kd α} {xs : List α} (h : Ever M w (fun W => d.C W A xs.length xs)) {m : Nat} (hm : m ≤ xs.length) : Ever M w (fun W => d.C W A (xs.take m).length (xs.take m)) := h.imp (fun _ k => Kd.C_take k hm)
end
def Mv (M : Nat → Prop) (v : Value) (k : Nat) : Prop := M k ∨ some k = v.ownBlock
def OwnE {α : Type} (d : Kd α) (M : Nat → Prop) (e : TypeId) (base : Nat) (W : World) (v : Value) (xs : List α) : Prop :=
  ∃ inner, W.ownsRow base e d.sz v xs.length inner ∧ Reps (fun x cs => Ever (Mv M v) W (fun W => d.K W x cs)) d.sz xs inner
section
variable {α : Type} {d : Kd α} {M M' : Nat → Prop} {e : TypeId} {base : Nat} {W w1 : World} {v v1 : Value} {xs : List α} {P : World → Prop}
theorem OwnE.slice (h : OwnE d M e base W v xs) : ∃ A c, v = .slice A xs.length c := by obtain ⟨i, h, _⟩ := h; exact own_slice h
theorem OwnE.step (h : OwnE d M e base W v xs) (k : Ext (Mv M v) W w1) (hv : ∀ k, v.ownBlock = some k → w1.heap[k]? = W.heap[k]?) : OwnE d M e base w1 v xs := by
  obtain ⟨i, h1, h2⟩ := h
  exact ⟨i, own_move h1 hv, h2.imp_ (fun _ _ h => h.step k)⟩
theorem OwnE.view (h : OwnE d M e base W v xs) (hM : ∀ k, v.ownBlock = some k → ¬ M k) : ∃ A c, v = .slice A xs.length c ∧ xs.length ≤ c ∧ Ever M W (fun W => d.C W A xs.length xs) := by
  obtain ⟨i, h1, h2⟩ := h
  obtain ⟨A, c, rfl⟩ := own_slice h1
  refine ⟨A, c, rfl, own_cap h1, ⟨fun w1 k => ?_⟩⟩
  have h3 : w1.ownsRow base e d.sz (.slice A xs.length c) xs.length i := own_move h1 (fun b hb => k.block b (own_lt h1 b hb) (hM b hb))
  have h4 : Reps (d.K w1) d.sz xs i := h2.imp_ (fun _ _ h => h.at_ _ (k.mono (fun _ _ a => .inl a)))
  obtain ⟨A', c', e', h5⟩ := own_reads_row h3 h4 rfl
  cases e'
  exact h5
theorem Mv_grow {W w1 : World} (hat : v1.ownBlock = v.ownBlock ∨ ∃ b, v1.ownBlock = some b ∧ W.heap.size ≤ b) (k : Nat) (h : Mv M v1 k) : Mv M v k ∨ W.heap.size ≤ k := by
  rcases h with h | h
  · exact .inl (.inl h)
  · rcases hat with a | ⟨b, a, hb⟩
    · exact .inl (.inr (h.trans a))
    · rw [a] at h; injection h with h; exact .inr (by omega)
theorem Ext.of_grown (h : W.grownBy w1 v.ownBlock) : Ext (Mv M v) W w1 := ⟨h.os, h.tape, h.output, h.size, fun k hk hm => h.block k hk (fun e => hm (.inr e))⟩
end
section
variable {P : Program} {ops : Array Oper} {rest : List Oper} {o : Oper} {a : Act} {Q : Exit → Act → World → Prop} {α : Type}
theorem ev_append_rows (d : Kd α) {M : Nat → Prop} {w0 W : World} (base : Nat) (hgd : o.guard = none) (s x : Operand) (t e : TypeId) (z : Value) (bytes : Nat)
    (ho : o.op = .call { callee := .builtin .append, args := #[s, x], argTypes := #[t, t] })
    (ht : P.underlying t = some (.slice e)) (hinfo : (P.info? e).map (fun i => (i.zero, i.size, i.bytes)) = some (some z, d.sz, bytes)) (hz : z.cells.size = d.sz) (hs0 : 0 < d.sz) (hb0 : 0 < bytes)
    (v : Value) (xs ys : List α) (A : Option Addr) (m c : Nat) (hs : a.eval s = v) (hx : a.eval x = .slice A m c)
    (HO : OwnE d M e base W v xs) (HR : ReadsRow (fun x cs => cs.length = d.sz ∧ (∀ u ∈ cs, u.oneCell' = true) ∧ Ever (Mv M v) W (fun W => d.K W x cs)) d.sz W A m ys)
    (HB : Below base w0 W) (hbase : base ≤ W.heap.size) (hl : (xs.length + m) * bytes ≤ 140737488355328)
    (h : ∀ v1 w1, OwnE d M e base w1 v1 (xs ++ ys) → Below base w0 w1 → W.grownBy w1 v.ownBlock → (v1.ownBlock = v.ownBlock ∨ ∃ b, v1.ownBlock = some b ∧ W.heap.size ≤ b) → wpList P ops Q rest (a.put o.dst v1) w1) :
    wpList P ops Q (o :: rest) a W := by
  obtain ⟨i0, hi, hzz⟩ := Option.map_eq_some_iff.1 hinfo
  simp only [Prod.mk.injEq] at hzz
  obtain ⟨hz0, hz1, hz2⟩ := hzz
  have hm : ys.length = m := HR.1
  have hlen : xs.length + m ≤ 140737488355328 := Nat.le_trans (Nat.le_mul_of_pos_right _ hb0) hl
  obtain ⟨inner, hown, hr⟩ := HO
  rcases A with _ | ad
  · have h0 : m = 0 := by
      rcases Nat.eq_zero_or_pos m with h0 | h0
      · exact h0
      · obtain ⟨ad, h, _⟩ := HR.2.2 h0
        cases h
    subst h0
    obtain rfl : ys = [] := List.eq_nil_of_length_eq_zero hm
    have hrun : (Builtin.append_ #[t, t] o.type #[v, .slice none 0 c]).run P W = .ok v W := by
      rcases hown.2 with ⟨rfl, hn⟩ | ⟨g, cap, cur, rfl, _, _, hnc, _⟩
      · simp [Builtin.append_, run_underlying ht, sizeOf, typeInfo, hi, Builtin.lenOf, Builtin.firstCells]
      · simp [Builtin.append_, run_underlying ht, sizeOf, typeInfo, hi, Builtin.lenOf, Builtin.firstCells, hnc, storeCells]
    refine wpList_plain hgd fun K hK => ?_
    unfold Oper.wp execOp
    simp only [ho, resolve, invoke, builtin, Sem.run_bind, Sem.run_pure, Result.andThen_ok, List.map_toArray, List.map_cons, List.map_nil, hs, hx, hrun]
    exact hK _ _ (h v W (by rw [List.append_nil]; exact ⟨inner, hown, hr⟩) HB (World.grownBy.refl W _) (.inl rfl))
  · obtain ⟨news, hnr, hnc⟩ := ReadsRow.inner_ HR
    have hone : ∀ u ∈ news, u.oneCell' = true := by
      intro u hu
      obtain ⟨q, hq, rfl⟩ := List.mem_iff_getElem.1 hu
      have hql : q / d.sz < ys.length := by
        rw [Nat.div_lt_iff_lt_mul hs0]
        rw [← hnr.1]
        exact hq
      have hc := hnr.2 (q / d.sz) _ (List.getElem?_eq_getElem hql)
      refine hc.2.1 _ ?_
      rw [List.mem_iff_getElem?]
      refine ⟨q % d.sz, ?_⟩
      rw [List.getElem?_take, if_pos (Nat.mod_lt _ hs0), List.getElem?_drop, Nat.mul_comm, Nat.div_add_mod, List.getElem?_eq_getElem hq]
    refine wpList_append_own_at W hgd s x t ho base e i0 z d.sz bytes ht hi hz0 hz1 hz2 hz hs0 v xs.length inner hs hown ad m c news hx (by rw [hnr.1, hm]) hnc hone (by simp only [maxLen]; omega) hl hbase (fun v1 w1 h1 h3 _ h4 => ?_)
    have h4' : v1.ownBlock = v.ownBlock ∨ ∃ b, v1.ownBlock = some b ∧ W.heap.size ≤ b := by
      rcases h4 with a | a
      · exact .inl a
      · exact .inr ⟨_, a, Nat.le_refl _⟩
    have hE : Ext (Mv M v) W w1 := Ext.of_grown h3
    refine h v1 w1 ⟨inner ++ news, by rw [List.length_append, hm]; exact h1, ?_⟩ (HB.grown h3 hbase (own_base hown)) h3 h4'
    exact Kd.reps_append (hr.imp_ (fun _ _ k => k.grow hE (Mv_grow (w1 := w1) h4'))) (hnr.imp_ (fun _ _ k => k.2.2.grow hE (Mv_grow (w1 := w1) h4')))
end
def RowE {α : Type} (d : Kd α) (M : Nat → Prop) (W : World) (A : Option Addr) (n : Nat) (xs : List α) : Prop :=
  xs.length = n ∧ n ≤ 9223372036854775807 ∧ (0 < n → ∃ ad inner, A = some ad ∧ Reps (fun x cs => (cs.length = d.sz ∧ ∀ u ∈ cs, u.oneCell' = true) ∧ Ever M W (fun W => d.K W x cs)) d.sz xs inner ∧ Ever M W (fun W => ∀ i u, inner[i]? = some u → W.cell? (ad.add i) = some u))
section
variable {α : Type} {d : Kd α} {M M' : Nat → Prop} {W w1 : World} {A : Option Addr} {n : Nat} {xs : List α}
theorem RowE.elems (h : RowE d M W A n xs) : ReadsRow (fun x cs => cs.length = d.sz ∧ (∀ u ∈ cs, u.oneCell' = true) ∧ Ever M W (fun W => d.K W x cs)) d.sz W A n xs := by
  refine ⟨h.1, h.2.1, fun hn => ?_⟩
  obtain ⟨ad, inner, rfl, h1, h2⟩ := h.2.2 hn
  refine ⟨ad, rfl, fun j p hj => ⟨(inner.drop (j * d.sz)).take d.sz, (h1.2 j p hj).1.1, ⟨(h1.2 j p hj).1.1, (h1.2 j p hj).1.2, (h1.2 j p hj).2⟩, fun i u hu => ?_⟩⟩
  · refine h2.now _ u ?_
    rw [List.getElem?_take] at hu
    split at hu
    · rw [List.getElem?_drop] at hu
      exact hu
    · cases hu
theorem RowE.grow (h : RowE d M W A n xs) (k : Ext M W w1) (hM : ∀ k, M' k → M k ∨ W.heap.size ≤ k) : RowE d M' w1 A n xs := by
  refine ⟨h.1, h.2.1, fun hn => ?_⟩
  obtain ⟨ad, inner, rfl, h1, h2⟩ := h.2.2 hn
  exact ⟨ad, inner, rfl, h1.imp_ (fun _ _ a => ⟨a.1, a.2.grow k hM⟩), h2.grow k hM⟩
theorem RowE.step (h : RowE d M W A n xs) (k : Ext M W w1) : RowE d M w1 A n xs := h.grow k (fun _ a => .inl a)
theorem RowE.old (h : d.C W A n xs) (hM : ∀ k, M k → W.heap.size ≤ k) : RowE d M W A n xs := by
  refine ⟨h.1, h.2.1, fun hn => ?_⟩
  obtain ⟨ad, rfl, hc⟩ := h.2.2 hn
  obtain ⟨inner, hr, hcell⟩ := ReadsRow.inner_ h
  refine ⟨ad, inner, rfl, ?_, ?_⟩
  · refine hr.imp_ (fun x cs hk => ⟨⟨d.K_len hk, d.K_one hk⟩, Ever.old hk (fun _ hb => d.K_below hb hk) hM⟩)
  · exact Ever.old hcell (fun _ hb i u hu => pw_cell_below hb (hcell i u hu)) hM
end
def IsRow {α : Type} (d : Kd α) (M : Nat → Prop) (W : World) (v : Value) (xs : List α) : Prop := ∃ A c, v = .slice A xs.length c ∧ xs.length ≤ c ∧ RowE d M W A xs.length xs
theorem IsRow.grow {α : Type} {d : Kd α} {M M' : Nat → Prop} {W w1 : World} {v : Value} {xs : List α} (h : IsRow d M W v xs) (k : Ext M W w1) (hM : ∀ k, M' k → M k ∨ W.heap.size ≤ k) : IsRow d M' w1 v xs := by
  obtain ⟨A, c, e, hc, h⟩ := h
  exact ⟨A, c, e, hc, h.grow k hM⟩
theorem IsRow.step {α : Type} {d : Kd α} {M : Nat → Prop} {W w1 : World} {v : Value} {xs : List α} (h : IsRow d M W v xs) (k : Ext M W w1) : IsRow d M w1 v xs := h.grow k (fun _ a => .inl a)
end Go.Proofs.Ytocicifgglkaeaa.Core
end

section
set_option linter.unusedVariables false
set_option linter.unusedSimpArgs false
namespace Go.Proofs.Ytocicifgglkaeaa.Wk
open Go.RowKit Go.Proofs.YtocicifgglkaeaaW.PrintWords Go.Proofs.YtocicifgglkaeaaW.PrintLast Go.Proofs.YtocicifgglkaeaaW.PrintMore Go.Proofs.Ytocicifgglkaeaa.Core
end Go.Proofs.Ytocicifgglkaeaa.Wk
namespace Go.Proofs.Ytocicifgglkaeaa.Core
open Go.RowKit Go.Proofs.YtocicifgglkaeaaW.PrintWords Go.Proofs.YtocicifgglkaeaaW.PrintLast Go.Proofs.YtocicifgglkaeaaW.PrintMore
section
variable {M M' F : Nat → Prop} {w w1 w2 W W' : World} {P Q : World → Prop} {g : Nat}
theorem Ext.step (h : Ext M w W) (k : Ext F W W') (hF : ∀ k, F k → M k ∨ w.heap.size ≤ k) : Ext M w W' := h.grow k hF
def Ms (gs : List Nat) (k : Nat) : Prop := k ∈ gs
theorem Ms.old {r : Nat} {gs : List Nat} : ∀ k, Ms gs k → Ms (r :: gs) k := fun _ h => List.mem_cons_of_mem _ h
theorem C_cell {xs : List Int} {k : IntKind} {A : Option Addr} (h : Kd.C (Kd.int k) W A xs.length xs) (hn : 0 < xs.length) : ∃ ad, A = some ad ∧ ∀ j, j < xs.length → W.cell? (ad.add j) = some (.int k (xs.getD j 0)) := (Kd.reads_of_C h).2.2 hn
end
end Go.Proofs.Ytocicifgglkaeaa.Core
namespace Go.Proofs.Ytocicifgglkaeaa.Wk
open Go.RowKit Go.Proofs.YtocicifgglkaeaaW.PrintWords Go.Proofs.YtocicifgglkaeaaW.PrintLast Go.Proofs.YtocicifgglkaeaaW.PrintMore Go.Proofs.Ytocicifgglkaeaa.Core
section
variable {P : Program} {ops : Array Oper} {rest : List Oper} {o : Oper} {a : Act} {Q : Exit → Act → World → Prop} {W : World} {Kc : Act → World → Prop}
end
def keyIs (k : Int) (e : MapEntry) : Bool := match e.key with | .int .i64 a => a == k | _ => false
def mget (es : List MapEntry) (k : Int) : Option Value := (es.find? (keyIs k)).map (·.val)
def IntKeys (es : List MapEntry) : Prop := ∀ e ∈ es, ∃ a, e.key = .int .i64 a
structure IsMap (W : World) (m : Nat) (f : Int → Option Value) (n : Nat) : Prop where
  out : ∃ (es : Array MapEntry) (clock : Nat), W.heap[m]? = some (.map es clock) ∧ IntKeys es.toList ∧ es.size ≤ n ∧ ∀ k, mget es.toList k = f k
section
variable {P : Program} {W W' : World} {m n : Nat} {f : Int → Option Value}
end
section
variable {P : Program} {ops : Array Oper} {rest : List Oper} {o : Oper} {a : Act} {Q : Exit → Act → World → Prop} {W : World}
end
end Go.Proofs.Ytocicifgglkaeaa.Wk
end

section
namespace Go.Proofs.Ytocicifgglkaeaa.Chk
open Go.RowKit Go.Proofs.YtocicifgglkaeaaW.PrintWords Go.Proofs.YtocicifgglkaeaaW.PrintLast Go.Proofs.YtocicifgglkaeaaW.PrintMore Go.Proofs.Ytocicifgglkaeaa.Core Go.Proofs.Ytocicifgglkaeaa.Wk
set_option linter.unusedVariables false
set_option linter.unusedSimpArgs false
def wB (lo hi n : Int) : Bool := decide (lo ≤ n ∧ n ≤ hi)
def spB (a n : Int) : Bool := decide (0 ≤ a ∧ a ≤ 65535 ∧ a + n ≤ 65536)
def lowB (m : Int) (l : List Int) : Bool := decide (∀ x ∈ l, 0 ≤ x ∧ x ≤ m)
def smB (lo hi m : Int) (l : List Int) : Bool := wB lo hi l.length && lowB m l
theorem wB_yes {lo hi n : Int} (h0 : lo ≤ n) (h1 : n ≤ hi) : wB lo hi n = true := decide_eq_true ⟨h0, h1⟩
theorem wB_no {lo hi n : Int} (h : ¬ (lo ≤ n ∧ n ≤ hi)) : wB lo hi n = false := decide_eq_false h
theorem wB_iff {lo hi n : Int} : wB lo hi n = true ↔ lo ≤ n ∧ n ≤ hi := decide_eq_true_iff
theorem smB_len {lo hi m : Int} {l : List Int} (h : smB lo hi m l = true) : (l.length : Int) ≤ hi := by
  unfold smB at h
  rw [Bool.and_eq_true] at h
  exact (wB_iff.1 h.1).2
theorem low_nil (m : Int) : lowB m [] = true := decide_eq_true (fun x hx => by cases hx)
theorem low_take {m : Int} {l : List Int} {k : Nat} (hk : k < l.length) (h : lowB m (l.take k) = true) (hx : wB 0 m (l.getD k 0) = true) : lowB m (l.take (k + 1)) = true := by
  unfold lowB at h ⊢
  rw [decide_eq_true_eq] at h ⊢
  intro x hx'
  rw [List.take_succ_eq_append_getElem hk, List.mem_append] at hx'
  rcases hx' with hx' | hx'
  · exact h x hx'
  · have e : x = l[k] := by simpa using hx'
    rw [e]
    rw [List.getD_eq_getElem?_getD, List.getElem?_eq_getElem hk] at hx
    exact wB_iff.1 hx
theorem low_bad {m : Int} {l : List Int} {k : Nat} (hk : k < l.length) (hx : wB 0 m (l.getD k 0) = false) : lowB m l = false := by
  unfold lowB
  rw [decide_eq_false_iff_not]
  intro h
  have h1 := h l[k] (List.getElem_mem hk)
  rw [List.getD_eq_getElem?_getD, List.getElem?_eq_getElem hk] at hx
  have := wB_yes (lo := 0) (hi := m) h1.1 h1.2
  rw [Option.getD_some, this] at hx
  cases hx
set_option maxHeartbeats 4000000 in
set_option maxRecDepth 100000 in
theorem is_c (n : Int) (w : World) : Calls Try.prog 45 #[.int .i64 n] w fun e w' => e = .returned (.bool (wB 0 65535 n)) ∧ w = w' := by
  by_cases h0 : 0 ≤ n
  · have t0 : decide (0 ≤ n) = true := decide_eq_true h0
    by_cases h1 : n ≤ 65535
    · have t1 : decide (n ≤ 65535) = true := decide_eq_true h1
      rw [wB_yes h0 h1]; clear h0 h1
      go_enter Try.func45, Try.ntmps45
      go_wp2
      go_ret
      exact ⟨rfl, rfl⟩
    · have t1 : decide (n ≤ 65535) = false := decide_eq_false h1
      rw [wB_no (fun a => h1 a.2)]; clear h0 h1
      go_enter Try.func45, Try.ntmps45
      go_wp2
      go_ret
      exact ⟨rfl, rfl⟩
  · have t0 : decide (0 ≤ n) = false := decide_eq_false h0
    rw [wB_no (fun a => h0 a.1)]; clear h0
    go_enter Try.func45, Try.ntmps45
    go_wp2
    go_ret
    exact ⟨rfl, rfl⟩
set_option maxHeartbeats 4000000 in
set_option maxRecDepth 100000 in
theorem words_c (A : Option Addr) (c : Nat) (l : List Int) (w : World) (hV : Kd.C (Kd.int .i64) w A l.length l) : Calls Try.prog 68 #[.slice A l.length c] w fun e w' => e = .returned (.bool (lowB 65535 l)) ∧ w = w' := by
  have hmx := hV.2.1
  have HV := Aside0.mk hV
  clear hV
  go_enter Try.func68, Try.ntmps68
  go_wp2_with fail
  go_loop [3] (fun i => ∃ k : Nat, k ≤ l.length ∧ i = .int .i64 k ∧ Aside0 (lowB 65535 (l.take k) = true)) (fun i => l.length - (intOf i).toNat)
  case atStart => exact ⟨0, by omega, rfl, ⟨by rw [List.take_zero]; exact low_nil _⟩⟩
  case round =>
    obtain ⟨k, hk, rfl, HL⟩ := hrel
    by_cases hlt : k < l.length
    · have t1 : decide (k < l.length) = true := decide_eq_true hlt
      have t2 : decide ((k : Int) < (l.length : Int)) = true := decide_eq_true (by omega)
      obtain ⟨ad, rfl, hc0⟩ := C_cell HV.out (by omega)
      have hc := hc0 k hlt
      clear hc0
      obtain ⟨x, hx⟩ : ∃ x, l.getD k 0 = x := ⟨_, rfl⟩
      rw [hx] at hc
      have HX := Aside0.mk hx
      clear hx
      have hkl := hlt
      clear hlt
      by_cases hb : wB 0 65535 x = true
      · have HB := Aside0.mk hb
        skip
        go_wp2_with (go_at_call 45; refine (is_c _ _).mono ?_; rintro e w' ⟨rfl, rfl⟩)
        go_round
        case rel => exact ⟨k + 1, by omega, by go_num, ⟨low_take hkl HL.out (by rw [HX.out]; exact HB.out)⟩⟩
        case measure => simp [intOf]; omega
      · have hb' : wB 0 65535 x = false := by simpa using hb
        have HN : Aside0 (lowB 65535 l = false) := ⟨low_bad hkl (by rw [HX.out]; exact hb')⟩
        clear hb
        go_wp2_with (go_at_call 45; refine (is_c _ _).mono ?_; rintro e w' ⟨rfl, rfl⟩)
        go_ret
        exact ⟨by rw [HN.out]; rfl, rfl⟩
    · obtain rfl : k = l.length := by omega
      have t1 : decide (l.length < l.length) = false := decide_eq_false (by omega)
      have t2 : decide ((l.length : Int) < (l.length : Int)) = false := decide_eq_false (by omega)
      have hl := HL.out
      rw [List.take_of_length_le (Nat.le_refl _)] at hl
      have HL2 := Aside0.mk hl
      clear hl hlt
      go_wp2_with fail
      go_ret
      exact ⟨by rw [HL2.out]; rfl, rfl⟩
set_option maxHeartbeats 4000000 in
set_option maxRecDepth 100000 in
theorem bits_c (A : Option Addr) (c : Nat) (l : List Int) (w : World) (hV : Kd.C (Kd.int .i64) w A l.length l) : Calls Try.prog 67 #[.slice A l.length c] w fun e w' => e = .returned (.bool (lowB 1 l)) ∧ w = w' := by
  have hmx := hV.2.1
  have HV := Aside0.mk hV
  clear hV
  go_enter Try.func67, Try.ntmps67
  go_wp2_with fail
  go_loop [3] (fun i => ∃ k : Nat, k ≤ l.length ∧ i = .int .i64 k ∧ Aside0 (lowB 1 (l.take k) = true)) (fun i => l.length - (intOf i).toNat)
  case atStart => exact ⟨0, by omega, rfl, ⟨by rw [List.take_zero]; exact low_nil _⟩⟩
  case round =>
    obtain ⟨k, hk, rfl, HL⟩ := hrel
    by_cases hlt : k < l.length
    · have t1 : decide (k < l.length) = true := decide_eq_true hlt
      have t2 : decide ((k : Int) < (l.length : Int)) = true := decide_eq_true (by omega)
      obtain ⟨ad, rfl, hc0⟩ := C_cell HV.out (by omega)
      have hc := hc0 k hlt
      clear hc0
      obtain ⟨x, hx⟩ : ∃ x, l.getD k 0 = x := ⟨_, rfl⟩
      rw [hx] at hc
      have HX := Aside0.mk hx
      clear hx
      have hkl := hlt
      clear hlt
      by_cases hb : wB 0 1 x = true
      · have HB := Aside0.mk hb
        have hb2 := wB_iff.1 hb; clear hb; rcases (show x = 0 ∨ x = 1 by omega) with e | e <;> subst e <;> clear hb2 <;> (first | (have u0 : ((0 : Int) != 0) = false := rfl) | skip)
        all_goals
          go_wp2_with fail
          go_round
          case rel => exact ⟨k + 1, by omega, by go_num, ⟨low_take hkl HL.out (by rw [HX.out]; exact HB.out)⟩⟩
          case measure => simp [intOf]; omega
      · have hb' : wB 0 1 x = false := by simpa using hb
        have HN : Aside0 (lowB 1 l = false) := ⟨low_bad hkl (by rw [HX.out]; exact hb')⟩
        have hb2 : ¬ (0 ≤ x ∧ x ≤ 1) := fun a => hb (wB_iff.2 a)
        have u0 : (x != 0) = true := bne_iff_ne.2 (by omega)
        have u1 : (x != 1) = true := bne_iff_ne.2 (by omega)
        clear hb hb' hb2
        go_wp2_with fail
        go_ret
        exact ⟨by rw [HN.out]; rfl, rfl⟩
    · obtain rfl : k = l.length := by omega
      have t1 : decide (l.length < l.length) = false := decide_eq_false (by omega)
      have t2 : decide ((l.length : Int) < (l.length : Int)) = false := decide_eq_false (by omega)
      have hl := HL.out
      rw [List.take_of_length_le (Nat.le_refl _)] at hl
      have HL2 := Aside0.mk hl
      clear hl hlt
      go_wp2_with fail
      go_ret
      exact ⟨by rw [HL2.out]; rfl, rfl⟩
def chkB (f a c : Int) (v : List Int) (t n o : Int) : Bool :=
  if f = 1 ∨ f = 2 then t == 0 && n == 0 && o == 0 && (v.length : Int) == 0 && wB 1 2000 c && spB a c
  else if f = 3 ∨ f = 4 then t == 0 && n == 0 && o == 0 && (v.length : Int) == 0 && wB 1 125 c && spB a c
  else if f = 5 then t == 0 && n == 0 && o == 0 && c == 0 && smB 1 1 1 v && spB a 1
  else if f = 6 then t == 0 && n == 0 && o == 0 && c == 0 && smB 1 1 65535 v && spB a 1
  else if f = 15 then t == 0 && n == 0 && o == 0 && c == v.length && smB 1 1968 1 v && spB a v.length
  else if f = 16 then t == 0 && n == 0 && o == 0 && c == v.length && smB 1 123 65535 v && spB a v.length
  else if f = 22 then (v.length : Int) == 0 && t == 0 && c == 0 && spB a 1 && wB 0 65535 n && wB 0 65535 o
  else if f = 23 then n == 0 && o == 0 && wB 1 125 c && spB a c && smB 1 121 65535 v && spB t v.length
  else false
end Go.Proofs.Ytocicifgglkaeaa.Chk
end

section
namespace Go.Proofs.Ytocicifgglkaeaa.Chk
open Go.RowKit Go.Proofs.YtocicifgglkaeaaW.PrintWords Go.Proofs.YtocicifgglkaeaaW.PrintLast Go.Proofs.YtocicifgglkaeaaW.PrintMore Go.Proofs.Ytocicifgglkaeaa.Core Go.Proofs.Ytocicifgglkaeaa.Wk
set_option linter.unusedVariables false
set_option linter.unusedSimpArgs false
def bitB (f : Int) : Bool := decide (f = 1 ∨ f = 2 ∨ f = 5 ∨ f = 15)
set_option maxHeartbeats 4000000 in
set_option maxRecDepth 100000 in
theorem bit_c (f : Int) (w : World) : Calls Try.prog 27 #[.int .i64 f] w fun e w' => e = .returned (.bool (bitB f)) ∧ w = w' := by
  by_cases h0 : f = 1
  · subst h0; rw [show bitB 1 = true from by decide]
    go_enter Try.func27, Try.ntmps27
    go_wp2
    go_ret
    exact ⟨rfl, rfl⟩
  by_cases h1 : f = 2
  · subst h1; rw [show bitB 2 = true from by decide]
    go_enter Try.func27, Try.ntmps27
    go_wp2
    go_ret
    exact ⟨rfl, rfl⟩
  by_cases h2 : f = 5
  · subst h2; rw [show bitB 5 = true from by decide]
    go_enter Try.func27, Try.ntmps27
    go_wp2
    go_ret
    exact ⟨rfl, rfl⟩
  by_cases h3 : f = 15
  · subst h3; rw [show bitB 15 = true from by decide]
    go_enter Try.func27, Try.ntmps27
    go_wp2
    go_ret
    exact ⟨rfl, rfl⟩
  have hr : Aside0 (bitB f = false) := ⟨decide_eq_false (by omega)⟩
  rw [hr.out]
  have y0 : (f == 1) = false := beq_eq_false_iff_ne.2 h0
  have y1 : (f == 2) = false := beq_eq_false_iff_ne.2 h1
  have y2 : (f == 5) = false := beq_eq_false_iff_ne.2 h2
  have y3 : (f == 15) = false := beq_eq_false_iff_ne.2 h3
  clear h0 h1 h2 h3
  go_enter Try.func27, Try.ntmps27
  go_wp2
  go_ret
  exact ⟨rfl, rfl⟩
set_option maxHeartbeats 4000000 in
set_option maxRecDepth 100000 in
theorem refspan_c (a n : Int) (w : World) (h0 : -1000000 ≤ n) (h1 : n ≤ 1000000) : Calls Try.prog 43 #[.int .i64 a, .int .i64 n] w fun e w' => e = .returned (.bool (spB a n)) ∧ w = w' := by
  by_cases h2 : wB 0 65535 a = true
  · have hb := wB_iff.1 h2
    have b0 := hb.1; have b1 := hb.2
    by_cases h3 : a + n ≤ 65536
    · have t1 : decide (a + n ≤ 65536) = true := decide_eq_true h3
      have hr : Aside0 (spB a n = true) := ⟨decide_eq_true ⟨b0, b1, h3⟩⟩
      rw [hr.out]; clear h3 hb
      go_enter Try.func43, Try.ntmps43
      go_wp2_with (go_at_call 45; refine (is_c _ _).mono ?_; rintro e w' ⟨rfl, rfl⟩)
      go_ret
      exact ⟨rfl, rfl⟩
    · have t1 : decide (a + n ≤ 65536) = false := decide_eq_false h3
      have hr : Aside0 (spB a n = false) := ⟨decide_eq_false (fun a => h3 a.2.2)⟩
      rw [hr.out]; clear h3 hb
      go_enter Try.func43, Try.ntmps43
      go_wp2_with (go_at_call 45; refine (is_c _ _).mono ?_; rintro e w' ⟨rfl, rfl⟩)
      go_ret
      exact ⟨rfl, rfl⟩
  · have t0 : wB 0 65535 a = false := by simpa using h2
    have hr : Aside0 (spB a n = false) := ⟨decide_eq_false (fun a => h2 (wB_iff.2 ⟨a.1, a.2.1⟩))⟩
    rw [hr.out]; clear h2
    go_enter Try.func43, Try.ntmps43
    go_wp2_with (go_at_call 45; refine (is_c _ _).mono ?_; rintro e w' ⟨rfl, rfl⟩)
    go_ret
    exact ⟨rfl, rfl⟩
set_option maxHeartbeats 4000000 in
set_option maxRecDepth 100000 in
theorem vals_1 (f a c : Int) (A : Option Addr) (cc : Nat) (v : List Int) (t n o lo hi : Int) (w : World) (hV : Kd.C (Kd.int .i64) w A v.length v) (h : (v.length : Int) < lo) : Calls Try.prog 44 #[.agg #[.int .i64 f, .int .i64 a, .int .i64 c, .slice A v.length cc, .int .i64 t, .int .i64 n, .int .i64 o], .int .i64 lo, .int .i64 hi] w fun e w' => e = .returned (.bool (false)) ∧ Below w.heap.size w w' := by
  have HV := Aside0.mk hV; clear hV
  have t1 : decide ((v.length : Int) < lo) = true := decide_eq_true h
  clear h
  go_enter Try.func44, Try.ntmps44
  go_wp2_with (first | fail)
  go_ret
  exact ⟨rfl, by repeat (first | exact Below.refl _ _ | apply below_alloc)⟩
set_option maxHeartbeats 4000000 in
set_option maxRecDepth 100000 in
theorem vals_2 (f a c : Int) (A : Option Addr) (cc : Nat) (v : List Int) (t n o lo hi : Int) (w : World) (hV : Kd.C (Kd.int .i64) w A v.length v) (h0 : ¬ (v.length : Int) < lo) (h : hi < (v.length : Int)) : Calls Try.prog 44 #[.agg #[.int .i64 f, .int .i64 a, .int .i64 c, .slice A v.length cc, .int .i64 t, .int .i64 n, .int .i64 o], .int .i64 lo, .int .i64 hi] w fun e w' => e = .returned (.bool (false)) ∧ Below w.heap.size w w' := by
  have HV := Aside0.mk hV; clear hV
  have t1 : decide ((v.length : Int) < lo) = false := decide_eq_false h0; have t2 : decide (hi < (v.length : Int)) = true := decide_eq_true h
  clear h h0
  go_enter Try.func44, Try.ntmps44
  go_wp2_with (first | fail)
  go_ret
  exact ⟨rfl, by repeat (first | exact Below.refl _ _ | apply below_alloc)⟩
set_option maxHeartbeats 4000000 in
set_option maxRecDepth 100000 in
theorem vals_3 (f a c : Int) (A : Option Addr) (cc : Nat) (v : List Int) (t n o lo hi : Int) (w : World) (hV : Kd.C (Kd.int .i64) w A v.length v) (h0 : ¬ (v.length : Int) < lo) (h : ¬ hi < (v.length : Int)) (hbt : bitB f = true) : Calls Try.prog 44 #[.agg #[.int .i64 f, .int .i64 a, .int .i64 c, .slice A v.length cc, .int .i64 t, .int .i64 n, .int .i64 o], .int .i64 lo, .int .i64 hi] w fun e w' => e = .returned (.bool (lowB 1 v)) ∧ Below w.heap.size w w' := by
  have HV := Aside0.mk hV; clear hV
  have t1 : decide ((v.length : Int) < lo) = false := decide_eq_false h0; have t2 : decide (hi < (v.length : Int)) = false := decide_eq_false h; have HBT := Aside0.mk hbt
  clear h h0 hbt
  go_enter Try.func44, Try.ntmps44
  go_wp2_with (first | (go_at_call 27; refine (bit_c _ _).mono ?_; rw [HBT.out]; rintro e w' ⟨rfl, rfl⟩) | (go_at_call 67; refine (bits_c A cc v _ ?hv).mono ?_; (case hv => (with_reducible repeat (first | refine Kd.C_alloc ?_ _ | refine Kd.C_drewN ?_ _ | refine Kd.C_drew ?_)); exact HV.out); rintro e w' ⟨rfl, rfl⟩))
  go_ret
  exact ⟨rfl, by repeat (first | exact Below.refl _ _ | apply below_alloc)⟩
set_option maxHeartbeats 4000000 in
set_option maxRecDepth 100000 in
theorem vals_4 (f a c : Int) (A : Option Addr) (cc : Nat) (v : List Int) (t n o lo hi : Int) (w : World) (hV : Kd.C (Kd.int .i64) w A v.length v) (h0 : ¬ (v.length : Int) < lo) (h : ¬ hi < (v.length : Int)) (hbt : bitB f = false) : Calls Try.prog 44 #[.agg #[.int .i64 f, .int .i64 a, .int .i64 c, .slice A v.length cc, .int .i64 t, .int .i64 n, .int .i64 o], .int .i64 lo, .int .i64 hi] w fun e w' => e = .returned (.bool (lowB 65535 v)) ∧ Below w.heap.size w w' := by
  have HV := Aside0.mk hV; clear hV
  have t1 : decide ((v.length : Int) < lo) = false := decide_eq_false h0; have t2 : decide (hi < (v.length : Int)) = false := decide_eq_false h; have HBT := Aside0.mk hbt
  clear h h0 hbt
  go_enter Try.func44, Try.ntmps44
  go_wp2_with (first | (go_at_call 27; refine (bit_c _ _).mono ?_; rw [HBT.out]; rintro e w' ⟨rfl, rfl⟩) | (go_at_call 68; refine (words_c A cc v _ ?hv).mono ?_; (case hv => (with_reducible repeat (first | refine Kd.C_alloc ?_ _ | refine Kd.C_drewN ?_ _ | refine Kd.C_drew ?_)); exact HV.out); rintro e w' ⟨rfl, rfl⟩))
  go_ret
  exact ⟨rfl, by repeat (first | exact Below.refl _ _ | apply below_alloc)⟩
theorem vals_c (f a c : Int) (A : Option Addr) (cc : Nat) (v : List Int) (t n o lo hi : Int) (w : World) (hV : Kd.C (Kd.int .i64) w A v.length v) {m : Int} (hm : (if bitB f = true then 1 else 65535) = m) : Calls Try.prog 44 #[.agg #[.int .i64 f, .int .i64 a, .int .i64 c, .slice A v.length cc, .int .i64 t, .int .i64 n, .int .i64 o], .int .i64 lo, .int .i64 hi] w fun e w' => e = .returned (.bool (smB lo hi m v)) ∧ Below w.heap.size w w' := by
  unfold smB
  by_cases h0 : (v.length : Int) < lo
  · rw [wB_no (fun a => by omega), Bool.false_and]; exact vals_1 f a c A cc v t n o lo hi w hV h0
  by_cases h1 : hi < (v.length : Int)
  · rw [wB_no (fun a => by omega), Bool.false_and]; exact vals_2 f a c A cc v t n o lo hi w hV h0 h1
  rw [wB_yes (by omega) (by omega), Bool.true_and]
  cases hb : bitB f with
  | true => rw [hb, if_pos rfl] at hm; subst hm; exact vals_3 f a c A cc v t n o lo hi w hV h0 h1 hb
  | false => rw [hb, if_neg (by simp)] at hm; subst hm; exact vals_4 f a c A cc v t n o lo hi w hV h0 h1 hb
theorem cells7 {w : World} {g : Nat} {v0 v1 v2 v3 v4 v5 v6 : Value} {T : TypeId} (h : w.heap[g]? = some (.cells #[v0, v1, v2, v3, v4, v5, v6] T (0, 0))) : w.cell? ⟨g, 0, none⟩ = some v0 ∧ w.cell? ⟨g, 1, none⟩ = some v1 ∧ w.cell? ⟨g, 2, none⟩ = some v2 ∧ w.cell? ⟨g, 3, none⟩ = some v3 ∧ w.cell? ⟨g, 4, none⟩ = some v4 ∧ w.cell? ⟨g, 5, none⟩ = some v5 ∧ w.cell? ⟨g, 6, none⟩ = some v6 :=
  ⟨(blk_cell h 0).trans rfl, (blk_cell h 1).trans rfl, (blk_cell h 2).trans rfl, (blk_cell h 3).trans rfl, (blk_cell h 4).trans rfl, (blk_cell h 5).trans rfl, (blk_cell h 6).trans rfl⟩
end Go.Proofs.Ytocicifgglkaeaa.Chk
end

section
namespace Go.Proofs.Ytocicifgglkaeaa.Chk
open Go.RowKit Go.Proofs.YtocicifgglkaeaaW.PrintWords Go.Proofs.YtocicifgglkaeaaW.PrintLast Go.Proofs.YtocicifgglkaeaaW.PrintMore Go.Proofs.Ytocicifgglkaeaa.Core Go.Proofs.Ytocicifgglkaeaa.Wk
set_option linter.unusedVariables false
set_option linter.unusedSimpArgs false
set_option maxHeartbeats 4000000 in
set_option maxRecDepth 100000 in
theorem may_1 (a c : Int) (A : Option Addr) (cc : Nat) (v : List Int) (t n o : Int) (w : World) (hV : Kd.C (Kd.int .i64) w A v.length v) : Calls Try.prog 20 #[.agg #[.int .i64 1, .int .i64 a, .int .i64 c, .slice A v.length cc, .int .i64 t, .int .i64 n, .int .i64 o]] w fun e w' => e = .returned (.bool (chkB 1 a c v t n o)) ∧ Below w.heap.size w w' := by
  have HV := Aside0.mk hV; clear hV
  by_cases hz0 : (n == 0) = true
  · have z0 : (n == 0) = true := hz0; clear hz0
    by_cases hz1 : (o == 0) = true
    · have z1 : (o == 0) = true := hz1; clear hz1
      by_cases hz2 : ((v.length : Int) == 0) = true
      · have z2 : ((v.length : Int) == 0) = true := hz2; clear hz2
        by_cases hz3 : (t == 0) = true
        · have z3 : (t == 0) = true := hz3; clear hz3
          by_cases hz4 : decide (1 ≤ c) = true
          · have z4 : decide (1 ≤ c) = true := hz4; clear hz4; have pz4 := of_decide_eq_true z4
            by_cases hz5 : decide (c ≤ 2000) = true
            · have z5 : decide (c ≤ 2000) = true := hz5; clear hz5; have pz5 := of_decide_eq_true z5
              by_cases hz6 : spB a c = true
              · have z6 : spB a c = true := hz6; clear hz6
                have HR : Aside0 (chkB 1 a c v t n o = true) := ⟨by simp_all [chkB, wB] <;> (intros; omega)⟩
                rw [HR.out]
                go_enter Try.func20, Try.ntmps20
                go_wp2_with (first | ((with_reducible refine gate_dst (N := 1) rfl ?_); refine box_event ?hg (N := 1) ?hd (cs := #[.int .i64 1, .int .i64 a, .int .i64 c, .slice A v.length cc, .int .i64 t, .int .i64 n, .int .i64 o]) (t := 24) ?hr ?_; (case hd => rfl); (case hg => rfl); (case hr => first | (go_simp; done) | (go_simp; rfl)); intro g hg w1 hb HB; have XB := Aside0.mk HB; have BK := Aside0.mk hb; obtain ⟨k0, k1, k2, k3, k4, k5, k6⟩ := cells7 hb; clear hg hb HB) | (go_at_call 45; refine (is_c _ _).mono ?_; rintro e w' ⟨rfl, rfl⟩) | (go_at_call 43; refine (refspan_c _ _ _ (by omega) (by omega)).mono ?_; rintro e w' ⟨rfl, rfl⟩))
                go_ret
                exact ⟨rfl, XB.out⟩
              · have z6 : spB a c = false := by simpa using hz6
                clear hz6
                have HR : Aside0 (chkB 1 a c v t n o = false) := ⟨by simp_all [chkB, wB] <;> (intros; omega)⟩
                rw [HR.out]
                go_enter Try.func20, Try.ntmps20
                go_wp2_with (first | ((with_reducible refine gate_dst (N := 1) rfl ?_); refine box_event ?hg (N := 1) ?hd (cs := #[.int .i64 1, .int .i64 a, .int .i64 c, .slice A v.length cc, .int .i64 t, .int .i64 n, .int .i64 o]) (t := 24) ?hr ?_; (case hd => rfl); (case hg => rfl); (case hr => first | (go_simp; done) | (go_simp; rfl)); intro g hg w1 hb HB; have XB := Aside0.mk HB; have BK := Aside0.mk hb; obtain ⟨k0, k1, k2, k3, k4, k5, k6⟩ := cells7 hb; clear hg hb HB) | (go_at_call 45; refine (is_c _ _).mono ?_; rintro e w' ⟨rfl, rfl⟩) | (go_at_call 43; refine (refspan_c _ _ _ (by omega) (by omega)).mono ?_; rintro e w' ⟨rfl, rfl⟩))
                go_ret
                exact ⟨rfl, XB.out⟩
            · have z5 : decide (c ≤ 2000) = false := by simpa using hz5
              clear hz5
              have HR : Aside0 (chkB 1 a c v t n o = false) := ⟨by simp_all [chkB, wB] <;> (intros; omega)⟩
              rw [HR.out]
              go_enter Try.func20, Try.ntmps20
              go_wp2_with (first | ((with_reducible refine gate_dst (N := 1) rfl ?_); refine box_event ?hg (N := 1) ?hd (cs := #[.int .i64 1, .int .i64 a, .int .i64 c, .slice A v.length cc, .int .i64 t, .int .i64 n, .int .i64 o]) (t := 24) ?hr ?_; (case hd => rfl); (case hg => rfl); (case hr => first | (go_simp; done) | (go_simp; rfl)); intro g hg w1 hb HB; have XB := Aside0.mk HB; have BK := Aside0.mk hb; obtain ⟨k0, k1, k2, k3, k4, k5, k6⟩ := cells7 hb; clear hg hb HB) | (go_at_call 45; refine (is_c _ _).mono ?_; rintro e w' ⟨rfl, rfl⟩) | (go_at_call 43; refine (refspan_c _ _ _ (by omega) (by omega)).mono ?_; rintro e w' ⟨rfl, rfl⟩))
              go_ret
              exact ⟨rfl, XB.out⟩
          · have z4 : decide (1 ≤ c) = false := by simpa using hz4
            clear hz4
            have HR : Aside0 (chkB 1 a c v t n o = false) := ⟨by simp_all [chkB, wB] <;> (intros; omega)⟩
            rw [HR.out]
            go_enter Try.func20, Try.ntmps20
            go_wp2_with (first | ((with_reducible refine gate_dst (N := 1) rfl ?_); refine box_event ?hg (N := 1) ?hd (cs := #[.int .i64 1, .int .i64 a, .int .i64 c, .slice A v.length cc, .int .i64 t, .int .i64 n, .int .i64 o]) (t := 24) ?hr ?_; (case hd => rfl); (case hg => rfl); (case hr => first | (go_simp; done) | (go_simp; rfl)); intro g hg w1 hb HB; have XB := Aside0.mk HB; have BK := Aside0.mk hb; obtain ⟨k0, k1, k2, k3, k4, k5, k6⟩ := cells7 hb; clear hg hb HB) | (go_at_call 45; refine (is_c _ _).mono ?_; rintro e w' ⟨rfl, rfl⟩) | (go_at_call 43; refine (refspan_c _ _ _ (by omega) (by omega)).mono ?_; rintro e w' ⟨rfl, rfl⟩))
            go_ret
            exact ⟨rfl, XB.out⟩
        · have z3 : (t == 0) = false := by simpa using hz3
          clear hz3
          have HR : Aside0 (chkB 1 a c v t n o = false) := ⟨by simp_all [chkB, wB] <;> (intros; omega)⟩
          rw [HR.out]
          go_enter Try.func20, Try.ntmps20
          go_wp2_with (first | ((with_reducible refine gate_dst (N := 1) rfl ?_); refine box_event ?hg (N := 1) ?hd (cs := #[.int .i64 1, .int .i64 a, .int .i64 c, .slice A v.length cc, .int .i64 t, .int .i64 n, .int .i64 o]) (t := 24) ?hr ?_; (case hd => rfl); (case hg => rfl); (case hr => first | (go_simp; done) | (go_simp; rfl)); intro g hg w1 hb HB; have XB := Aside0.mk HB; have BK := Aside0.mk hb; obtain ⟨k0, k1, k2, k3, k4, k5, k6⟩ := cells7 hb; clear hg hb HB) | (go_at_call 45; refine (is_c _ _).mono ?_; rintro e w' ⟨rfl, rfl⟩) | (go_at_call 43; refine (refspan_c _ _ _ (by omega) (by omega)).mono ?_; rintro e w' ⟨rfl, rfl⟩))
          go_ret
          exact ⟨rfl, XB.out⟩
      · have z2 : ((v.length : Int) == 0) = false := by simpa using hz2
        clear hz2
        have HR : Aside0 (chkB 1 a c v t n o = false) := ⟨by simp_all [chkB, wB] <;> (intros; omega)⟩
        rw [HR.out]
        go_enter Try.func20, Try.ntmps20
        go_wp2_with (first | ((with_reducible refine gate_dst (N := 1) rfl ?_); refine box_event ?hg (N := 1) ?hd (cs := #[.int .i64 1, .int .i64 a, .int .i64 c, .slice A v.length cc, .int .i64 t, .int .i64 n, .int .i64 o]) (t := 24) ?hr ?_; (case hd => rfl); (case hg => rfl); (case hr => first | (go_simp; done) | (go_simp; rfl)); intro g hg w1 hb HB; have XB := Aside0.mk HB; have BK := Aside0.mk hb; obtain ⟨k0, k1, k2, k3, k4, k5, k6⟩ := cells7 hb; clear hg hb HB) | (go_at_call 45; refine (is_c _ _).mono ?_; rintro e w' ⟨rfl, rfl⟩) | (go_at_call 43; refine (refspan_c _ _ _ (by omega) (by omega)).mono ?_; rintro e w' ⟨rfl, rfl⟩))
        go_ret
        exact ⟨rfl, XB.out⟩
    · have z1 : (o == 0) = false := by simpa using hz1
      clear hz1
      by_cases hz2 : ((v.length : Int) == 0) = true
      · have z2 : ((v.length : Int) == 0) = true := hz2; clear hz2
        have HR : Aside0 (chkB 1 a c v t n o = false) := ⟨by simp_all [chkB, wB] <;> (intros; omega)⟩
        rw [HR.out]
        go_enter Try.func20, Try.ntmps20
        go_wp2_with (first | ((with_reducible refine gate_dst (N := 1) rfl ?_); refine box_event ?hg (N := 1) ?hd (cs := #[.int .i64 1, .int .i64 a, .int .i64 c, .slice A v.length cc, .int .i64 t, .int .i64 n, .int .i64 o]) (t := 24) ?hr ?_; (case hd => rfl); (case hg => rfl); (case hr => first | (go_simp; done) | (go_simp; rfl)); intro g hg w1 hb HB; have XB := Aside0.mk HB; have BK := Aside0.mk hb; obtain ⟨k0, k1, k2, k3, k4, k5, k6⟩ := cells7 hb; clear hg hb HB) | (go_at_call 45; refine (is_c _ _).mono ?_; rintro e w' ⟨rfl, rfl⟩) | (go_at_call 43; refine (refspan_c _ _ _ (by omega) (by omega)).mono ?_; rintro e w' ⟨rfl, rfl⟩))
        go_ret
        exact ⟨rfl, XB.out⟩
      · have z2 : ((v.length : Int) == 0) = false := by simpa using hz2
        clear hz2
        have HR : Aside0 (chkB 1 a c v t n o = false) := ⟨by simp_all [chkB, wB] <;> (intros; omega)⟩
        rw [HR.out]
        go_enter Try.func20, Try.ntmps20
        go_wp2_with (first | ((with_reducible refine gate_dst (N := 1) rfl ?_); refine box_event ?hg (N := 1) ?hd (cs := #[.int .i64 1, .int .i64 a, .int .i64 c, .slice A v.length cc, .int .i64 t, .int .i64 n, .int .i64 o]) (t := 24) ?hr ?_; (case hd => rfl); (case hg => rfl); (case hr => first | (go_simp; done) | (go_simp; rfl)); intro g hg w1 hb HB; have XB := Aside0.mk HB; have BK := Aside0.mk hb; obtain ⟨k0, k1, k2, k3, k4, k5, k6⟩ := cells7 hb; clear hg hb HB) | (go_at_call 45; refine (is_c _ _).mono ?_; rintro e w' ⟨rfl, rfl⟩) | (go_at_call 43; refine (refspan_c _ _ _ (by omega) (by omega)).mono ?_; rintro e w' ⟨rfl, rfl⟩))
        go_ret
        exact ⟨rfl, XB.out⟩
  · have z0 : (n == 0) = false := by simpa using hz0
    clear hz0
    by_cases hz1 : ((v.length : Int) == 0) = true
    · have z1 : ((v.length : Int) == 0) = true := hz1; clear hz1
      have HR : Aside0 (chkB 1 a c v t n o = false) := ⟨by simp_all [chkB, wB] <;> (intros; omega)⟩
      rw [HR.out]
      go_enter Try.func20, Try.ntmps20
      go_wp2_with (first | ((with_reducible refine gate_dst (N := 1) rfl ?_); refine box_event ?hg (N := 1) ?hd (cs := #[.int .i64 1, .int .i64 a, .int .i64 c, .slice A v.length cc, .int .i64 t, .int .i64 n, .int .i64 o]) (t := 24) ?hr ?_; (case hd => rfl); (case hg => rfl); (case hr => first | (go_simp; done) | (go_simp; rfl)); intro g hg w1 hb HB; have XB := Aside0.mk HB; have BK := Aside0.mk hb; obtain ⟨k0, k1, k2, k3, k4, k5, k6⟩ := cells7 hb; clear hg hb HB) | (go_at_call 45; refine (is_c _ _).mono ?_; rintro e w' ⟨rfl, rfl⟩) | (go_at_call 43; refine (refspan_c _ _ _ (by omega) (by omega)).mono ?_; rintro e w' ⟨rfl, rfl⟩))
      go_ret
      exact ⟨rfl, XB.out⟩
    · have z1 : ((v.length : Int) == 0) = false := by simpa using hz1
      clear hz1
      have HR : Aside0 (chkB 1 a c v t n o = false) := ⟨by simp_all [chkB, wB] <;> (intros; omega)⟩
      rw [HR.out]
      go_enter Try.func20, Try.ntmps20
      go_wp2_with (first | ((with_reducible refine gate_dst (N := 1) rfl ?_); refine box_event ?hg (N := 1) ?hd (cs := #[.int .i64 1, .int .i64 a, .int .i64 c, .slice A v.length cc, .int .i64 t, .int .i64 n, .int .i64 o]) (t := 24) ?hr ?_; (case hd => rfl); (case hg => rfl); (case hr => first | (go_simp; done) | (go_simp; rfl)); intro g hg w1 hb HB; have XB := Aside0.mk HB; have BK := Aside0.mk hb; obtain ⟨k0, k1, k2, k3, k4, k5, k6⟩ := cells7 hb; clear hg hb HB) | (go_at_call 45; refine (is_c _ _).mono ?_; rintro e w' ⟨rfl, rfl⟩) | (go_at_call 43; refine (refspan_c _ _ _ (by omega) (by omega)).mono ?_; rintro e w' ⟨rfl, rfl⟩))
      go_ret
      exact ⟨rfl, XB.out⟩
set_option maxHeartbeats 4000000 in
set_option maxRecDepth 100000 in
theorem may_2 (a c : Int) (A : Option Addr) (cc : Nat) (v : List Int) (t n o : Int) (w : World) (hV : Kd.C (Kd.int .i64) w A v.length v) : Calls Try.prog 20 #[.agg #[.int .i64 2, .int .i64 a, .int .i64 c, .slice A v.length cc, .int .i64 t, .int .i64 n, .int .i64 o]] w fun e w' => e = .returned (.bool (chkB 2 a c v t n o)) ∧ Below w.heap.size w w' := by
  have HV := Aside0.mk hV; clear hV
  by_cases hz0 : (n == 0) = true
  · have z0 : (n == 0) = true := hz0; clear hz0
    by_cases hz1 : (o == 0) = true
    · have z1 : (o == 0) = true := hz1; clear hz1
      by_cases hz2 : ((v.length : Int) == 0) = true
      · have z2 : ((v.length : Int) == 0) = true := hz2; clear hz2
        by_cases hz3 : (t == 0) = true
        · have z3 : (t == 0) = true := hz3; clear hz3
          by_cases hz4 : decide (1 ≤ c) = true
          · have z4 : decide (1 ≤ c) = true := hz4; clear hz4; have pz4 := of_decide_eq_true z4
            by_cases hz5 : decide (c ≤ 2000) = true
            · have z5 : decide (c ≤ 2000) = true := hz5; clear hz5; have pz5 := of_decide_eq_true z5
              by_cases hz6 : spB a c = true
              · have z6 : spB a c = true := hz6; clear hz6
                have HR : Aside0 (chkB 2 a c v t n o = true) := ⟨by simp_all [chkB, wB] <;> (intros; omega)⟩
                rw [HR.out]
                go_enter Try.func20, Try.ntmps20
                go_wp2_with (first | ((with_reducible refine gate_dst (N := 1) rfl ?_); refine box_event ?hg (N := 1) ?hd (cs := #[.int .i64 2, .int .i64 a, .int .i64 c, .slice A v.length cc, .int .i64 t, .int .i64 n, .int .i64 o]) (t := 24) ?hr ?_; (case hd => rfl); (case hg => rfl); (case hr => first | (go_simp; done) | (go_simp; rfl)); intro g hg w1 hb HB; have XB := Aside0.mk HB; have BK := Aside0.mk hb; obtain ⟨k0, k1, k2, k3, k4, k5, k6⟩ := cells7 hb; clear hg hb HB) | (go_at_call 45; refine (is_c _ _).mono ?_; rintro e w' ⟨rfl, rfl⟩) | (go_at_call 43; refine (refspan_c _ _ _ (by omega) (by omega)).mono ?_; rintro e w' ⟨rfl, rfl⟩))
                go_ret
                exact ⟨rfl, XB.out⟩
              · have z6 : spB a c = false := by simpa using hz6
                clear hz6
                have HR : Aside0 (chkB 2 a c v t n o = false) := ⟨by simp_all [chkB, wB] <;> (intros; omega)⟩
                rw [HR.out]
                go_enter Try.func20, Try.ntmps20
                go_wp2_with (first | ((with_reducible refine gate_dst (N := 1) rfl ?_); refine box_event ?hg (N := 1) ?hd (cs := #[.int .i64 2, .int .i64 a, .int .i64 c, .slice A v.length cc, .int .i64 t, .int .i64 n, .int .i64 o]) (t := 24) ?hr ?_; (case hd => rfl); (case hg => rfl); (case hr => first | (go_simp; done) | (go_simp; rfl)); intro g hg w1 hb HB; have XB := Aside0.mk HB; have BK := Aside0.mk hb; obtain ⟨k0, k1, k2, k3, k4, k5, k6⟩ := cells7 hb; clear hg hb HB) | (go_at_call 45; refine (is_c _ _).mono ?_; rintro e w' ⟨rfl, rfl⟩) | (go_at_call 43; refine (refspan_c _ _ _ (by omega) (by omega)).mono ?_; rintro e w' ⟨rfl, rfl⟩))
                go_ret
                exact ⟨rfl, XB.out⟩
            · have z5 : decide (c ≤ 2000) = false := by simpa using hz5
              clear hz5
              have HR : Aside0 (chkB 2 a c v t n o = false) := ⟨by simp_all [chkB, wB] <;> (intros; omega)⟩
              rw [HR.out]
              go_enter Try.func20, Try.ntmps20
              go_wp2_with (first | ((with_reducible refine gate_dst (N := 1) rfl ?_); refine box_event ?hg (N := 1) ?hd (cs := #[.int .i64 2, .int .i64 a, .int .i64 c, .slice A v.length cc, .int .i64 t, .int .i64 n, .int .i64 o]) (t := 24) ?hr ?_; (case hd => rfl); (case hg => rfl); (case hr => first | (go_simp; done) | (go_simp; rfl)); intro g hg w1 hb HB; have XB := Aside0.mk HB; have BK := Aside0.mk hb; obtain ⟨k0, k1, k2, k3, k4, k5, k6⟩ := cells7 hb; clear hg hb HB) | (go_at_call 45; refine (is_c _ _).mono ?_; rintro e w' ⟨rfl, rfl⟩) | (go_at_call 43; refine (refspan_c _ _ _ (by omega) (by omega)).mono ?_; rintro e w' ⟨rfl, rfl⟩))
              go_ret
              exact ⟨rfl, XB.out⟩
          · have z4 : decide (1 ≤ c) = false := by simpa using hz4
            clear hz4
            have HR : Aside0 (chkB 2 a c v t n o = false) := ⟨by simp_all [chkB, wB] <;> (intros; omega)⟩
            rw [HR.out]
            go_enter Try.func20, Try.ntmps20
            go_wp2_with (first | ((with_reducible refine gate_dst (N := 1) rfl ?_); refine box_event ?hg (N := 1) ?hd (cs := #[.int .i64 2, .int .i64 a, .int .i64 c, .slice A v.length cc, .int .i64 t, .int .i64 n, .int .i64 o]) (t := 24) ?hr ?_; (case hd => rfl); (case hg => rfl); (case hr => first | (go_simp; done) | (go_simp; rfl)); intro g hg w1 hb HB; have XB := Aside0.mk HB; have BK := Aside0.mk hb; obtain ⟨k0, k1, k2, k3, k4, k5, k6⟩ := cells7 hb; clear hg hb HB) | (go_at_call 45; refine (is_c _ _).mono ?_; rintro e w' ⟨rfl, rfl⟩) | (go_at_call 43; refine (refspan_c _ _ _ (by omega) (by omega)).mono ?_; rintro e w' ⟨rfl, rfl⟩))
            go_ret
            exact ⟨rfl, XB.out⟩
        · have z3 : (t == 0) = false := by simpa using hz3
          clear hz3
          have HR : Aside0 (chkB 2 a c v t n o = false) := ⟨by simp_all [chkB, wB] <;> (intros; omega)⟩
          rw [HR.out]
          go_enter Try.func20, Try.ntmps20
          go_wp2_with (first | ((with_reducible refine gate_dst (N := 1) rfl ?_); refine box_event ?hg (N := 1) ?hd (cs := #[.int .i64 2, .int .i64 a, .int .i64 c, .slice A v.length cc, .int .i64 t, .int .i64 n, .int .i64 o]) (t := 24) ?hr ?_; (case hd => rfl); (case hg => rfl); (case hr => first | (go_simp; done) | (go_simp; rfl)); intro g hg w1 hb HB; have XB := Aside0.mk HB; have BK := Aside0.mk hb; obtain ⟨k0, k1, k2, k3, k4, k5, k6⟩ := cells7 hb; clear hg hb HB) | (go_at_call 45; refine (is_c _ _).mono ?_; rintro e w' ⟨rfl, rfl⟩) | (go_at_call 43; refine (refspan_c _ _ _ (by omega) (by omega)).mono ?_; rintro e w' ⟨rfl, rfl⟩))
          go_ret
          exact ⟨rfl, XB.out⟩
      · have z2 : ((v.length : Int) == 0) = false := by simpa using hz2
        clear hz2
        have HR : Aside0 (chkB 2 a c v t n o = false) := ⟨by simp_all [chkB, wB] <;> (intros; omega)⟩
        rw [HR.out]
        go_enter Try.func20, Try.ntmps20
        go_wp2_with (first | ((with_reducible refine gate_dst (N := 1) rfl ?_); refine box_event ?hg (N := 1) ?hd (cs := #[.int .i64 2, .int .i64 a, .int .i64 c, .slice A v.length cc, .int .i64 t, .int .i64 n, .int .i64 o]) (t := 24) ?hr ?_; (case hd => rfl); (case hg => rfl); (case hr => first | (go_simp; done) | (go_simp; rfl)); intro g hg w1 hb HB; have XB := Aside0.mk HB; have BK := Aside0.mk hb; obtain ⟨k0, k1, k2, k3, k4, k5, k6⟩ := cells7 hb; clear hg hb HB) | (go_at_call 45; refine (is_c _ _).mono ?_; rintro e w' ⟨rfl, rfl⟩) | (go_at_call 43; refine (refspan_c _ _ _ (by omega) (by omega)).mono ?_; rintro e w' ⟨rfl, rfl⟩))
        go_ret
        exact ⟨rfl, XB.out⟩
    · have z1 : (o == 0) = false := by simpa using hz1
      clear hz1
      by_cases hz2 : ((v.length : Int) == 0) = true
      · have z2 : ((v.length : Int) == 0) = true := hz2; clear hz2
        have HR : Aside0 (chkB 2 a c v t n o = false) := ⟨by simp_all [chkB, wB] <;> (intros; omega)⟩
        rw [HR.out]
        go_enter Try.func20, Try.ntmps20
        go_wp2_with (first | ((with_reducible refine gate_dst (N := 1) rfl ?_); refine box_event ?hg (N := 1) ?hd (cs := #[.int .i64 2, .int .i64 a, .int .i64 c, .slice A v.length cc, .int .i64 t, .int .i64 n, .int .i64 o]) (t := 24) ?hr ?_; (case hd => rfl); (case hg => rfl); (case hr => first | (go_simp; done) | (go_simp; rfl)); intro g hg w1 hb HB; have XB := Aside0.mk HB; have BK := Aside0.mk hb; obtain ⟨k0, k1, k2, k3, k4, k5, k6⟩ := cells7 hb; clear hg hb HB) | (go_at_call 45; refine (is_c _ _).mono ?_; rintro e w' ⟨rfl, rfl⟩) | (go_at_call 43; refine (refspan_c _ _ _ (by omega) (by omega)).mono ?_; rintro e w' ⟨rfl, rfl⟩))
        go_ret
        exact ⟨rfl, XB.out⟩
      · have z2 : ((v.length : Int) == 0) = false := by simpa using hz2
        clear hz2
        have HR : Aside0 (chkB 2 a c v t n o = false) := ⟨by simp_all [chkB, wB] <;> (intros; omega)⟩
        rw [HR.out]
        go_enter Try.func20, Try.ntmps20
        go_wp2_with (first | ((with_reducible refine gate_dst (N := 1) rfl ?_); refine box_event ?hg (N := 1) ?hd (cs := #[.int .i64 2, .int .i64 a, .int .i64 c, .slice A v.length cc, .int .i64 t, .int .i64 n, .int .i64 o]) (t := 24) ?hr ?_; (case hd => rfl); (case hg => rfl); (case hr => first | (go_simp; done) | (go_simp; rfl)); intro g hg w1 hb HB; have XB := Aside0.mk HB; have BK := Aside0.mk hb; obtain ⟨k0, k1, k2, k3, k4, k5, k6⟩ := cells7 hb; clear hg hb HB) | (go_at_call 45; refine (is_c _ _).mono ?_; rintro e w' ⟨rfl, rfl⟩) | (go_at_call 43; refine (refspan_c _ _ _ (by omega) (by omega)).mono ?_; rintro e w' ⟨rfl, rfl⟩))
        go_ret
        exact ⟨rfl, XB.out⟩
  · have z0 : (n == 0) = false := by simpa using hz0
    clear hz0
    by_cases hz1 : ((v.length : Int) == 0) = true
    · have z1 : ((v.length : Int) == 0) = true := hz1; clear hz1
      have HR : Aside0 (chkB 2 a c v t n o = false) := ⟨by simp_all [chkB, wB] <;> (intros; omega)⟩
      rw [HR.out]
      go_enter Try.func20, Try.ntmps20
      go_wp2_with (first | ((with_reducible refine gate_dst (N := 1) rfl ?_); refine box_event ?hg (N := 1) ?hd (cs := #[.int .i64 2, .int .i64 a, .int .i64 c, .slice A v.length cc, .int .i64 t, .int .i64 n, .int .i64 o]) (t := 24) ?hr ?_; (case hd => rfl); (case hg => rfl); (case hr => first | (go_simp; done) | (go_simp; rfl)); intro g hg w1 hb HB; have XB := Aside0.mk HB; have BK := Aside0.mk hb; obtain ⟨k0, k1, k2, k3, k4, k5, k6⟩ := cells7 hb; clear hg hb HB) | (go_at_call 45; refine (is_c _ _).mono ?_; rintro e w' ⟨rfl, rfl⟩) | (go_at_call 43; refine (refspan_c _ _ _ (by omega) (by omega)).mono ?_; rintro e w' ⟨rfl, rfl⟩))
      go_ret
      exact ⟨rfl, XB.out⟩
    · have z1 : ((v.length : Int) == 0) = false := by simpa using hz1
      clear hz1
      have HR : Aside0 (chkB 2 a c v t n o = false) := ⟨by simp_all [chkB, wB] <;> (intros; omega)⟩
      rw [HR.out]
      go_enter Try.func20, Try.ntmps20
      go_wp2_with (first | ((with_reducible refine gate_dst (N := 1) rfl ?_); refine box_event ?hg (N := 1) ?hd (cs := #[.int .i64 2, .int .i64 a, .int .i64 c, .slice A v.length cc, .int .i64 t, .int .i64 n, .int .i64 o]) (t := 24) ?hr ?_; (case hd => rfl); (case hg => rfl); (case hr => first | (go_simp; done) | (go_simp; rfl)); intro g hg w1 hb HB; have XB := Aside0.mk HB; have BK := Aside0.mk hb; obtain ⟨k0, k1, k2, k3, k4, k5, k6⟩ := cells7 hb; clear hg hb HB) | (go_at_call 45; refine (is_c _ _).mono ?_; rintro e w' ⟨rfl, rfl⟩) | (go_at_call 43; refine (refspan_c _ _ _ (by omega) (by omega)).mono ?_; rintro e w' ⟨rfl, rfl⟩))
      go_ret
      exact ⟨rfl, XB.out⟩
end Go.Proofs.Ytocicifgglkaeaa.Chk
end

section
namespace Go.Proofs.Ytocicifgglkaeaa.Chk
open Go.RowKit Go.Proofs.YtocicifgglkaeaaW.PrintWords Go.Proofs.YtocicifgglkaeaaW.PrintLast Go.Proofs.YtocicifgglkaeaaW.PrintMore Go.Proofs.Ytocicifgglkaeaa.Core Go.Proofs.Ytocicifgglkaeaa.Wk
set_option linter.unusedVariables false
set_option linter.unusedSimpArgs false
set_option maxHeartbeats 4000000 in
set_option maxRecDepth 100000 in
theorem may_3 (a c : Int) (A : Option Addr) (cc : Nat) (v : List Int) (t n o : Int) (w : World) (hV : Kd.C (Kd.int .i64) w A v.length v) : Calls Try.prog 20 #[.agg #[.int .i64 3, .int .i64 a, .int .i64 c, .slice A v.length cc, .int .i64 t, .int .i64 n, .int .i64 o]] w fun e w' => e = .returned (.bool (chkB 3 a c v t n o)) ∧ Below w.heap.size w w' := by
  have HV := Aside0.mk hV; clear hV
  by_cases hz0 : (n == 0) = true
  · have z0 : (n == 0) = true := hz0; clear hz0
    by_cases hz1 : (o == 0) = true
    · have z1 : (o == 0) = true := hz1; clear hz1
      by_cases hz2 : ((v.length : Int) == 0) = true
      · have z2 : ((v.length : Int) == 0) = true := hz2; clear hz2
        by_cases hz3 : (t == 0) = true
        · have z3 : (t == 0) = true := hz3; clear hz3
          by_cases hz4 : decide (1 ≤ c) = true
          · have z4 : decide (1 ≤ c) = true := hz4; clear hz4; have pz4 := of_decide_eq_true z4
            by_cases hz5 : decide (c ≤ 125) = true
            · have z5 : decide (c ≤ 125) = true := hz5; clear hz5; have pz5 := of_decide_eq_true z5
              by_cases hz6 : spB a c = true
              · have z6 : spB a c = true := hz6; clear hz6
                have HR : Aside0 (chkB 3 a c v t n o = true) := ⟨by simp_all [chkB, wB] <;> (intros; omega)⟩
                rw [HR.out]
                go_enter Try.func20, Try.ntmps20
                go_wp2_with (first | ((with_reducible refine gate_dst (N := 1) rfl ?_); refine box_event ?hg (N := 1) ?hd (cs := #[.int .i64 3, .int .i64 a, .int .i64 c, .slice A v.length cc, .int .i64 t, .int .i64 n, .int .i64 o]) (t := 24) ?hr ?_; (case hd => rfl); (case hg => rfl); (case hr => first | (go_simp; done) | (go_simp; rfl)); intro g hg w1 hb HB; have XB := Aside0.mk HB; have BK := Aside0.mk hb; obtain ⟨k0, k1, k2, k3, k4, k5, k6⟩ := cells7 hb; clear hg hb HB) | (go_at_call 45; refine (is_c _ _).mono ?_; rintro e w' ⟨rfl, rfl⟩) | (go_at_call 43; refine (refspan_c _ _ _ (by omega) (by omega)).mono ?_; rintro e w' ⟨rfl, rfl⟩))
                go_ret
                exact ⟨rfl, XB.out⟩
              · have z6 : spB a c = false := by simpa using hz6
                clear hz6
                have HR : Aside0 (chkB 3 a c v t n o = false) := ⟨by simp_all [chkB, wB] <;> (intros; omega)⟩
                rw [HR.out]
                go_enter Try.func20, Try.ntmps20
                go_wp2_with (first | ((with_reducible refine gate_dst (N := 1) rfl ?_); refine box_event ?hg (N := 1) ?hd (cs := #[.int .i64 3, .int .i64 a, .int .i64 c, .slice A v.length cc, .int .i64 t, .int .i64 n, .int .i64 o]) (t := 24) ?hr ?_; (case hd => rfl); (case hg => rfl); (case hr => first | (go_simp; done) | (go_simp; rfl)); intro g hg w1 hb HB; have XB := Aside0.mk HB; have BK := Aside0.mk hb; obtain ⟨k0, k1, k2, k3, k4, k5, k6⟩ := cells7 hb; clear hg hb HB) | (go_at_call 45; refine (is_c _ _).mono ?_; rintro e w' ⟨rfl, rfl⟩) | (go_at_call 43; refine (refspan_c _ _ _ (by omega) (by omega)).mono ?_; rintro e w' ⟨rfl, rfl⟩))
                go_ret
                exact ⟨rfl, XB.out⟩
            · have z5 : decide (c ≤ 125) = false := by simpa using hz5
              clear hz5
              have HR : Aside0 (chkB 3 a c v t n o = false) := ⟨by simp_all [chkB, wB] <;> (intros; omega)⟩
              rw [HR.out]
              go_enter Try.func20, Try.ntmps20
              go_wp2_with (first | ((with_reducible refine gate_dst (N := 1) rfl ?_); refine box_event ?hg (N := 1) ?hd (cs := #[.int .i64 3, .int .i64 a, .int .i64 c, .slice A v.length cc, .int .i64 t, .int .i64 n, .int .i64 o]) (t := 24) ?hr ?_; (case hd => rfl); (case hg => rfl); (case hr => first | (go_simp; done) | (go_simp; rfl)); intro g hg w1 hb HB; have XB := Aside0.mk HB; have BK := Aside0.mk hb; obtain ⟨k0, k1, k2, k3, k4, k5, k6⟩ := cells7 hb; clear hg hb HB) | (go_at_call 45; refine (is_c _ _).mono ?_; rintro e w' ⟨rfl, rfl⟩) | (go_at_call 43; refine (refspan_c _ _ _ (by omega) (by omega)).mono ?_; rintro e w' ⟨rfl, rfl⟩))
              go_ret
              exact ⟨rfl, XB.out⟩
          · have z4 : decide (1 ≤ c) = false := by simpa using hz4
            clear hz4
            have HR : Aside0 (chkB 3 a c v t n o = false) := ⟨by simp_all [chkB, wB] <;> (intros; omega)⟩
            rw [HR.out]
            go_enter Try.func20, Try.ntmps20
            go_wp2_with (first | ((with_reducible refine gate_dst (N := 1) rfl ?_); refine box_event ?hg (N := 1) ?hd (cs := #[.int .i64 3, .int .i64 a, .int .i64 c, .slice A v.length cc, .int .i64 t, .int .i64 n, .int .i64 o]) (t := 24) ?hr ?_; (case hd => rfl); (case hg => rfl); (case hr => first | (go_simp; done) | (go_simp; rfl)); intro g hg w1 hb HB; have XB := Aside0.mk HB; have BK := Aside0.mk hb; obtain ⟨k0, k1, k2, k3, k4, k5, k6⟩ := cells7 hb; clear hg hb HB) | (go_at_call 45; refine (is_c _ _).mono ?_; rintro e w' ⟨rfl, rfl⟩) | (go_at_call 43; refine (refspan_c _ _ _ (by omega) (by omega)).mono ?_; rintro e w' ⟨rfl, rfl⟩))
            go_ret
            exact ⟨rfl, XB.out⟩
        · have z3 : (t == 0) = false := by simpa using hz3
          clear hz3
          have HR : Aside0 (chkB 3 a c v t n o = false) := ⟨by simp_all [chkB, wB] <;> (intros; omega)⟩
          rw [HR.out]
          go_enter Try.func20, Try.ntmps20
          go_wp2_with (first | ((with_reducible refine gate_dst (N := 1) rfl ?_); refine box_event ?hg (N := 1) ?hd (cs := #[.int .i64 3, .int .i64 a, .int .i64 c, .slice A v.length cc, .int .i64 t, .int .i64 n, .int .i64 o]) (t := 24) ?hr ?_; (case hd => rfl); (case hg => rfl); (case hr => first | (go_simp; done) | (go_simp; rfl)); intro g hg w1 hb HB; have XB := Aside0.mk HB; have BK := Aside0.mk hb; obtain ⟨k0, k1, k2, k3, k4, k5, k6⟩ := cells7 hb; clear hg hb HB) | (go_at_call 45; refine (is_c _ _).mono ?_; rintro e w' ⟨rfl, rfl⟩) | (go_at_call 43; refine (refspan_c _ _ _ (by omega) (by omega)).mono ?_; rintro e w' ⟨rfl, rfl⟩))
          go_ret
          exact ⟨rfl, XB.out⟩
      · have z2 : ((v.length : Int) == 0) = false := by simpa using hz2
        clear hz2
        have HR : Aside0 (chkB 3 a c v t n o = false) := ⟨by simp_all [chkB, wB] <;> (intros; omega)⟩
        rw [HR.out]
        go_enter Try.func20, Try.ntmps20
        go_wp2_with (first | ((with_reducible refine gate_dst (N := 1) rfl ?_); refine box_event ?hg (N := 1) ?hd (cs := #[.int .i64 3, .int .i64 a, .int .i64 c, .slice A v.length cc, .int .i64 t, .int .i64 n, .int .i64 o]) (t := 24) ?hr ?_; (case hd => rfl); (case hg => rfl); (case hr => first | (go_simp; done) | (go_simp; rfl)); intro g hg w1 hb HB; have XB := Aside0.mk HB; have BK := Aside0.mk hb; obtain ⟨k0, k1, k2, k3, k4, k5, k6⟩ := cells7 hb; clear hg hb HB) | (go_at_call 45; refine (is_c _ _).mono ?_; rintro e w' ⟨rfl, rfl⟩) | (go_at_call 43; refine (refspan_c _ _ _ (by omega) (by omega)).mono ?_; rintro e w' ⟨rfl, rfl⟩))
        go_ret
        exact ⟨rfl, XB.out⟩
    · have z1 : (o == 0) = false := by simpa using hz1
      clear hz1
      by_cases hz2 : ((v.length : Int) == 0) = true
      · have z2 : ((v.length : Int) == 0) = true := hz2; clear hz2
        have HR : Aside0 (chkB 3 a c v t n o = false) := ⟨by simp_all [chkB, wB] <;> (intros; omega)⟩
        rw [HR.out]
        go_enter Try.func20, Try.ntmps20
        go_wp2_with (first | ((with_reducible refine gate_dst (N := 1) rfl ?_); refine box_event ?hg (N := 1) ?hd (cs := #[.int .i64 3, .int .i64 a, .int .i64 c, .slice A v.length cc, .int .i64 t, .int .i64 n, .int .i64 o]) (t := 24) ?hr ?_; (case hd => rfl); (case hg => rfl); (case hr => first | (go_simp; done) | (go_simp; rfl)); intro g hg w1 hb HB; have XB := Aside0.mk HB; have BK := Aside0.mk hb; obtain ⟨k0, k1, k2, k3, k4, k5, k6⟩ := cells7 hb; clear hg hb HB) | (go_at_call 45; refine (is_c _ _).mono ?_; rintro e w' ⟨rfl, rfl⟩) | (go_at_call 43; refine (refspan_c _ _ _ (by omega) (by omega)).mono ?_; rintro e w' ⟨rfl, rfl⟩))
        go_ret
        exact ⟨rfl, XB.out⟩
      · have z2 : ((v.length : Int) == 0) = false := by simpa using hz2
        clear hz2
        have HR : Aside0 (chkB 3 a c v t n o = false) := ⟨by simp_all [chkB, wB] <;> (intros; omega)⟩
        rw [HR.out]
        go_enter Try.func20, Try.ntmps20
        go_wp2_with (first | ((with_reducible refine gate_dst (N := 1) rfl ?_); refine box_event ?hg (N := 1) ?hd (cs := #[.int .i64 3, .int .i64 a, .int .i64 c, .slice A v.length cc, .int .i64 t, .int .i64 n, .int .i64 o]) (t := 24) ?hr ?_; (case hd => rfl); (case hg => rfl); (case hr => first | (go_simp; done) | (go_simp; rfl)); intro g hg w1 hb HB; have XB := Aside0.mk HB; have BK := Aside0.mk hb; obtain ⟨k0, k1, k2, k3, k4, k5, k6⟩ := cells7 hb; clear hg hb HB) | (go_at_call 45; refine (is_c _ _).mono ?_; rintro e w' ⟨rfl, rfl⟩) | (go_at_call 43; refine (refspan_c _ _ _ (by omega) (by omega)).mono ?_; rintro e w' ⟨rfl, rfl⟩))
        go_ret
        exact ⟨rfl, XB.out⟩
  · have z0 : (n == 0) = false := by simpa using hz0
    clear hz0
    by_cases hz1 : ((v.length : Int) == 0) = true
    · have z1 : ((v.length : Int) == 0) = true := hz1; clear hz1
      have HR : Aside0 (chkB 3 a c v t n o = false) := ⟨by simp_all [chkB, wB] <;> (intros; omega)⟩
      rw [HR.out]
      go_enter Try.func20, Try.ntmps20
      go_wp2_with (first | ((with_reducible refine gate_dst (N := 1) rfl ?_); refine box_event ?hg (N := 1) ?hd (cs := #[.int .i64 3, .int .i64 a, .int .i64 c, .slice A v.length cc, .int .i64 t, .int .i64 n, .int .i64 o]) (t := 24) ?hr ?_; (case hd => rfl); (case hg => rfl); (case hr => first | (go_simp; done) | (go_simp; rfl)); intro g hg w1 hb HB; have XB := Aside0.mk HB; have BK := Aside0.mk hb; obtain ⟨k0, k1, k2, k3, k4, k5, k6⟩ := cells7 hb; clear hg hb HB) | (go_at_call 45; refine (is_c _ _).mono ?_; rintro e w' ⟨rfl, rfl⟩) | (go_at_call 43; refine (refspan_c _ _ _ (by omega) (by omega)).mono ?_; rintro e w' ⟨rfl, rfl⟩))
      go_ret
      exact ⟨rfl, XB.out⟩
    · have z1 : ((v.length : Int) == 0) = false := by simpa using hz1
      clear hz1
      have HR : Aside0 (chkB 3 a c v t n o = false) := ⟨by simp_all [chkB, wB] <;> (intros; omega)⟩
      rw [HR.out]
      go_enter Try.func20, Try.ntmps20
      go_wp2_with (first | ((with_reducible refine gate_dst (N := 1) rfl ?_); refine box_event ?hg (N := 1) ?hd (cs := #[.int .i64 3, .int .i64 a, .int .i64 c, .slice A v.length cc, .int .i64 t, .int .i64 n, .int .i64 o]) (t := 24) ?hr ?_; (case hd => rfl); (case hg => rfl); (case hr => first | (go_simp; done) | (go_simp; rfl)); intro g hg w1 hb HB; have XB := Aside0.mk HB; have BK := Aside0.mk hb; obtain ⟨k0, k1, k2, k3, k4, k5, k6⟩ := cells7 hb; clear hg hb HB) | (go_at_call 45; refine (is_c _ _).mono ?_; rintro e w' ⟨rfl, rfl⟩) | (go_at_call 43; refine (refspan_c _ _ _ (by omega) (by omega)).mono ?_; rintro e w' ⟨rfl, rfl⟩))
      go_ret
      exact ⟨rfl, XB.out⟩
set_option maxHeartbeats 4000000 in
set_option maxRecDepth 100000 in
theorem may_4 (a c : Int) (A : Option Addr) (cc : Nat) (v : List Int) (t n o : Int) (w : World) (hV : Kd.C (Kd.int .i64) w A v.length v) : Calls Try.prog 20 #[.agg #[.int .i64 4, .int .i64 a, .int .i64 c, .slice A v.length cc, .int .i64 t, .int .i64 n, .int .i64 o]] w fun e w' => e = .returned (.bool (chkB 4 a c v t n o)) ∧ Below w.heap.size w w' := by
  have HV := Aside0.mk hV; clear hV
  by_cases hz0 : (n == 0) = true
  · have z0 : (n == 0) = true := hz0; clear hz0
    by_cases hz1 : (o == 0) = true
    · have z1 : (o == 0) = true := hz1; clear hz1
      by_cases hz2 : ((v.length : Int) == 0) = true
      · have z2 : ((v.length : Int) == 0) = true := hz2; clear hz2
        by_cases hz3 : (t == 0) = true
        · have z3 : (t == 0) = true := hz3; clear hz3
          by_cases hz4 : decide (1 ≤ c) = true
          · have z4 : decide (1 ≤ c) = true := hz4; clear hz4; have pz4 := of_decide_eq_true z4
            by_cases hz5 : decide (c ≤ 125) = true
            · have z5 : decide (c ≤ 125) = true := hz5; clear hz5; have pz5 := of_decide_eq_true z5
              by_cases hz6 : spB a c = true
              · have z6 : spB a c = true := hz6; clear hz6
                have HR : Aside0 (chkB 4 a c v t n o = true) := ⟨by simp_all [chkB, wB] <;> (intros; omega)⟩
                rw [HR.out]
                go_enter Try.func20, Try.ntmps20
                go_wp2_with (first | ((with_reducible refine gate_dst (N := 1) rfl ?_); refine box_event ?hg (N := 1) ?hd (cs := #[.int .i64 4, .int .i64 a, .int .i64 c, .slice A v.length cc, .int .i64 t, .int .i64 n, .int .i64 o]) (t := 24) ?hr ?_; (case hd => rfl); (case hg => rfl); (case hr => first | (go_simp; done) | (go_simp; rfl)); intro g hg w1 hb HB; have XB := Aside0.mk HB; have BK := Aside0.mk hb; obtain ⟨k0, k1, k2, k3, k4, k5, k6⟩ := cells7 hb; clear hg hb HB) | (go_at_call 45; refine (is_c _ _).mono ?_; rintro e w' ⟨rfl, rfl⟩) | (go_at_call 43; refine (refspan_c _ _ _ (by omega) (by omega)).mono ?_; rintro e w' ⟨rfl, rfl⟩))
                go_ret
                exact ⟨rfl, XB.out⟩
              · have z6 : spB a c = false := by simpa using hz6
                clear hz6
                have HR : Aside0 (chkB 4 a c v t n o = false) := ⟨by simp_all [chkB, wB] <;> (intros; omega)⟩
                rw [HR.out]
                go_enter Try.func20, Try.ntmps20
                go_wp2_with (first | ((with_reducible refine gate_dst (N := 1) rfl ?_); refine box_event ?hg (N := 1) ?hd (cs := #[.int .i64 4, .int .i64 a, .int .i64 c, .slice A v.length cc, .int .i64 t, .int .i64 n, .int .i64 o]) (t := 24) ?hr ?_; (case hd => rfl); (case hg => rfl); (case hr => first | (go_simp; done) | (go_simp; rfl)); intro g hg w1 hb HB; have XB := Aside0.mk HB; have BK := Aside0.mk hb; obtain ⟨k0, k1, k2, k3, k4, k5, k6⟩ := cells7 hb; clear hg hb HB) | (go_at_call 45; refine (is_c _ _).mono ?_; rintro e w' ⟨rfl, rfl⟩) | (go_at_call 43; refine (refspan_c _ _ _ (by omega) (by omega)).mono ?_; rintro e w' ⟨rfl, rfl⟩))
                go_ret
                exact ⟨rfl, XB.out⟩
            · have z5 : decide (c ≤ 125) = false := by simpa using hz5
              clear hz5
              have HR : Aside0 (chkB 4 a c v t n o = false) := ⟨by simp_all [chkB, wB] <;> (intros; omega)⟩
              rw [HR.out]
              go_enter Try.func20, Try.ntmps20
              go_wp2_with (first | ((with_reducible refine gate_dst (N := 1) rfl ?_); refine box_event ?hg (N := 1) ?hd (cs := #[.int .i64 4, .int .i64 a, .int .i64 c, .slice A v.length cc, .int .i64 t, .int .i64 n, .int .i64 o]) (t := 24) ?hr ?_; (case hd => rfl); (case hg => rfl); (case hr => first | (go_simp; done) | (go_simp; rfl)); intro g hg w1 hb HB; have XB := Aside0.mk HB; have BK := Aside0.mk hb; obtain ⟨k0, k1, k2, k3, k4, k5, k6⟩ := cells7 hb; clear hg hb HB) | (go_at_call 45; refine (is_c _ _).mono ?_; rintro e w' ⟨rfl, rfl⟩) | (go_at_call 43; refine (refspan_c _ _ _ (by omega) (by omega)).mono ?_; rintro e w' ⟨rfl, rfl⟩))
              go_ret
              exact ⟨rfl, XB.out⟩
          · have z4 : decide (1 ≤ c) = false := by simpa using hz4
            clear hz4
            have HR : Aside0 (chkB 4 a c v t n o = false) := ⟨by simp_all [chkB, wB] <;> (intros; omega)⟩
            rw [HR.out]
            go_enter Try.func20, Try.ntmps20
            go_wp2_with (first | ((with_reducible refine gate_dst (N := 1) rfl ?_); refine box_event ?hg (N := 1) ?hd (cs := #[.int .i64 4, .int .i64 a, .int .i64 c, .slice A v.length cc, .int .i64 t, .int .i64 n, .int .i64 o]) (t := 24) ?hr ?_; (case hd => rfl); (case hg => rfl); (case hr => first | (go_simp; done) | (go_simp; rfl)); intro g hg w1 hb HB; have XB := Aside0.mk HB; have BK := Aside0.mk hb; obtain ⟨k0, k1, k2, k3, k4, k5, k6⟩ := cells7 hb; clear hg hb HB) | (go_at_call 45; refine (is_c _ _).mono ?_; rintro e w' ⟨rfl, rfl⟩) | (go_at_call 43; refine (refspan_c _ _ _ (by omega) (by omega)).mono ?_; rintro e w' ⟨rfl, rfl⟩))
            go_ret
            exact ⟨rfl, XB.out⟩
        · have z3 : (t == 0) = false := by simpa using hz3
          clear hz3
          have HR : Aside0 (chkB 4 a c v t n o = false) := ⟨by simp_all [chkB, wB] <;> (intros; omega)⟩
          rw [HR.out]
          go_enter Try.func20, Try.ntmps20
          go_wp2_with (first | ((with_reducible refine gate_dst (N := 1) rfl ?_); refine box_event ?hg (N := 1) ?hd (cs := #[.int .i64 4, .int .i64 a, .int .i64 c, .slice A v.length cc, .int .i64 t, .int .i64 n, .int .i64 o]) (t := 24) ?hr ?_; (case hd => rfl); (case hg => rfl); (case hr => first | (go_simp; done) | (go_simp; rfl)); intro g hg w1 hb HB; have XB := Aside0.mk HB; have BK := Aside0.mk hb; obtain ⟨k0, k1, k2, k3, k4, k5, k6⟩ := cells7 hb; clear hg hb HB) | (go_at_call 45; refine (is_c _ _).mono ?_; rintro e w' ⟨rfl, rfl⟩) | (go_at_call 43; refine (refspan_c _ _ _ (by omega) (by omega)).mono ?_; rintro e w' ⟨rfl, rfl⟩))
          go_ret
          exact ⟨rfl, XB.out⟩
      · have z2 : ((v.length : Int) == 0) = false := by simpa using hz2
        clear hz2
        have HR : Aside0 (chkB 4 a c v t n o = false) := ⟨by simp_all [chkB, wB] <;> (intros; omega)⟩
        rw [HR.out]
        go_enter Try.func20, Try.ntmps20
        go_wp2_with (first | ((with_reducible refine gate_dst (N := 1) rfl ?_); refine box_event ?hg (N := 1) ?hd (cs := #[.int .i64 4, .int .i64 a, .int .i64 c, .slice A v.length cc, .int .i64 t, .int .i64 n, .int .i64 o]) (t := 24) ?hr ?_; (case hd => rfl); (case hg => rfl); (case hr => first | (go_simp; done) | (go_simp; rfl)); intro g hg w1 hb HB; have XB := Aside0.mk HB; have BK := Aside0.mk hb; obtain ⟨k0, k1, k2, k3, k4, k5, k6⟩ := cells7 hb; clear hg hb HB) | (go_at_call 45; refine (is_c _ _).mono ?_; rintro e w' ⟨rfl, rfl⟩) | (go_at_call 43; refine (refspan_c _ _ _ (by omega) (by omega)).mono ?_; rintro e w' ⟨rfl, rfl⟩))
        go_ret
        exact ⟨rfl, XB.out⟩
    · have z1 : (o == 0) = false := by simpa using hz1
      clear hz1
      by_cases hz2 : ((v.length : Int) == 0) = true
      · have z2 : ((v.length : Int) == 0) = true := hz2; clear hz2
        have HR : Aside0 (chkB 4 a c v t n o = false) := ⟨by simp_all [chkB, wB] <;> (intros; omega)⟩
        rw [HR.out]
        go_enter Try.func20, Try.ntmps20
        go_wp2_with (first | ((with_reducible refine gate_dst (N := 1) rfl ?_); refine box_event ?hg (N := 1) ?hd (cs := #[.int .i64 4, .int .i64 a, .int .i64 c, .slice A v.length cc, .int .i64 t, .int .i64 n, .int .i64 o]) (t := 24) ?hr ?_; (case hd => rfl); (case hg => rfl); (case hr => first | (go_simp; done) | (go_simp; rfl)); intro g hg w1 hb HB; have XB := Aside0.mk HB; have BK := Aside0.mk hb; obtain ⟨k0, k1, k2, k3, k4, k5, k6⟩ := cells7 hb; clear hg hb HB) | (go_at_call 45; refine (is_c _ _).mono ?_; rintro e w' ⟨rfl, rfl⟩) | (go_at_call 43; refine (refspan_c _ _ _ (by omega) (by omega)).mono ?_; rintro e w' ⟨rfl, rfl⟩))
        go_ret
        exact ⟨rfl, XB.out⟩
      · have z2 : ((v.length : Int) == 0) = false := by simpa using hz2
        clear hz2
        have HR : Aside0 (chkB 4 a c v t n o = false) := ⟨by simp_all [chkB, wB] <;> (intros; omega)⟩
        rw [HR.out]
        go_enter Try.func20, Try.ntmps20
        go_wp2_with (first | ((with_reducible refine gate_dst (N := 1) rfl ?_); refine box_event ?hg (N := 1) ?hd (cs := #[.int .i64 4, .int .i64 a, .int .i64 c, .slice A v.length cc, .int .i64 t, .int .i64 n, .int .i64 o]) (t := 24) ?hr ?_; (case hd => rfl); (case hg => rfl); (case hr => first | (go_simp; done) | (go_simp; rfl)); intro g hg w1 hb HB; have XB := Aside0.mk HB; have BK := Aside0.mk hb; obtain ⟨k0, k1, k2, k3, k4, k5, k6⟩ := cells7 hb; clear hg hb HB) | (go_at_call 45; refine (is_c _ _).mono ?_; rintro e w' ⟨rfl, rfl⟩) | (go_at_call 43; refine (refspan_c _ _ _ (by omega) (by omega)).mono ?_; rintro e w' ⟨rfl, rfl⟩))
        go_ret
        exact ⟨rfl, XB.out⟩
  · have z0 : (n == 0) = false := by simpa using hz0
    clear hz0
    by_cases hz1 : ((v.length : Int) == 0) = true
    · have z1 : ((v.length : Int) == 0) = true := hz1; clear hz1
      have HR : Aside0 (chkB 4 a c v t n o = false) := ⟨by simp_all [chkB, wB] <;> (intros; omega)⟩
      rw [HR.out]
      go_enter Try.func20, Try.ntmps20
      go_wp2_with (first | ((with_reducible refine gate_dst (N := 1) rfl ?_); refine box_event ?hg (N := 1) ?hd (cs := #[.int .i64 4, .int .i64 a, .int .i64 c, .slice A v.length cc, .int .i64 t, .int .i64 n, .int .i64 o]) (t := 24) ?hr ?_; (case hd => rfl); (case hg => rfl); (case hr => first | (go_simp; done) | (go_simp; rfl)); intro g hg w1 hb HB; have XB := Aside0.mk HB; have BK := Aside0.mk hb; obtain ⟨k0, k1, k2, k3, k4, k5, k6⟩ := cells7 hb; clear hg hb HB) | (go_at_call 45; refine (is_c _ _).mono ?_; rintro e w' ⟨rfl, rfl⟩) | (go_at_call 43; refine (refspan_c _ _ _ (by omega) (by omega)).mono ?_; rintro e w' ⟨rfl, rfl⟩))
      go_ret
      exact ⟨rfl, XB.out⟩
    · have z1 : ((v.length : Int) == 0) = false := by simpa using hz1
      clear hz1
      have HR : Aside0 (chkB 4 a c v t n o = false) := ⟨by simp_all [chkB, wB] <;> (intros; omega)⟩
      rw [HR.out]
      go_enter Try.func20, Try.ntmps20
      go_wp2_with (first | ((with_reducible refine gate_dst (N := 1) rfl ?_); refine box_event ?hg (N := 1) ?hd (cs := #[.int .i64 4, .int .i64 a, .int .i64 c, .slice A v.length cc, .int .i64 t, .int .i64 n, .int .i64 o]) (t := 24) ?hr ?_; (case hd => rfl); (case hg => rfl); (case hr => first | (go_simp; done) | (go_simp; rfl)); intro g hg w1 hb HB; have XB := Aside0.mk HB; have BK := Aside0.mk hb; obtain ⟨k0, k1, k2, k3, k4, k5, k6⟩ := cells7 hb; clear hg hb HB) | (go_at_call 45; refine (is_c _ _).mono ?_; rintro e w' ⟨rfl, rfl⟩) | (go_at_call 43; refine (refspan_c _ _ _ (by omega) (by omega)).mono ?_; rintro e w' ⟨rfl, rfl⟩))
      go_ret
      exact ⟨rfl, XB.out⟩
end Go.Proofs.Ytocicifgglkaeaa.Chk
end

section
namespace Go.Proofs.Ytocicifgglkaeaa.Chk
open Go.RowKit Go.Proofs.YtocicifgglkaeaaW.PrintWords Go.Proofs.YtocicifgglkaeaaW.PrintLast Go.Proofs.YtocicifgglkaeaaW.PrintMore Go.Proofs.Ytocicifgglkaeaa.Core Go.Proofs.Ytocicifgglkaeaa.Wk
set_option linter.unusedVariables false
set_option linter.unusedSimpArgs false
set_option maxHeartbeats 4000000 in
set_option maxRecDepth 100000 in
theorem may_5 (a c : Int) (A : Option Addr) (cc : Nat) (v : List Int) (t n o : Int) (w : World) (hV : Kd.C (Kd.int .i64) w A v.length v) : Calls Try.prog 20 #[.agg #[.int .i64 5, .int .i64 a, .int .i64 c, .slice A v.length cc, .int .i64 t, .int .i64 n, .int .i64 o]] w fun e w' => e = .returned (.bool (chkB 5 a c v t n o)) ∧ Below w.heap.size w w' := by
  have HV := Aside0.mk hV; clear hV
  by_cases hz0 : (n == 0) = true
  · have z0 : (n == 0) = true := hz0; clear hz0
    by_cases hz1 : (o == 0) = true
    · have z1 : (o == 0) = true := hz1; clear hz1
      by_cases hz2 : (t == 0) = true
      · have z2 : (t == 0) = true := hz2; clear hz2
        by_cases hz3 : (c == 0) = true
        · have z3 : (c == 0) = true := hz3; clear hz3
          by_cases hz4 : smB 1 1 1 v = true
          · have z4 : smB 1 1 1 v = true := hz4; clear hz4; have pz4 := smB_len z4
            by_cases hz5 : spB a 1 = true
            · have z5 : spB a 1 = true := hz5; clear hz5
              have HR : Aside0 (chkB 5 a c v t n o = true) := ⟨by simp_all [chkB, wB] <;> (intros; omega)⟩
              rw [HR.out]
              go_enter Try.func20, Try.ntmps20
              go_wp2_with (first | ((with_reducible refine gate_dst (N := 1) rfl ?_); refine box_event ?hg (N := 1) ?hd (cs := #[.int .i64 5, .int .i64 a, .int .i64 c, .slice A v.length cc, .int .i64 t, .int .i64 n, .int .i64 o]) (t := 24) ?hr ?_; (case hd => rfl); (case hg => rfl); (case hr => first | (go_simp; done) | (go_simp; rfl)); intro g hg w1 hb HB; have XB := Aside0.mk HB; have BK := Aside0.mk hb; obtain ⟨k0, k1, k2, k3, k4, k5, k6⟩ := cells7 hb; clear hg hb HB) | (go_at_call 45; refine (is_c _ _).mono ?_; rintro e w' ⟨rfl, rfl⟩) | (go_at_call 43; refine (refspan_c _ _ _ (by omega) (by omega)).mono ?_; rintro e w' ⟨rfl, rfl⟩) | (go_at_call 44; refine (vals_c 5 a c A cc v t n o _ _ _ (Kd.C_below HV.out XB.out) (m := 1) (by decide)).mono ?_; rintro e w2 ⟨rfl, HB⟩; have XBn := Aside0.mk (below_step XB.out HB); have BKn := Aside0.mk (blk_below BK.out HB); obtain ⟨k0, k1, k2, k3, k4, k5, k6⟩ := cells7 BKn.out; clear HB XB BK; have XB := XBn; have BK := BKn))
              go_ret
              exact ⟨rfl, XB.out⟩
            · have z5 : spB a 1 = false := by simpa using hz5
              clear hz5
              have HR : Aside0 (chkB 5 a c v t n o = false) := ⟨by simp_all [chkB, wB] <;> (intros; omega)⟩
              rw [HR.out]
              go_enter Try.func20, Try.ntmps20
              go_wp2_with (first | ((with_reducible refine gate_dst (N := 1) rfl ?_); refine box_event ?hg (N := 1) ?hd (cs := #[.int .i64 5, .int .i64 a, .int .i64 c, .slice A v.length cc, .int .i64 t, .int .i64 n, .int .i64 o]) (t := 24) ?hr ?_; (case hd => rfl); (case hg => rfl); (case hr => first | (go_simp; done) | (go_simp; rfl)); intro g hg w1 hb HB; have XB := Aside0.mk HB; have BK := Aside0.mk hb; obtain ⟨k0, k1, k2, k3, k4, k5, k6⟩ := cells7 hb; clear hg hb HB) | (go_at_call 45; refine (is_c _ _).mono ?_; rintro e w' ⟨rfl, rfl⟩) | (go_at_call 43; refine (refspan_c _ _ _ (by omega) (by omega)).mono ?_; rintro e w' ⟨rfl, rfl⟩) | (go_at_call 44; refine (vals_c 5 a c A cc v t n o _ _ _ (Kd.C_below HV.out XB.out) (m := 1) (by decide)).mono ?_; rintro e w2 ⟨rfl, HB⟩; have XBn := Aside0.mk (below_step XB.out HB); have BKn := Aside0.mk (blk_below BK.out HB); obtain ⟨k0, k1, k2, k3, k4, k5, k6⟩ := cells7 BKn.out; clear HB XB BK; have XB := XBn; have BK := BKn))
              go_ret
              exact ⟨rfl, XB.out⟩
          · have z4 : smB 1 1 1 v = false := by simpa using hz4
            clear hz4
            have HR : Aside0 (chkB 5 a c v t n o = false) := ⟨by simp_all [chkB, wB] <;> (intros; omega)⟩
            rw [HR.out]
            go_enter Try.func20, Try.ntmps20
            go_wp2_with (first | ((with_reducible refine gate_dst (N := 1) rfl ?_); refine box_event ?hg (N := 1) ?hd (cs := #[.int .i64 5, .int .i64 a, .int .i64 c, .slice A v.length cc, .int .i64 t, .int .i64 n, .int .i64 o]) (t := 24) ?hr ?_; (case hd => rfl); (case hg => rfl); (case hr => first | (go_simp; done) | (go_simp; rfl)); intro g hg w1 hb HB; have XB := Aside0.mk HB; have BK := Aside0.mk hb; obtain ⟨k0, k1, k2, k3, k4, k5, k6⟩ := cells7 hb; clear hg hb HB) | (go_at_call 45; refine (is_c _ _).mono ?_; rintro e w' ⟨rfl, rfl⟩) | (go_at_call 43; refine (refspan_c _ _ _ (by omega) (by omega)).mono ?_; rintro e w' ⟨rfl, rfl⟩) | (go_at_call 44; refine (vals_c 5 a c A cc v t n o _ _ _ (Kd.C_below HV.out XB.out) (m := 1) (by decide)).mono ?_; rintro e w2 ⟨rfl, HB⟩; have XBn := Aside0.mk (below_step XB.out HB); have BKn := Aside0.mk (blk_below BK.out HB); obtain ⟨k0, k1, k2, k3, k4, k5, k6⟩ := cells7 BKn.out; clear HB XB BK; have XB := XBn; have BK := BKn))
            go_ret
            exact ⟨rfl, XB.out⟩
        · have z3 : (c == 0) = false := by simpa using hz3
          clear hz3
          have HR : Aside0 (chkB 5 a c v t n o = false) := ⟨by simp_all [chkB, wB] <;> (intros; omega)⟩
          rw [HR.out]
          go_enter Try.func20, Try.ntmps20
          go_wp2_with (first | ((with_reducible refine gate_dst (N := 1) rfl ?_); refine box_event ?hg (N := 1) ?hd (cs := #[.int .i64 5, .int .i64 a, .int .i64 c, .slice A v.length cc, .int .i64 t, .int .i64 n, .int .i64 o]) (t := 24) ?hr ?_; (case hd => rfl); (case hg => rfl); (case hr => first | (go_simp; done) | (go_simp; rfl)); intro g hg w1 hb HB; have XB := Aside0.mk HB; have BK := Aside0.mk hb; obtain ⟨k0, k1, k2, k3, k4, k5, k6⟩ := cells7 hb; clear hg hb HB) | (go_at_call 45; refine (is_c _ _).mono ?_; rintro e w' ⟨rfl, rfl⟩) | (go_at_call 43; refine (refspan_c _ _ _ (by omega) (by omega)).mono ?_; rintro e w' ⟨rfl, rfl⟩) | (go_at_call 44; refine (vals_c 5 a c A cc v t n o _ _ _ (Kd.C_below HV.out XB.out) (m := 1) (by decide)).mono ?_; rintro e w2 ⟨rfl, HB⟩; have XBn := Aside0.mk (below_step XB.out HB); have BKn := Aside0.mk (blk_below BK.out HB); obtain ⟨k0, k1, k2, k3, k4, k5, k6⟩ := cells7 BKn.out; clear HB XB BK; have XB := XBn; have BK := BKn))
          go_ret
          exact ⟨rfl, XB.out⟩
      · have z2 : (t == 0) = false := by simpa using hz2
        clear hz2
        have HR : Aside0 (chkB 5 a c v t n o = false) := ⟨by simp_all [chkB, wB] <;> (intros; omega)⟩
        rw [HR.out]
        go_enter Try.func20, Try.ntmps20
        go_wp2_with (first | ((with_reducible refine gate_dst (N := 1) rfl ?_); refine box_event ?hg (N := 1) ?hd (cs := #[.int .i64 5, .int .i64 a, .int .i64 c, .slice A v.length cc, .int .i64 t, .int .i64 n, .int .i64 o]) (t := 24) ?hr ?_; (case hd => rfl); (case hg => rfl); (case hr => first | (go_simp; done) | (go_simp; rfl)); intro g hg w1 hb HB; have XB := Aside0.mk HB; have BK := Aside0.mk hb; obtain ⟨k0, k1, k2, k3, k4, k5, k6⟩ := cells7 hb; clear hg hb HB) | (go_at_call 45; refine (is_c _ _).mono ?_; rintro e w' ⟨rfl, rfl⟩) | (go_at_call 43; refine (refspan_c _ _ _ (by omega) (by omega)).mono ?_; rintro e w' ⟨rfl, rfl⟩) | (go_at_call 44; refine (vals_c 5 a c A cc v t n o _ _ _ (Kd.C_below HV.out XB.out) (m := 1) (by decide)).mono ?_; rintro e w2 ⟨rfl, HB⟩; have XBn := Aside0.mk (below_step XB.out HB); have BKn := Aside0.mk (blk_below BK.out HB); obtain ⟨k0, k1, k2, k3, k4, k5, k6⟩ := cells7 BKn.out; clear HB XB BK; have XB := XBn; have BK := BKn))
        go_ret
        exact ⟨rfl, XB.out⟩
    · have z1 : (o == 0) = false := by simpa using hz1
      clear hz1
      have HR : Aside0 (chkB 5 a c v t n o = false) := ⟨by simp_all [chkB, wB] <;> (intros; omega)⟩
      rw [HR.out]
      go_enter Try.func20, Try.ntmps20
      go_wp2_with (first | ((with_reducible refine gate_dst (N := 1) rfl ?_); refine box_event ?hg (N := 1) ?hd (cs := #[.int .i64 5, .int .i64 a, .int .i64 c, .slice A v.length cc, .int .i64 t, .int .i64 n, .int .i64 o]) (t := 24) ?hr ?_; (case hd => rfl); (case hg => rfl); (case hr => first | (go_simp; done) | (go_simp; rfl)); intro g hg w1 hb HB; have XB := Aside0.mk HB; have BK := Aside0.mk hb; obtain ⟨k0, k1, k2, k3, k4, k5, k6⟩ := cells7 hb; clear hg hb HB) | (go_at_call 45; refine (is_c _ _).mono ?_; rintro e w' ⟨rfl, rfl⟩) | (go_at_call 43; refine (refspan_c _ _ _ (by omega) (by omega)).mono ?_; rintro e w' ⟨rfl, rfl⟩) | (go_at_call 44; refine (vals_c 5 a c A cc v t n o _ _ _ (Kd.C_below HV.out XB.out) (m := 1) (by decide)).mono ?_; rintro e w2 ⟨rfl, HB⟩; have XBn := Aside0.mk (below_step XB.out HB); have BKn := Aside0.mk (blk_below BK.out HB); obtain ⟨k0, k1, k2, k3, k4, k5, k6⟩ := cells7 BKn.out; clear HB XB BK; have XB := XBn; have BK := BKn))
      go_ret
      exact ⟨rfl, XB.out⟩
  · have z0 : (n == 0) = false := by simpa using hz0
    clear hz0
    have HR : Aside0 (chkB 5 a c v t n o = false) := ⟨by simp_all [chkB, wB] <;> (intros; omega)⟩
    rw [HR.out]
    go_enter Try.func20, Try.ntmps20
    go_wp2_with (first | ((with_reducible refine gate_dst (N := 1) rfl ?_); refine box_event ?hg (N := 1) ?hd (cs := #[.int .i64 5, .int .i64 a, .int .i64 c, .slice A v.length cc, .int .i64 t, .int .i64 n, .int .i64 o]) (t := 24) ?hr ?_; (case hd => rfl); (case hg => rfl); (case hr => first | (go_simp; done) | (go_simp; rfl)); intro g hg w1 hb HB; have XB := Aside0.mk HB; have BK := Aside0.mk hb; obtain ⟨k0, k1, k2, k3, k4, k5, k6⟩ := cells7 hb; clear hg hb HB) | (go_at_call 45; refine (is_c _ _).mono ?_; rintro e w' ⟨rfl, rfl⟩) | (go_at_call 43; refine (refspan_c _ _ _ (by omega) (by omega)).mono ?_; rintro e w' ⟨rfl, rfl⟩) | (go_at_call 44; refine (vals_c 5 a c A cc v t n o _ _ _ (Kd.C_below HV.out XB.out) (m := 1) (by decide)).mono ?_; rintro e w2 ⟨rfl, HB⟩; have XBn := Aside0.mk (below_step XB.out HB); have BKn := Aside0.mk (blk_below BK.out HB); obtain ⟨k0, k1, k2, k3, k4, k5, k6⟩ := cells7 BKn.out; clear HB XB BK; have XB := XBn; have BK := BKn))
    go_ret
    exact ⟨rfl, XB.out⟩
set_option maxHeartbeats 4000000 in
set_option maxRecDepth 100000 in
theorem may_6 (a c : Int) (A : Option Addr) (cc : Nat) (v : List Int) (t n o : Int) (w : World) (hV : Kd.C (Kd.int .i64) w A v.length v) : Calls Try.prog 20 #[.agg #[.int .i64 6, .int .i64 a, .int .i64 c, .slice A v.length cc, .int .i64 t, .int .i64 n, .int .i64 o]] w fun e w' => e = .returned (.bool (chkB 6 a c v t n o)) ∧ Below w.heap.size w w' := by
  have HV := Aside0.mk hV; clear hV
  by_cases hz0 : (n == 0) = true
  · have z0 : (n == 0) = true := hz0; clear hz0
    by_cases hz1 : (o == 0) = true
    · have z1 : (o == 0) = true := hz1; clear hz1
      by_cases hz2 : (t == 0) = true
      · have z2 : (t == 0) = true := hz2; clear hz2
        by_cases hz3 : (c == 0) = true
        · have z3 : (c == 0) = true := hz3; clear hz3
          by_cases hz4 : smB 1 1 65535 v = true
          · have z4 : smB 1 1 65535 v = true := hz4; clear hz4; have pz4 := smB_len z4
            by_cases hz5 : spB a 1 = true
            · have z5 : spB a 1 = true := hz5; clear hz5
              have HR : Aside0 (chkB 6 a c v t n o = true) := ⟨by simp_all [chkB, wB] <;> (intros; omega)⟩
              rw [HR.out]
              go_enter Try.func20, Try.ntmps20
              go_wp2_with (first | ((with_reducible refine gate_dst (N := 1) rfl ?_); refine box_event ?hg (N := 1) ?hd (cs := #[.int .i64 6, .int .i64 a, .int .i64 c, .slice A v.length cc, .int .i64 t, .int .i64 n, .int .i64 o]) (t := 24) ?hr ?_; (case hd => rfl); (case hg => rfl); (case hr => first | (go_simp; done) | (go_simp; rfl)); intro g hg w1 hb HB; have XB := Aside0.mk HB; have BK := Aside0.mk hb; obtain ⟨k0, k1, k2, k3, k4, k5, k6⟩ := cells7 hb; clear hg hb HB) | (go_at_call 45; refine (is_c _ _).mono ?_; rintro e w' ⟨rfl, rfl⟩) | (go_at_call 43; refine (refspan_c _ _ _ (by omega) (by omega)).mono ?_; rintro e w' ⟨rfl, rfl⟩) | (go_at_call 44; refine (vals_c 6 a c A cc v t n o _ _ _ (Kd.C_below HV.out XB.out) (m := 65535) (by decide)).mono ?_; rintro e w2 ⟨rfl, HB⟩; have XBn := Aside0.mk (below_step XB.out HB); have BKn := Aside0.mk (blk_below BK.out HB); obtain ⟨k0, k1, k2, k3, k4, k5, k6⟩ := cells7 BKn.out; clear HB XB BK; have XB := XBn; have BK := BKn))
              go_ret
              exact ⟨rfl, XB.out⟩
            · have z5 : spB a 1 = false := by simpa using hz5
              clear hz5
              have HR : Aside0 (chkB 6 a c v t n o = false) := ⟨by simp_all [chkB, wB] <;> (intros; omega)⟩
              rw [HR.out]
              go_enter Try.func20, Try.ntmps20
              go_wp2_with (first | ((with_reducible refine gate_dst (N := 1) rfl ?_); refine box_event ?hg (N := 1) ?hd (cs := #[.int .i64 6, .int .i64 a, .int .i64 c, .slice A v.length cc, .int .i64 t, .int .i64 n, .int .i64 o]) (t := 24) ?hr ?_; (case hd => rfl); (case hg => rfl); (case hr => first | (go_simp; done) | (go_simp; rfl)); intro g hg w1 hb HB; have XB := Aside0.mk HB; have BK := Aside0.mk hb; obtain ⟨k0, k1, k2, k3, k4, k5, k6⟩ := cells7 hb; clear hg hb HB) | (go_at_call 45; refine (is_c _ _).mono ?_; rintro e w' ⟨rfl, rfl⟩) | (go_at_call 43; refine (refspan_c _ _ _ (by omega) (by omega)).mono ?_; rintro e w' ⟨rfl, rfl⟩) | (go_at_call 44; refine (vals_c 6 a c A cc v t n o _ _ _ (Kd.C_below HV.out XB.out) (m := 65535) (by decide)).mono ?_; rintro e w2 ⟨rfl, HB⟩; have XBn := Aside0.mk (below_step XB.out HB); have BKn := Aside0.mk (blk_below BK.out HB); obtain ⟨k0, k1, k2, k3, k4, k5, k6⟩ := cells7 BKn.out; clear HB XB BK; have XB := XBn; have BK := BKn))
              go_ret
              exact ⟨rfl, XB.out⟩
          · have z4 : smB 1 1 65535 v = false := by simpa using hz4
            clear hz4
            have HR : Aside0 (chkB 6 a c v t n o = false) := ⟨by simp_all [chkB, wB] <;> (intros; omega)⟩
            rw [HR.out]
            go_enter Try.func20, Try.ntmps20
            go_wp2_with (first | ((with_reducible refine gate_dst (N := 1) rfl ?_); refine box_event ?hg (N := 1) ?hd (cs := #[.int .i64 6, .int .i64 a, .int .i64 c, .slice A v.length cc, .int .i64 t, .int .i64 n, .int .i64 o]) (t := 24) ?hr ?_; (case hd => rfl); (case hg => rfl); (case hr => first | (go_simp; done) | (go_simp; rfl)); intro g hg w1 hb HB; have XB := Aside0.mk HB; have BK := Aside0.mk hb; obtain ⟨k0, k1, k2, k3, k4, k5, k6⟩ := cells7 hb; clear hg hb HB) | (go_at_call 45; refine (is_c _ _).mono ?_; rintro e w' ⟨rfl, rfl⟩) | (go_at_call 43; refine (refspan_c _ _ _ (by omega) (by omega)).mono ?_; rintro e w' ⟨rfl, rfl⟩) | (go_at_call 44; refine (vals_c 6 a c A cc v t n o _ _ _ (Kd.C_below HV.out XB.out) (m := 65535) (by decide)).mono ?_; rintro e w2 ⟨rfl, HB⟩; have XBn := Aside0.mk (below_step XB.out HB); have BKn := Aside0.mk (blk_below BK.out HB); obtain ⟨k0, k1, k2, k3, k4, k5, k6⟩ := cells7 BKn.out; clear HB XB BK; have XB := XBn; have BK := BKn))
            go_ret
            exact ⟨rfl, XB.out⟩
        · have z3 : (c == 0) = false := by simpa using hz3
          clear hz3
          have HR : Aside0 (chkB 6 a c v t n o = false) := ⟨by simp_all [chkB, wB] <;> (intros; omega)⟩
          rw [HR.out]
          go_enter Try.func20, Try.ntmps20
          go_wp2_with (first | ((with_reducible refine gate_dst (N := 1) rfl ?_); refine box_event ?hg (N := 1) ?hd (cs := #[.int .i64 6, .int .i64 a, .int .i64 c, .slice A v.length cc, .int .i64 t, .int .i64 n, .int .i64 o]) (t := 24) ?hr ?_; (case hd => rfl); (case hg => rfl); (case hr => first | (go_simp; done) | (go_simp; rfl)); intro g hg w1 hb HB; have XB := Aside0.mk HB; have BK := Aside0.mk hb; obtain ⟨k0, k1, k2, k3, k4, k5, k6⟩ := cells7 hb; clear hg hb HB) | (go_at_call 45; refine (is_c _ _).mono ?_; rintro e w' ⟨rfl, rfl⟩) | (go_at_call 43; refine (refspan_c _ _ _ (by omega) (by omega)).mono ?_; rintro e w' ⟨rfl, rfl⟩) | (go_at_call 44; refine (vals_c 6 a c A cc v t n o _ _ _ (Kd.C_below HV.out XB.out) (m := 65535) (by decide)).mono ?_; rintro e w2 ⟨rfl, HB⟩; have XBn := Aside0.mk (below_step XB.out HB); have BKn := Aside0.mk (blk_below BK.out HB); obtain ⟨k0, k1, k2, k3, k4, k5, k6⟩ := cells7 BKn.out; clear HB XB BK; have XB := XBn; have BK := BKn))
          go_ret
          exact ⟨rfl, XB.out⟩
      · have z2 : (t == 0) = false := by simpa using hz2
        clear hz2
        have HR : Aside0 (chkB 6 a c v t n o = false) := ⟨by simp_all [chkB, wB] <;> (intros; omega)⟩
        rw [HR.out]
        go_enter Try.func20, Try.ntmps20
        go_wp2_with (first | ((with_reducible refine gate_dst (N := 1) rfl ?_); refine box_event ?hg (N := 1) ?hd (cs := #[.int .i64 6, .int .i64 a, .int .i64 c, .slice A v.length cc, .int .i64 t, .int .i64 n, .int .i64 o]) (t := 24) ?hr ?_; (case hd => rfl); (case hg => rfl); (case hr => first | (go_simp; done) | (go_simp; rfl)); intro g hg w1 hb HB; have XB := Aside0.mk HB; have BK := Aside0.mk hb; obtain ⟨k0, k1, k2, k3, k4, k5, k6⟩ := cells7 hb; clear hg hb HB) | (go_at_call 45; refine (is_c _ _).mono ?_; rintro e w' ⟨rfl, rfl⟩) | (go_at_call 43; refine (refspan_c _ _ _ (by omega) (by omega)).mono ?_; rintro e w' ⟨rfl, rfl⟩) | (go_at_call 44; refine (vals_c 6 a c A cc v t n o _ _ _ (Kd.C_below HV.out XB.out) (m := 65535) (by decide)).mono ?_; rintro e w2 ⟨rfl, HB⟩; have XBn := Aside0.mk (below_step XB.out HB); have BKn := Aside0.mk (blk_below BK.out HB); obtain ⟨k0, k1, k2, k3, k4, k5, k6⟩ := cells7 BKn.out; clear HB XB BK; have XB := XBn; have BK := BKn))
        go_ret
        exact ⟨rfl, XB.out⟩
    · have z1 : (o == 0) = false := by simpa using hz1
      clear hz1
      have HR : Aside0 (chkB 6 a c v t n o = false) := ⟨by simp_all [chkB, wB] <;> (intros; omega)⟩
      rw [HR.out]
      go_enter Try.func20, Try.ntmps20
      go_wp2_with (first | ((with_reducible refine gate_dst (N := 1) rfl ?_); refine box_event ?hg (N := 1) ?hd (cs := #[.int .i64 6, .int .i64 a, .int .i64 c, .slice A v.length cc, .int .i64 t, .int .i64 n, .int .i64 o]) (t := 24) ?hr ?_; (case hd => rfl); (case hg => rfl); (case hr => first | (go_simp; done) | (go_simp; rfl)); intro g hg w1 hb HB; have XB := Aside0.mk HB; have BK := Aside0.mk hb; obtain ⟨k0, k1, k2, k3, k4, k5, k6⟩ := cells7 hb; clear hg hb HB) | (go_at_call 45; refine (is_c _ _).mono ?_; rintro e w' ⟨rfl, rfl⟩) | (go_at_call 43; refine (refspan_c _ _ _ (by omega) (by omega)).mono ?_; rintro e w' ⟨rfl, rfl⟩) | (go_at_call 44; refine (vals_c 6 a c A cc v t n o _ _ _ (Kd.C_below HV.out XB.out) (m := 65535) (by decide)).mono ?_; rintro e w2 ⟨rfl, HB⟩; have XBn := Aside0.mk (below_step XB.out HB); have BKn := Aside0.mk (blk_below BK.out HB); obtain ⟨k0, k1, k2, k3, k4, k5, k6⟩ := cells7 BKn.out; clear HB XB BK; have XB := XBn; have BK := BKn))
      go_ret
      exact ⟨rfl, XB.out⟩
  · have z0 : (n == 0) = false := by simpa using hz0
    clear hz0
    have HR : Aside0 (chkB 6 a c v t n o = false) := ⟨by simp_all [chkB, wB] <;> (intros; omega)⟩
    rw [HR.out]
    go_enter Try.func20, Try.ntmps20
    go_wp2_with (first | ((with_reducible refine gate_dst (N := 1) rfl ?_); refine box_event ?hg (N := 1) ?hd (cs := #[.int .i64 6, .int .i64 a, .int .i64 c, .slice A v.length cc, .int .i64 t, .int .i64 n, .int .i64 o]) (t := 24) ?hr ?_; (case hd => rfl); (case hg => rfl); (case hr => first | (go_simp; done) | (go_simp; rfl)); intro g hg w1 hb HB; have XB := Aside0.mk HB; have BK := Aside0.mk hb; obtain ⟨k0, k1, k2, k3, k4, k5, k6⟩ := cells7 hb; clear hg hb HB) | (go_at_call 45; refine (is_c _ _).mono ?_; rintro e w' ⟨rfl, rfl⟩) | (go_at_call 43; refine (refspan_c _ _ _ (by omega) (by omega)).mono ?_; rintro e w' ⟨rfl, rfl⟩) | (go_at_call 44; refine (vals_c 6 a c A cc v t n o _ _ _ (Kd.C_below HV.out XB.out) (m := 65535) (by decide)).mono ?_; rintro e w2 ⟨rfl, HB⟩; have XBn := Aside0.mk (below_step XB.out HB); have BKn := Aside0.mk (blk_below BK.out HB); obtain ⟨k0, k1, k2, k3, k4, k5, k6⟩ := cells7 BKn.out; clear HB XB BK; have XB := XBn; have BK := BKn))
    go_ret
    exact ⟨rfl, XB.out⟩
end Go.Proofs.Ytocicifgglkaeaa.Chk
end

section
namespace Go.Proofs.Ytocicifgglkaeaa.Chk
open Go.RowKit Go.Proofs.YtocicifgglkaeaaW.PrintWords Go.Proofs.YtocicifgglkaeaaW.PrintLast Go.Proofs.YtocicifgglkaeaaW.PrintMore Go.Proofs.Ytocicifgglkaeaa.Core Go.Proofs.Ytocicifgglkaeaa.Wk
set_option linter.unusedVariables false
set_option linter.unusedSimpArgs false
set_option maxHeartbeats 4000000 in
set_option maxRecDepth 100000 in
theorem may_15 (a c : Int) (A : Option Addr) (cc : Nat) (v : List Int) (t n o : Int) (w : World) (hV : Kd.C (Kd.int .i64) w A v.length v) : Calls Try.prog 20 #[.agg #[.int .i64 15, .int .i64 a, .int .i64 c, .slice A v.length cc, .int .i64 t, .int .i64 n, .int .i64 o]] w fun e w' => e = .returned (.bool (chkB 15 a c v t n o)) ∧ Below w.heap.size w w' := by
  have HV := Aside0.mk hV; clear hV
  by_cases hz0 : (n == 0) = true
  · have z0 : (n == 0) = true := hz0; clear hz0
    by_cases hz1 : (o == 0) = true
    · have z1 : (o == 0) = true := hz1; clear hz1
      by_cases hz2 : (t == 0) = true
      · have z2 : (t == 0) = true := hz2; clear hz2
        by_cases hz3 : (c == (v.length : Int)) = true
        · have z3 : (c == (v.length : Int)) = true := hz3; clear hz3
          by_cases hz4 : smB 1 1968 1 v = true
          · have z4 : smB 1 1968 1 v = true := hz4; clear hz4; have pz4 := smB_len z4
            by_cases hz5 : spB a v.length = true
            · have z5 : spB a v.length = true := hz5; clear hz5
              have HR : Aside0 (chkB 15 a c v t n o = true) := ⟨by simp_all [chkB, wB] <;> (intros; omega)⟩
              rw [HR.out]
              go_enter Try.func20, Try.ntmps20
              go_wp2_with (first | ((with_reducible refine gate_dst (N := 1) rfl ?_); refine box_event ?hg (N := 1) ?hd (cs := #[.int .i64 15, .int .i64 a, .int .i64 c, .slice A v.length cc, .int .i64 t, .int .i64 n, .int .i64 o]) (t := 24) ?hr ?_; (case hd => rfl); (case hg => rfl); (case hr => first | (go_simp; done) | (go_simp; rfl)); intro g hg w1 hb HB; have XB := Aside0.mk HB; have BK := Aside0.mk hb; obtain ⟨k0, k1, k2, k3, k4, k5, k6⟩ := cells7 hb; clear hg hb HB) | (go_at_call 45; refine (is_c _ _).mono ?_; rintro e w' ⟨rfl, rfl⟩) | (go_at_call 43; refine (refspan_c _ _ _ (by omega) (by omega)).mono ?_; rintro e w' ⟨rfl, rfl⟩) | (go_at_call 44; refine (vals_c 15 a c A cc v t n o _ _ _ (Kd.C_below HV.out XB.out) (m := 1) (by decide)).mono ?_; rintro e w2 ⟨rfl, HB⟩; have XBn := Aside0.mk (below_step XB.out HB); have BKn := Aside0.mk (blk_below BK.out HB); obtain ⟨k0, k1, k2, k3, k4, k5, k6⟩ := cells7 BKn.out; clear HB XB BK; have XB := XBn; have BK := BKn))
              go_ret
              exact ⟨rfl, XB.out⟩
            · have z5 : spB a v.length = false := by simpa using hz5
              clear hz5
              have HR : Aside0 (chkB 15 a c v t n o = false) := ⟨by simp_all [chkB, wB] <;> (intros; omega)⟩
              rw [HR.out]
              go_enter Try.func20, Try.ntmps20
              go_wp2_with (first | ((with_reducible refine gate_dst (N := 1) rfl ?_); refine box_event ?hg (N := 1) ?hd (cs := #[.int .i64 15, .int .i64 a, .int .i64 c, .slice A v.length cc, .int .i64 t, .int .i64 n, .int .i64 o]) (t := 24) ?hr ?_; (case hd => rfl); (case hg => rfl); (case hr => first | (go_simp; done) | (go_simp; rfl)); intro g hg w1 hb HB; have XB := Aside0.mk HB; have BK := Aside0.mk hb; obtain ⟨k0, k1, k2, k3, k4, k5, k6⟩ := cells7 hb; clear hg hb HB) | (go_at_call 45; refine (is_c _ _).mono ?_; rintro e w' ⟨rfl, rfl⟩) | (go_at_call 43; refine (refspan_c _ _ _ (by omega) (by omega)).mono ?_; rintro e w' ⟨rfl, rfl⟩) | (go_at_call 44; refine (vals_c 15 a c A cc v t n o _ _ _ (Kd.C_below HV.out XB.out) (m := 1) (by decide)).mono ?_; rintro e w2 ⟨rfl, HB⟩; have XBn := Aside0.mk (below_step XB.out HB); have BKn := Aside0.mk (blk_below BK.out HB); obtain ⟨k0, k1, k2, k3, k4, k5, k6⟩ := cells7 BKn.out; clear HB XB BK; have XB := XBn; have BK := BKn))
              go_ret
              exact ⟨rfl, XB.out⟩
          · have z4 : smB 1 1968 1 v = false := by simpa using hz4
            clear hz4
            have HR : Aside0 (chkB 15 a c v t n o = false) := ⟨by simp_all [chkB, wB] <;> (intros; omega)⟩
            rw [HR.out]
            go_enter Try.func20, Try.ntmps20
            go_wp2_with (first | ((with_reducible refine gate_dst (N := 1) rfl ?_); refine box_event ?hg (N := 1) ?hd (cs := #[.int .i64 15, .int .i64 a, .int .i64 c, .slice A v.length cc, .int .i64 t, .int .i64 n, .int .i64 o]) (t := 24) ?hr ?_; (case hd => rfl); (case hg => rfl); (case hr => first | (go_simp; done) | (go_simp; rfl)); intro g hg w1 hb HB; have XB := Aside0.mk HB; have BK := Aside0.mk hb; obtain ⟨k0, k1, k2, k3, k4, k5, k6⟩ := cells7 hb; clear hg hb HB) | (go_at_call 45; refine (is_c _ _).mono ?_; rintro e w' ⟨rfl, rfl⟩) | (go_at_call 43; refine (refspan_c _ _ _ (by omega) (by omega)).mono ?_; rintro e w' ⟨rfl, rfl⟩) | (go_at_call 44; refine (vals_c 15 a c A cc v t n o _ _ _ (Kd.C_below HV.out XB.out) (m := 1) (by decide)).mono ?_; rintro e w2 ⟨rfl, HB⟩; have XBn := Aside0.mk (below_step XB.out HB); have BKn := Aside0.mk (blk_below BK.out HB); obtain ⟨k0, k1, k2, k3, k4, k5, k6⟩ := cells7 BKn.out; clear HB XB BK; have XB := XBn; have BK := BKn))
            go_ret
            exact ⟨rfl, XB.out⟩
        · have z3 : (c == (v.length : Int)) = false := by simpa using hz3
          clear hz3
          have HR : Aside0 (chkB 15 a c v t n o = false) := ⟨by simp_all [chkB, wB] <;> (intros; omega)⟩
          rw [HR.out]
          go_enter Try.func20, Try.ntmps20
          go_wp2_with (first | ((with_reducible refine gate_dst (N := 1) rfl ?_); refine box_event ?hg (N := 1) ?hd (cs := #[.int .i64 15, .int .i64 a, .int .i64 c, .slice A v.length cc, .int .i64 t, .int .i64 n, .int .i64 o]) (t := 24) ?hr ?_; (case hd => rfl); (case hg => rfl); (case hr => first | (go_simp; done) | (go_simp; rfl)); intro g hg w1 hb HB; have XB := Aside0.mk HB; have BK := Aside0.mk hb; obtain ⟨k0, k1, k2, k3, k4, k5, k6⟩ := cells7 hb; clear hg hb HB) | (go_at_call 45; refine (is_c _ _).mono ?_; rintro e w' ⟨rfl, rfl⟩) | (go_at_call 43; refine (refspan_c _ _ _ (by omega) (by omega)).mono ?_; rintro e w' ⟨rfl, rfl⟩) | (go_at_call 44; refine (vals_c 15 a c A cc v t n o _ _ _ (Kd.C_below HV.out XB.out) (m := 1) (by decide)).mono ?_; rintro e w2 ⟨rfl, HB⟩; have XBn := Aside0.mk (below_step XB.out HB); have BKn := Aside0.mk (blk_below BK.out HB); obtain ⟨k0, k1, k2, k3, k4, k5, k6⟩ := cells7 BKn.out; clear HB XB BK; have XB := XBn; have BK := BKn))
          go_ret
          exact ⟨rfl, XB.out⟩
      · have z2 : (t == 0) = false := by simpa using hz2
        clear hz2
        have HR : Aside0 (chkB 15 a c v t n o = false) := ⟨by simp_all [chkB, wB] <;> (intros; omega)⟩
        rw [HR.out]
        go_enter Try.func20, Try.ntmps20
        go_wp2_with (first | ((with_reducible refine gate_dst (N := 1) rfl ?_); refine box_event ?hg (N := 1) ?hd (cs := #[.int .i64 15, .int .i64 a, .int .i64 c, .slice A v.length cc, .int .i64 t, .int .i64 n, .int .i64 o]) (t := 24) ?hr ?_; (case hd => rfl); (case hg => rfl); (case hr => first | (go_simp; done) | (go_simp; rfl)); intro g hg w1 hb HB; have XB := Aside0.mk HB; have BK := Aside0.mk hb; obtain ⟨k0, k1, k2, k3, k4, k5, k6⟩ := cells7 hb; clear hg hb HB) | (go_at_call 45; refine (is_c _ _).mono ?_; rintro e w' ⟨rfl, rfl⟩) | (go_at_call 43; refine (refspan_c _ _ _ (by omega) (by omega)).mono ?_; rintro e w' ⟨rfl, rfl⟩) | (go_at_call 44; refine (vals_c 15 a c A cc v t n o _ _ _ (Kd.C_below HV.out XB.out) (m := 1) (by decide)).mono ?_; rintro e w2 ⟨rfl, HB⟩; have XBn := Aside0.mk (below_step XB.out HB); have BKn := Aside0.mk (blk_below BK.out HB); obtain ⟨k0, k1, k2, k3, k4, k5, k6⟩ := cells7 BKn.out; clear HB XB BK; have XB := XBn; have BK := BKn))
        go_ret
        exact ⟨rfl, XB.out⟩
    · have z1 : (o == 0) = false := by simpa using hz1
      clear hz1
      have HR : Aside0 (chkB 15 a c v t n o = false) := ⟨by simp_all [chkB, wB] <;> (intros; omega)⟩
      rw [HR.out]
      go_enter Try.func20, Try.ntmps20
      go_wp2_with (first | ((with_reducible refine gate_dst (N := 1) rfl ?_); refine box_event ?hg (N := 1) ?hd (cs := #[.int .i64 15, .int .i64 a, .int .i64 c, .slice A v.length cc, .int .i64 t, .int .i64 n, .int .i64 o]) (t := 24) ?hr ?_; (case hd => rfl); (case hg => rfl); (case hr => first | (go_simp; done) | (go_simp; rfl)); intro g hg w1 hb HB; have XB := Aside0.mk HB; have BK := Aside0.mk hb; obtain ⟨k0, k1, k2, k3, k4, k5, k6⟩ := cells7 hb; clear hg hb HB) | (go_at_call 45; refine (is_c _ _).mono ?_; rintro e w' ⟨rfl, rfl⟩) | (go_at_call 43; refine (refspan_c _ _ _ (by omega) (by omega)).mono ?_; rintro e w' ⟨rfl, rfl⟩) | (go_at_call 44; refine (vals_c 15 a c A cc v t n o _ _ _ (Kd.C_below HV.out XB.out) (m := 1) (by decide)).mono ?_; rintro e w2 ⟨rfl, HB⟩; have XBn := Aside0.mk (below_step XB.out HB); have BKn := Aside0.mk (blk_below BK.out HB); obtain ⟨k0, k1, k2, k3, k4, k5, k6⟩ := cells7 BKn.out; clear HB XB BK; have XB := XBn; have BK := BKn))
      go_ret
      exact ⟨rfl, XB.out⟩
  · have z0 : (n == 0) = false := by simpa using hz0
    clear hz0
    have HR : Aside0 (chkB 15 a c v t n o = false) := ⟨by simp_all [chkB, wB] <;> (intros; omega)⟩
    rw [HR.out]
    go_enter Try.func20, Try.ntmps20
    go_wp2_with (first | ((with_reducible refine gate_dst (N := 1) rfl ?_); refine box_event ?hg (N := 1) ?hd (cs := #[.int .i64 15, .int .i64 a, .int .i64 c, .slice A v.length cc, .int .i64 t, .int .i64 n, .int .i64 o]) (t := 24) ?hr ?_; (case hd => rfl); (case hg => rfl); (case hr => first | (go_simp; done) | (go_simp; rfl)); intro g hg w1 hb HB; have XB := Aside0.mk HB; have BK := Aside0.mk hb; obtain ⟨k0, k1, k2, k3, k4, k5, k6⟩ := cells7 hb; clear hg hb HB) | (go_at_call 45; refine (is_c _ _).mono ?_; rintro e w' ⟨rfl, rfl⟩) | (go_at_call 43; refine (refspan_c _ _ _ (by omega) (by omega)).mono ?_; rintro e w' ⟨rfl, rfl⟩) | (go_at_call 44; refine (vals_c 15 a c A cc v t n o _ _ _ (Kd.C_below HV.out XB.out) (m := 1) (by decide)).mono ?_; rintro e w2 ⟨rfl, HB⟩; have XBn := Aside0.mk (below_step XB.out HB); have BKn := Aside0.mk (blk_below BK.out HB); obtain ⟨k0, k1, k2, k3, k4, k5, k6⟩ := cells7 BKn.out; clear HB XB BK; have XB := XBn; have BK := BKn))
    go_ret
    exact ⟨rfl, XB.out⟩
set_option maxHeartbeats 4000000 in
set_option maxRecDepth 100000 in
theorem may_16 (a c : Int) (A : Option Addr) (cc : Nat) (v : List Int) (t n o : Int) (w : World) (hV : Kd.C (Kd.int .i64) w A v.length v) : Calls Try.prog 20 #[.agg #[.int .i64 16, .int .i64 a, .int .i64 c, .slice A v.length cc, .int .i64 t, .int .i64 n, .int .i64 o]] w fun e w' => e = .returned (.bool (chkB 16 a c v t n o)) ∧ Below w.heap.size w w' := by
  have HV := Aside0.mk hV; clear hV
  by_cases hz0 : (n == 0) = true
  · have z0 : (n == 0) = true := hz0; clear hz0
    by_cases hz1 : (o == 0) = true
    · have z1 : (o == 0) = true := hz1; clear hz1
      by_cases hz2 : (t == 0) = true
      · have z2 : (t == 0) = true := hz2; clear hz2
        by_cases hz3 : (c == (v.length : Int)) = true
        · have z3 : (c == (v.length : Int)) = true := hz3; clear hz3
          by_cases hz4 : smB 1 123 65535 v = true
          · have z4 : smB 1 123 65535 v = true := hz4; clear hz4; have pz4 := smB_len z4
            by_cases hz5 : spB a v.length = true
            · have z5 : spB a v.length = true := hz5; clear hz5
              have HR : Aside0 (chkB 16 a c v t n o = true) := ⟨by simp_all [chkB, wB] <;> (intros; omega)⟩
              rw [HR.out]
              go_enter Try.func20, Try.ntmps20
              go_wp2_with (first | ((with_reducible refine gate_dst (N := 1) rfl ?_); refine box_event ?hg (N := 1) ?hd (cs := #[.int .i64 16, .int .i64 a, .int .i64 c, .slice A v.length cc, .int .i64 t, .int .i64 n, .int .i64 o]) (t := 24) ?hr ?_; (case hd => rfl); (case hg => rfl); (case hr => first | (go_simp; done) | (go_simp; rfl)); intro g hg w1 hb HB; have XB := Aside0.mk HB; have BK := Aside0.mk hb; obtain ⟨k0, k1, k2, k3, k4, k5, k6⟩ := cells7 hb; clear hg hb HB) | (go_at_call 45; refine (is_c _ _).mono ?_; rintro e w' ⟨rfl, rfl⟩) | (go_at_call 43; refine (refspan_c _ _ _ (by omega) (by omega)).mono ?_; rintro e w' ⟨rfl, rfl⟩) | (go_at_call 44; refine (vals_c 16 a c A cc v t n o _ _ _ (Kd.C_below HV.out XB.out) (m := 65535) (by decide)).mono ?_; rintro e w2 ⟨rfl, HB⟩; have XBn := Aside0.mk (below_step XB.out HB); have BKn := Aside0.mk (blk_below BK.out HB); obtain ⟨k0, k1, k2, k3, k4, k5, k6⟩ := cells7 BKn.out; clear HB XB BK; have XB := XBn; have BK := BKn))
              go_ret
              exact ⟨rfl, XB.out⟩
            · have z5 : spB a v.length = false := by simpa using hz5
              clear hz5
              have HR : Aside0 (chkB 16 a c v t n o = false) := ⟨by simp_all [chkB, wB] <;> (intros; omega)⟩
              rw [HR.out]
              go_enter Try.func20, Try.ntmps20
              go_wp2_with (first | ((with_reducible refine gate_dst (N := 1) rfl ?_); refine box_event ?hg (N := 1) ?hd (cs := #[.int .i64 16, .int .i64 a, .int .i64 c, .slice A v.length cc, .int .i64 t, .int .i64 n, .int .i64 o]) (t := 24) ?hr ?_; (case hd => rfl); (case hg => rfl); (case hr => first | (go_simp; done) | (go_simp; rfl)); intro g hg w1 hb HB; have XB := Aside0.mk HB; have BK := Aside0.mk hb; obtain ⟨k0, k1, k2, k3, k4, k5, k6⟩ := cells7 hb; clear hg hb HB) | (go_at_call 45; refine (is_c _ _).mono ?_; rintro e w' ⟨rfl, rfl⟩) | (go_at_call 43; refine (refspan_c _ _ _ (by omega) (by omega)).mono ?_; rintro e w' ⟨rfl, rfl⟩) | (go_at_call 44; refine (vals_c 16 a c A cc v t n o _ _ _ (Kd.C_below HV.out XB.out) (m := 65535) (by decide)).mono ?_; rintro e w2 ⟨rfl, HB⟩; have XBn := Aside0.mk (below_step XB.out HB); have BKn := Aside0.mk (blk_below BK.out HB); obtain ⟨k0, k1, k2, k3, k4, k5, k6⟩ := cells7 BKn.out; clear HB XB BK; have XB := XBn; have BK := BKn))
              go_ret
              exact ⟨rfl, XB.out⟩
          · have z4 : smB 1 123 65535 v = false := by simpa using hz4
            clear hz4
            have HR : Aside0 (chkB 16 a c v t n o = false) := ⟨by simp_all [chkB, wB] <;> (intros; omega)⟩
            rw [HR.out]
            go_enter Try.func20, Try.ntmps20
            go_wp2_with (first | ((with_reducible refine gate_dst (N := 1) rfl ?_); refine box_event ?hg (N := 1) ?hd (cs := #[.int .i64 16, .int .i64 a, .int .i64 c, .slice A v.length cc, .int .i64 t, .int .i64 n, .int .i64 o]) (t := 24) ?hr ?_; (case hd => rfl); (case hg => rfl); (case hr => first | (go_simp; done) | (go_simp; rfl)); intro g hg w1 hb HB; have XB := Aside0.mk HB; have BK := Aside0.mk hb; obtain ⟨k0, k1, k2, k3, k4, k5, k6⟩ := cells7 hb; clear hg hb HB) | (go_at_call 45; refine (is_c _ _).mono ?_; rintro e w' ⟨rfl, rfl⟩) | (go_at_call 43; refine (refspan_c _ _ _ (by omega) (by omega)).mono ?_; rintro e w' ⟨rfl, rfl⟩) | (go_at_call 44; refine (vals_c 16 a c A cc v t n o _ _ _ (Kd.C_below HV.out XB.out) (m := 65535) (by decide)).mono ?_; rintro e w2 ⟨rfl, HB⟩; have XBn := Aside0.mk (below_step XB.out HB); have BKn := Aside0.mk (blk_below BK.out HB); obtain ⟨k0, k1, k2, k3, k4, k5, k6⟩ := cells7 BKn.out; clear HB XB BK; have XB := XBn; have BK := BKn))
            go_ret
            exact ⟨rfl, XB.out⟩
        · have z3 : (c == (v.length : Int)) = false := by simpa using hz3
          clear hz3
          have HR : Aside0 (chkB 16 a c v t n o = false) := ⟨by simp_all [chkB, wB] <;> (intros; omega)⟩
          rw [HR.out]
          go_enter Try.func20, Try.ntmps20
          go_wp2_with (first | ((with_reducible refine gate_dst (N := 1) rfl ?_); refine box_event ?hg (N := 1) ?hd (cs := #[.int .i64 16, .int .i64 a, .int .i64 c, .slice A v.length cc, .int .i64 t, .int .i64 n, .int .i64 o]) (t := 24) ?hr ?_; (case hd => rfl); (case hg => rfl); (case hr => first | (go_simp; done) | (go_simp; rfl)); intro g hg w1 hb HB; have XB := Aside0.mk HB; have BK := Aside0.mk hb; obtain ⟨k0, k1, k2, k3, k4, k5, k6⟩ := cells7 hb; clear hg hb HB) | (go_at_call 45; refine (is_c _ _).mono ?_; rintro e w' ⟨rfl, rfl⟩) | (go_at_call 43; refine (refspan_c _ _ _ (by omega) (by omega)).mono ?_; rintro e w' ⟨rfl, rfl⟩) | (go_at_call 44; refine (vals_c 16 a c A cc v t n o _ _ _ (Kd.C_below HV.out XB.out) (m := 65535) (by decide)).mono ?_; rintro e w2 ⟨rfl, HB⟩; have XBn := Aside0.mk (below_step XB.out HB); have BKn := Aside0.mk (blk_below BK.out HB); obtain ⟨k0, k1, k2, k3, k4, k5, k6⟩ := cells7 BKn.out; clear HB XB BK; have XB := XBn; have BK := BKn))
          go_ret
          exact ⟨rfl, XB.out⟩
      · have z2 : (t == 0) = false := by simpa using hz2
        clear hz2
        have HR : Aside0 (chkB 16 a c v t n o = false) := ⟨by simp_all [chkB, wB] <;> (intros; omega)⟩
        rw [HR.out]
        go_enter Try.func20, Try.ntmps20
        go_wp2_with (first | ((with_reducible refine gate_dst (N := 1) rfl ?_); refine box_event ?hg (N := 1) ?hd (cs := #[.int .i64 16, .int .i64 a, .int .i64 c, .slice A v.length cc, .int .i64 t, .int .i64 n, .int .i64 o]) (t := 24) ?hr ?_; (case hd => rfl); (case hg => rfl); (case hr => first | (go_simp; done) | (go_simp; rfl)); intro g hg w1 hb HB; have XB := Aside0.mk HB; have BK := Aside0.mk hb; obtain ⟨k0, k1, k2, k3, k4, k5, k6⟩ := cells7 hb; clear hg hb HB) | (go_at_call 45; refine (is_c _ _).mono ?_; rintro e w' ⟨rfl, rfl⟩) | (go_at_call 43; refine (refspan_c _ _ _ (by omega) (by omega)).mono ?_; rintro e w' ⟨rfl, rfl⟩) | (go_at_call 44; refine (vals_c 16 a c A cc v t n o _ _ _ (Kd.C_below HV.out XB.out) (m := 65535) (by decide)).mono ?_; rintro e w2 ⟨rfl, HB⟩; have XBn := Aside0.mk (below_step XB.out HB); have BKn := Aside0.mk (blk_below BK.out HB); obtain ⟨k0, k1, k2, k3, k4, k5, k6⟩ := cells7 BKn.out; clear HB XB BK; have XB := XBn; have BK := BKn))
        go_ret
        exact ⟨rfl, XB.out⟩
    · have z1 : (o == 0) = false := by simpa using hz1
      clear hz1
      have HR : Aside0 (chkB 16 a c v t n o = false) := ⟨by simp_all [chkB, wB] <;> (intros; omega)⟩
      rw [HR.out]
      go_enter Try.func20, Try.ntmps20
      go_wp2_with (first | ((with_reducible refine gate_dst (N := 1) rfl ?_); refine box_event ?hg (N := 1) ?hd (cs := #[.int .i64 16, .int .i64 a, .int .i64 c, .slice A v.length cc, .int .i64 t, .int .i64 n, .int .i64 o]) (t := 24) ?hr ?_; (case hd => rfl); (case hg => rfl); (case hr => first | (go_simp; done) | (go_simp; rfl)); intro g hg w1 hb HB; have XB := Aside0.mk HB; have BK := Aside0.mk hb; obtain ⟨k0, k1, k2, k3, k4, k5, k6⟩ := cells7 hb; clear hg hb HB) | (go_at_call 45; refine (is_c _ _).mono ?_; rintro e w' ⟨rfl, rfl⟩) | (go_at_call 43; refine (refspan_c _ _ _ (by omega) (by omega)).mono ?_; rintro e w' ⟨rfl, rfl⟩) | (go_at_call 44; refine (vals_c 16 a c A cc v t n o _ _ _ (Kd.C_below HV.out XB.out) (m := 65535) (by decide)).mono ?_; rintro e w2 ⟨rfl, HB⟩; have XBn := Aside0.mk (below_step XB.out HB); have BKn := Aside0.mk (blk_below BK.out HB); obtain ⟨k0, k1, k2, k3, k4, k5, k6⟩ := cells7 BKn.out; clear HB XB BK; have XB := XBn; have BK := BKn))
      go_ret
      exact ⟨rfl, XB.out⟩
  · have z0 : (n == 0) = false := by simpa using hz0
    clear hz0
    have HR : Aside0 (chkB 16 a c v t n o = false) := ⟨by simp_all [chkB, wB] <;> (intros; omega)⟩
    rw [HR.out]
    go_enter Try.func20, Try.ntmps20
    go_wp2_with (first | ((with_reducible refine gate_dst (N := 1) rfl ?_); refine box_event ?hg (N := 1) ?hd (cs := #[.int .i64 16, .int .i64 a, .int .i64 c, .slice A v.length cc, .int .i64 t, .int .i64 n, .int .i64 o]) (t := 24) ?hr ?_; (case hd => rfl); (case hg => rfl); (case hr => first | (go_simp; done) | (go_simp; rfl)); intro g hg w1 hb HB; have XB := Aside0.mk HB; have BK := Aside0.mk hb; obtain ⟨k0, k1, k2, k3, k4, k5, k6⟩ := cells7 hb; clear hg hb HB) | (go_at_call 45; refine (is_c _ _).mono ?_; rintro e w' ⟨rfl, rfl⟩) | (go_at_call 43; refine (refspan_c _ _ _ (by omega) (by omega)).mono ?_; rintro e w' ⟨rfl, rfl⟩) | (go_at_call 44; refine (vals_c 16 a c A cc v t n o _ _ _ (Kd.C_below HV.out XB.out) (m := 65535) (by decide)).mono ?_; rintro e w2 ⟨rfl, HB⟩; have XBn := Aside0.mk (below_step XB.out HB); have BKn := Aside0.mk (blk_below BK.out HB); obtain ⟨k0, k1, k2, k3, k4, k5, k6⟩ := cells7 BKn.out; clear HB XB BK; have XB := XBn; have BK := BKn))
    go_ret
    exact ⟨rfl, XB.out⟩
end Go.Proofs.Ytocicifgglkaeaa.Chk
end

section
namespace Go.Proofs.Ytocicifgglkaeaa.Chk
open Go.RowKit Go.Proofs.YtocicifgglkaeaaW.PrintWords Go.Proofs.YtocicifgglkaeaaW.PrintLast Go.Proofs.YtocicifgglkaeaaW.PrintMore Go.Proofs.Ytocicifgglkaeaa.Core Go.Proofs.Ytocicifgglkaeaa.Wk
set_option linter.unusedVariables false
set_option linter.unusedSimpArgs false
set_option maxHeartbeats 4000000 in
set_option maxRecDepth 100000 in
theorem may_22 (a c : Int) (A : Option Addr) (cc : Nat) (v : List Int) (t n o : Int) (w : World) (hV : Kd.C (Kd.int .i64) w A v.length v) : Calls Try.prog 20 #[.agg #[.int .i64 22, .int .i64 a, .int .i64 c, .slice A v.length cc, .int .i64 t, .int .i64 n, .int .i64 o]] w fun e w' => e = .returned (.bool (chkB 22 a c v t n o)) ∧ Below w.heap.size w w' := by
  have HV := Aside0.mk hV; clear hV
  by_cases hz0 : (n == 0) = true
  · have z0 : (n == 0) = true := hz0; clear hz0
    by_cases hz1 : (o == 0) = true
    · have z1 : (o == 0) = true := hz1; clear hz1
      by_cases hz2 : ((v.length : Int) == 0) = true
      · have z2 : ((v.length : Int) == 0) = true := hz2; clear hz2
        by_cases hz3 : (t == 0) = true
        · have z3 : (t == 0) = true := hz3; clear hz3
          by_cases hz4 : (c == 0) = true
          · have z4 : (c == 0) = true := hz4; clear hz4
            by_cases hz5 : spB a 1 = true
            · have z5 : spB a 1 = true := hz5; clear hz5
              by_cases hz6 : wB 0 65535 n = true
              · have z6 : wB 0 65535 n = true := hz6; clear hz6
                by_cases hz7 : wB 0 65535 o = true
                · have z7 : wB 0 65535 o = true := hz7; clear hz7
                  have HR : Aside0 (chkB 22 a c v t n o = true) := ⟨by simp_all [chkB]⟩
                  rw [HR.out]
                  go_enter Try.func20, Try.ntmps20
                  go_wp2_with (first | ((with_reducible refine gate_dst (N := 1) rfl ?_); refine box_event ?hg (N := 1) ?hd (cs := #[.int .i64 22, .int .i64 a, .int .i64 c, .slice A v.length cc, .int .i64 t, .int .i64 n, .int .i64 o]) (t := 24) ?hr ?_; (case hd => rfl); (case hg => rfl); (case hr => first | (go_simp; done) | (go_simp; rfl)); intro g hg w1 hb HB; have XB := Aside0.mk HB; have BK := Aside0.mk hb; obtain ⟨k0, k1, k2, k3, k4, k5, k6⟩ := cells7 hb; clear hg hb HB) | (go_at_call 45; refine (is_c _ _).mono ?_; rintro e w' ⟨rfl, rfl⟩) | (go_at_call 43; refine (refspan_c _ _ _ (by omega) (by omega)).mono ?_; rintro e w' ⟨rfl, rfl⟩))
                  go_ret
                  exact ⟨rfl, XB.out⟩
                · have z7 : wB 0 65535 o = false := by simpa using hz7
                  clear hz7
                  have HR : Aside0 (chkB 22 a c v t n o = false) := ⟨by simp_all [chkB]⟩
                  rw [HR.out]
                  go_enter Try.func20, Try.ntmps20
                  go_wp2_with (first | ((with_reducible refine gate_dst (N := 1) rfl ?_); refine box_event ?hg (N := 1) ?hd (cs := #[.int .i64 22, .int .i64 a, .int .i64 c, .slice A v.length cc, .int .i64 t, .int .i64 n, .int .i64 o]) (t := 24) ?hr ?_; (case hd => rfl); (case hg => rfl); (case hr => first | (go_simp; done) | (go_simp; rfl)); intro g hg w1 hb HB; have XB := Aside0.mk HB; have BK := Aside0.mk hb; obtain ⟨k0, k1, k2, k3, k4, k5, k6⟩ := cells7 hb; clear hg hb HB) | (go_at_call 45; refine (is_c _ _).mono ?_; rintro e w' ⟨rfl, rfl⟩) | (go_at_call 43; refine (refspan_c _ _ _ (by omega) (by omega)).mono ?_; rintro e w' ⟨rfl, rfl⟩))
                  go_ret
                  exact ⟨rfl, XB.out⟩
              · have z6 : wB 0 65535 n = false := by simpa using hz6
                clear hz6
                have HR : Aside0 (chkB 22 a c v t n o = false) := ⟨by simp_all [chkB]⟩
                rw [HR.out]
                go_enter Try.func20, Try.ntmps20
                go_wp2_with (first | ((with_reducible refine gate_dst (N := 1) rfl ?_); refine box_event ?hg (N := 1) ?hd (cs := #[.int .i64 22, .int .i64 a, .int .i64 c, .slice A v.length cc, .int .i64 t, .int .i64 n, .int .i64 o]) (t := 24) ?hr ?_; (case hd => rfl); (case hg => rfl); (case hr => first | (go_simp; done) | (go_simp; rfl)); intro g hg w1 hb HB; have XB := Aside0.mk HB; have BK := Aside0.mk hb; obtain ⟨k0, k1, k2, k3, k4, k5, k6⟩ := cells7 hb; clear hg hb HB) | (go_at_call 45; refine (is_c _ _).mono ?_; rintro e w' ⟨rfl, rfl⟩) | (go_at_call 43; refine (refspan_c _ _ _ (by omega) (by omega)).mono ?_; rintro e w' ⟨rfl, rfl⟩))
                go_ret
                exact ⟨rfl, XB.out⟩
            · have z5 : spB a 1 = false := by simpa using hz5
              clear hz5
              have HR : Aside0 (chkB 22 a c v t n o = false) := ⟨by simp_all [chkB]⟩
              rw [HR.out]
              go_enter Try.func20, Try.ntmps20
              go_wp2_with (first | ((with_reducible refine gate_dst (N := 1) rfl ?_); refine box_event ?hg (N := 1) ?hd (cs := #[.int .i64 22, .int .i64 a, .int .i64 c, .slice A v.length cc, .int .i64 t, .int .i64 n, .int .i64 o]) (t := 24) ?hr ?_; (case hd => rfl); (case hg => rfl); (case hr => first | (go_simp; done) | (go_simp; rfl)); intro g hg w1 hb HB; have XB := Aside0.mk HB; have BK := Aside0.mk hb; obtain ⟨k0, k1, k2, k3, k4, k5, k6⟩ := cells7 hb; clear hg hb HB) | (go_at_call 45; refine (is_c _ _).mono ?_; rintro e w' ⟨rfl, rfl⟩) | (go_at_call 43; refine (refspan_c _ _ _ (by omega) (by omega)).mono ?_; rintro e w' ⟨rfl, rfl⟩))
              go_ret
              exact ⟨rfl, XB.out⟩
          · have z4 : (c == 0) = false := by simpa using hz4
            clear hz4
            have HR : Aside0 (chkB 22 a c v t n o = false) := ⟨by simp_all [chkB]⟩
            rw [HR.out]
            go_enter Try.func20, Try.ntmps20
            go_wp2_with (first | ((with_reducible refine gate_dst (N := 1) rfl ?_); refine box_event ?hg (N := 1) ?hd (cs := #[.int .i64 22, .int .i64 a, .int .i64 c, .slice A v.length cc, .int .i64 t, .int .i64 n, .int .i64 o]) (t := 24) ?hr ?_; (case hd => rfl); (case hg => rfl); (case hr => first | (go_simp; done) | (go_simp; rfl)); intro g hg w1 hb HB; have XB := Aside0.mk HB; have BK := Aside0.mk hb; obtain ⟨k0, k1, k2, k3, k4, k5, k6⟩ := cells7 hb; clear hg hb HB) | (go_at_call 45; refine (is_c _ _).mono ?_; rintro e w' ⟨rfl, rfl⟩) | (go_at_call 43; refine (refspan_c _ _ _ (by omega) (by omega)).mono ?_; rintro e w' ⟨rfl, rfl⟩))
            go_ret
            exact ⟨rfl, XB.out⟩
        · have z3 : (t == 0) = false := by simpa using hz3
          clear hz3
          have HR : Aside0 (chkB 22 a c v t n o = false) := ⟨by simp_all [chkB]⟩
          rw [HR.out]
          go_enter Try.func20, Try.ntmps20
          go_wp2_with (first | ((with_reducible refine gate_dst (N := 1) rfl ?_); refine box_event ?hg (N := 1) ?hd (cs := #[.int .i64 22, .int .i64 a, .int .i64 c, .slice A v.length cc, .int .i64 t, .int .i64 n, .int .i64 o]) (t := 24) ?hr ?_; (case hd => rfl); (case hg => rfl); (case hr => first | (go_simp; done) | (go_simp; rfl)); intro g hg w1 hb HB; have XB := Aside0.mk HB; have BK := Aside0.mk hb; obtain ⟨k0, k1, k2, k3, k4, k5, k6⟩ := cells7 hb; clear hg hb HB) | (go_at_call 45; refine (is_c _ _).mono ?_; rintro e w' ⟨rfl, rfl⟩) | (go_at_call 43; refine (refspan_c _ _ _ (by omega) (by omega)).mono ?_; rintro e w' ⟨rfl, rfl⟩))
          go_ret
          exact ⟨rfl, XB.out⟩
      · have z2 : ((v.length : Int) == 0) = false := by simpa using hz2
        clear hz2
        have HR : Aside0 (chkB 22 a c v t n o = false) := ⟨by simp_all [chkB]⟩
        rw [HR.out]
        go_enter Try.func20, Try.ntmps20
        go_wp2_with (first | ((with_reducible refine gate_dst (N := 1) rfl ?_); refine box_event ?hg (N := 1) ?hd (cs := #[.int .i64 22, .int .i64 a, .int .i64 c, .slice A v.length cc, .int .i64 t, .int .i64 n, .int .i64 o]) (t := 24) ?hr ?_; (case hd => rfl); (case hg => rfl); (case hr => first | (go_simp; done) | (go_simp; rfl)); intro g hg w1 hb HB; have XB := Aside0.mk HB; have BK := Aside0.mk hb; obtain ⟨k0, k1, k2, k3, k4, k5, k6⟩ := cells7 hb; clear hg hb HB) | (go_at_call 45; refine (is_c _ _).mono ?_; rintro e w' ⟨rfl, rfl⟩) | (go_at_call 43; refine (refspan_c _ _ _ (by omega) (by omega)).mono ?_; rintro e w' ⟨rfl, rfl⟩))
        go_ret
        exact ⟨rfl, XB.out⟩
    · have z1 : (o == 0) = false := by simpa using hz1
      clear hz1
      by_cases hz2 : ((v.length : Int) == 0) = true
      · have z2 : ((v.length : Int) == 0) = true := hz2; clear hz2
        by_cases hz3 : (t == 0) = true
        · have z3 : (t == 0) = true := hz3; clear hz3
          by_cases hz4 : (c == 0) = true
          · have z4 : (c == 0) = true := hz4; clear hz4
            by_cases hz5 : spB a 1 = true
            · have z5 : spB a 1 = true := hz5; clear hz5
              by_cases hz6 : wB 0 65535 n = true
              · have z6 : wB 0 65535 n = true := hz6; clear hz6
                by_cases hz7 : wB 0 65535 o = true
                · have z7 : wB 0 65535 o = true := hz7; clear hz7
                  have HR : Aside0 (chkB 22 a c v t n o = true) := ⟨by simp_all [chkB]⟩
                  rw [HR.out]
                  go_enter Try.func20, Try.ntmps20
                  go_wp2_with (first | ((with_reducible refine gate_dst (N := 1) rfl ?_); refine box_event ?hg (N := 1) ?hd (cs := #[.int .i64 22, .int .i64 a, .int .i64 c, .slice A v.length cc, .int .i64 t, .int .i64 n, .int .i64 o]) (t := 24) ?hr ?_; (case hd => rfl); (case hg => rfl); (case hr => first | (go_simp; done) | (go_simp; rfl)); intro g hg w1 hb HB; have XB := Aside0.mk HB; have BK := Aside0.mk hb; obtain ⟨k0, k1, k2, k3, k4, k5, k6⟩ := cells7 hb; clear hg hb HB) | (go_at_call 45; refine (is_c _ _).mono ?_; rintro e w' ⟨rfl, rfl⟩) | (go_at_call 43; refine (refspan_c _ _ _ (by omega) (by omega)).mono ?_; rintro e w' ⟨rfl, rfl⟩))
                  go_ret
                  exact ⟨rfl, XB.out⟩
                · have z7 : wB 0 65535 o = false := by simpa using hz7
                  clear hz7
                  have HR : Aside0 (chkB 22 a c v t n o = false) := ⟨by simp_all [chkB]⟩
                  rw [HR.out]
                  go_enter Try.func20, Try.ntmps20
                  go_wp2_with (first | ((with_reducible refine gate_dst (N := 1) rfl ?_); refine box_event ?hg (N := 1) ?hd (cs := #[.int .i64 22, .int .i64 a, .int .i64 c, .slice A v.length cc, .int .i64 t, .int .i64 n, .int .i64 o]) (t := 24) ?hr ?_; (case hd => rfl); (case hg => rfl); (case hr => first | (go_simp; done) | (go_simp; rfl)); intro g hg w1 hb HB; have XB := Aside0.mk HB; have BK := Aside0.mk hb; obtain ⟨k0, k1, k2, k3, k4, k5, k6⟩ := cells7 hb; clear hg hb HB) | (go_at_call 45; refine (is_c _ _).mono ?_; rintro e w' ⟨rfl, rfl⟩) | (go_at_call 43; refine (refspan_c _ _ _ (by omega) (by omega)).mono ?_; rintro e w' ⟨rfl, rfl⟩))
                  go_ret
                  exact ⟨rfl, XB.out⟩
              · have z6 : wB 0 65535 n = false := by simpa using hz6
                clear hz6
                have HR : Aside0 (chkB 22 a c v t n o = false) := ⟨by simp_all [chkB]⟩
                rw [HR.out]
                go_enter Try.func20, Try.ntmps20
                go_wp2_with (first | ((with_reducible refine gate_dst (N := 1) rfl ?_); refine box_event ?hg (N := 1) ?hd (cs := #[.int .i64 22, .int .i64 a, .int .i64 c, .slice A v.length cc, .int .i64 t, .int .i64 n, .int .i64 o]) (t := 24) ?hr ?_; (case hd => rfl); (case hg => rfl); (case hr => first | (go_simp; done) | (go_simp; rfl)); intro g hg w1 hb HB; have XB := Aside0.mk HB; have BK := Aside0.mk hb; obtain ⟨k0, k1, k2, k3, k4, k5, k6⟩ := cells7 hb; clear hg hb HB) | (go_at_call 45; refine (is_c _ _).mono ?_; rintro e w' ⟨rfl, rfl⟩) | (go_at_call 43; refine (refspan_c _ _ _ (by omega) (by omega)).mono ?_; rintro e w' ⟨rfl, rfl⟩))
                go_ret
                exact ⟨rfl, XB.out⟩
            · have z5 : spB a 1 = false := by simpa using hz5
              clear hz5
              have HR : Aside0 (chkB 22 a c v t n o = false) := ⟨by simp_all [chkB]⟩
              rw [HR.out]
              go_enter Try.func20, Try.ntmps20
              go_wp2_with (first | ((with_reducible refine gate_dst (N := 1) rfl ?_); refine box_event ?hg (N := 1) ?hd (cs := #[.int .i64 22, .int .i64 a, .int .i64 c, .slice A v.length cc, .int .i64 t, .int .i64 n, .int .i64 o]) (t := 24) ?hr ?_; (case hd => rfl); (case hg => rfl); (case hr => first | (go_simp; done) | (go_simp; rfl)); intro g hg w1 hb HB; have XB := Aside0.mk HB; have BK := Aside0.mk hb; obtain ⟨k0, k1, k2, k3, k4, k5, k6⟩ := cells7 hb; clear hg hb HB) | (go_at_call 45; refine (is_c _ _).mono ?_; rintro e w' ⟨rfl, rfl⟩) | (go_at_call 43; refine (refspan_c _ _ _ (by omega) (by omega)).mono ?_; rintro e w' ⟨rfl, rfl⟩))
              go_ret
              exact ⟨rfl, XB.out⟩
          · have z4 : (c == 0) = false := by simpa using hz4
            clear hz4
            have HR : Aside0 (chkB 22 a c v t n o = false) := ⟨by simp_all [chkB]⟩
            rw [HR.out]
            go_enter Try.func20, Try.ntmps20
            go_wp2_with (first | ((with_reducible refine gate_dst (N := 1) rfl ?_); refine box_event ?hg (N := 1) ?hd (cs := #[.int .i64 22, .int .i64 a, .int .i64 c, .slice A v.length cc, .int .i64 t, .int .i64 n, .int .i64 o]) (t := 24) ?hr ?_; (case hd => rfl); (case hg => rfl); (case hr => first | (go_simp; done) | (go_simp; rfl)); intro g hg w1 hb HB; have XB := Aside0.mk HB; have BK := Aside0.mk hb; obtain ⟨k0, k1, k2, k3, k4, k5, k6⟩ := cells7 hb; clear hg hb HB) | (go_at_call 45; refine (is_c _ _).mono ?_; rintro e w' ⟨rfl, rfl⟩) | (go_at_call 43; refine (refspan_c _ _ _ (by omega) (by omega)).mono ?_; rintro e w' ⟨rfl, rfl⟩))
            go_ret
            exact ⟨rfl, XB.out⟩
        · have z3 : (t == 0) = false := by simpa using hz3
          clear hz3
          have HR : Aside0 (chkB 22 a c v t n o = false) := ⟨by simp_all [chkB]⟩
          rw [HR.out]
          go_enter Try.func20, Try.ntmps20
          go_wp2_with (first | ((with_reducible refine gate_dst (N := 1) rfl ?_); refine box_event ?hg (N := 1) ?hd (cs := #[.int .i64 22, .int .i64 a, .int .i64 c, .slice A v.length cc, .int .i64 t, .int .i64 n, .int .i64 o]) (t := 24) ?hr ?_; (case hd => rfl); (case hg => rfl); (case hr => first | (go_simp; done) | (go_simp; rfl)); intro g hg w1 hb HB; have XB := Aside0.mk HB; have BK := Aside0.mk hb; obtain ⟨k0, k1, k2, k3, k4, k5, k6⟩ := cells7 hb; clear hg hb HB) | (go_at_call 45; refine (is_c _ _).mono ?_; rintro e w' ⟨rfl, rfl⟩) | (go_at_call 43; refine (refspan_c _ _ _ (by omega) (by omega)).mono ?_; rintro e w' ⟨rfl, rfl⟩))
          go_ret
          exact ⟨rfl, XB.out⟩
      · have z2 : ((v.length : Int) == 0) = false := by simpa using hz2
        clear hz2
        have HR : Aside0 (chkB 22 a c v t n o = false) := ⟨by simp_all [chkB]⟩
        rw [HR.out]
        go_enter Try.func20, Try.ntmps20
        go_wp2_with (first | ((with_reducible refine gate_dst (N := 1) rfl ?_); refine box_event ?hg (N := 1) ?hd (cs := #[.int .i64 22, .int .i64 a, .int .i64 c, .slice A v.length cc, .int .i64 t, .int .i64 n, .int .i64 o]) (t := 24) ?hr ?_; (case hd => rfl); (case hg => rfl); (case hr => first | (go_simp; done) | (go_simp; rfl)); intro g hg w1 hb HB; have XB := Aside0.mk HB; have BK := Aside0.mk hb; obtain ⟨k0, k1, k2, k3, k4, k5, k6⟩ := cells7 hb; clear hg hb HB) | (go_at_call 45; refine (is_c _ _).mono ?_; rintro e w' ⟨rfl, rfl⟩) | (go_at_call 43; refine (refspan_c _ _ _ (by omega) (by omega)).mono ?_; rintro e w' ⟨rfl, rfl⟩))
        go_ret
        exact ⟨rfl, XB.out⟩
  · have z0 : (n == 0) = false := by simpa using hz0
    clear hz0
    by_cases hz1 : ((v.length : Int) == 0) = true
    · have z1 : ((v.length : Int) == 0) = true := hz1; clear hz1
      by_cases hz2 : (t == 0) = true
      · have z2 : (t == 0) = true := hz2; clear hz2
        by_cases hz3 : (c == 0) = true
        · have z3 : (c == 0) = true := hz3; clear hz3
          by_cases hz4 : spB a 1 = true
          · have z4 : spB a 1 = true := hz4; clear hz4
            by_cases hz5 : wB 0 65535 n = true
            · have z5 : wB 0 65535 n = true := hz5; clear hz5
              by_cases hz6 : wB 0 65535 o = true
              · have z6 : wB 0 65535 o = true := hz6; clear hz6
                have HR : Aside0 (chkB 22 a c v t n o = true) := ⟨by simp_all [chkB]⟩
                rw [HR.out]
                go_enter Try.func20, Try.ntmps20
                go_wp2_with (first | ((with_reducible refine gate_dst (N := 1) rfl ?_); refine box_event ?hg (N := 1) ?hd (cs := #[.int .i64 22, .int .i64 a, .int .i64 c, .slice A v.length cc, .int .i64 t, .int .i64 n, .int .i64 o]) (t := 24) ?hr ?_; (case hd => rfl); (case hg => rfl); (case hr => first | (go_simp; done) | (go_simp; rfl)); intro g hg w1 hb HB; have XB := Aside0.mk HB; have BK := Aside0.mk hb; obtain ⟨k0, k1, k2, k3, k4, k5, k6⟩ := cells7 hb; clear hg hb HB) | (go_at_call 45; refine (is_c _ _).mono ?_; rintro e w' ⟨rfl, rfl⟩) | (go_at_call 43; refine (refspan_c _ _ _ (by omega) (by omega)).mono ?_; rintro e w' ⟨rfl, rfl⟩))
                go_ret
                exact ⟨rfl, XB.out⟩
              · have z6 : wB 0 65535 o = false := by simpa using hz6
                clear hz6
                have HR : Aside0 (chkB 22 a c v t n o = false) := ⟨by simp_all [chkB]⟩
                rw [HR.out]
                go_enter Try.func20, Try.ntmps20
                go_wp2_with (first | ((with_reducible refine gate_dst (N := 1) rfl ?_); refine box_event ?hg (N := 1) ?hd (cs := #[.int .i64 22, .int .i64 a, .int .i64 c, .slice A v.length cc, .int .i64 t, .int .i64 n, .int .i64 o]) (t := 24) ?hr ?_; (case hd => rfl); (case hg => rfl); (case hr => first | (go_simp; done) | (go_simp; rfl)); intro g hg w1 hb HB; have XB := Aside0.mk HB; have BK := Aside0.mk hb; obtain ⟨k0, k1, k2, k3, k4, k5, k6⟩ := cells7 hb; clear hg hb HB) | (go_at_call 45; refine (is_c _ _).mono ?_; rintro e w' ⟨rfl, rfl⟩) | (go_at_call 43; refine (refspan_c _ _ _ (by omega) (by omega)).mono ?_; rintro e w' ⟨rfl, rfl⟩))
                go_ret
                exact ⟨rfl, XB.out⟩
            · have z5 : wB 0 65535 n = false := by simpa using hz5
              clear hz5
              have HR : Aside0 (chkB 22 a c v t n o = false) := ⟨by simp_all [chkB]⟩
              rw [HR.out]
              go_enter Try.func20, Try.ntmps20
              go_wp2_with (first | ((with_reducible refine gate_dst (N := 1) rfl ?_); refine box_event ?hg (N := 1) ?hd (cs := #[.int .i64 22, .int .i64 a, .int .i64 c, .slice A v.length cc, .int .i64 t, .int .i64 n, .int .i64 o]) (t := 24) ?hr ?_; (case hd => rfl); (case hg => rfl); (case hr => first | (go_simp; done) | (go_simp; rfl)); intro g hg w1 hb HB; have XB := Aside0.mk HB; have BK := Aside0.mk hb; obtain ⟨k0, k1, k2, k3, k4, k5, k6⟩ := cells7 hb; clear hg hb HB) | (go_at_call 45; refine (is_c _ _).mono ?_; rintro e w' ⟨rfl, rfl⟩) | (go_at_call 43; refine (refspan_c _ _ _ (by omega) (by omega)).mono ?_; rintro e w' ⟨rfl, rfl⟩))
              go_ret
              exact ⟨rfl, XB.out⟩
          · have z4 : spB a 1 = false := by simpa using hz4
            clear hz4
            have HR : Aside0 (chkB 22 a c v t n o = false) := ⟨by simp_all [chkB]⟩
            rw [HR.out]
            go_enter Try.func20, Try.ntmps20
            go_wp2_with (first | ((with_reducible refine gate_dst (N := 1) rfl ?_); refine box_event ?hg (N := 1) ?hd (cs := #[.int .i64 22, .int .i64 a, .int .i64 c, .slice A v.length cc, .int .i64 t, .int .i64 n, .int .i64 o]) (t := 24) ?hr ?_; (case hd => rfl); (case hg => rfl); (case hr => first | (go_simp; done) | (go_simp; rfl)); intro g hg w1 hb HB; have XB := Aside0.mk HB; have BK := Aside0.mk hb; obtain ⟨k0, k1, k2, k3, k4, k5, k6⟩ := cells7 hb; clear hg hb HB) | (go_at_call 45; refine (is_c _ _).mono ?_; rintro e w' ⟨rfl, rfl⟩) | (go_at_call 43; refine (refspan_c _ _ _ (by omega) (by omega)).mono ?_; rintro e w' ⟨rfl, rfl⟩))
            go_ret
            exact ⟨rfl, XB.out⟩
        · have z3 : (c == 0) = false := by simpa using hz3
          clear hz3
          have HR : Aside0 (chkB 22 a c v t n o = false) := ⟨by simp_all [chkB]⟩
          rw [HR.out]
          go_enter Try.func20, Try.ntmps20
          go_wp2_with (first | ((with_reducible refine gate_dst (N := 1) rfl ?_); refine box_event ?hg (N := 1) ?hd (cs := #[.int .i64 22, .int .i64 a, .int .i64 c, .slice A v.length cc, .int .i64 t, .int .i64 n, .int .i64 o]) (t := 24) ?hr ?_; (case hd => rfl); (case hg => rfl); (case hr => first | (go_simp; done) | (go_simp; rfl)); intro g hg w1 hb HB; have XB := Aside0.mk HB; have BK := Aside0.mk hb; obtain ⟨k0, k1, k2, k3, k4, k5, k6⟩ := cells7 hb; clear hg hb HB) | (go_at_call 45; refine (is_c _ _).mono ?_; rintro e w' ⟨rfl, rfl⟩) | (go_at_call 43; refine (refspan_c _ _ _ (by omega) (by omega)).mono ?_; rintro e w' ⟨rfl, rfl⟩))
          go_ret
          exact ⟨rfl, XB.out⟩
      · have z2 : (t == 0) = false := by simpa using hz2
        clear hz2
        have HR : Aside0 (chkB 22 a c v t n o = false) := ⟨by simp_all [chkB]⟩
        rw [HR.out]
        go_enter Try.func20, Try.ntmps20
        go_wp2_with (first | ((with_reducible refine gate_dst (N := 1) rfl ?_); refine box_event ?hg (N := 1) ?hd (cs := #[.int .i64 22, .int .i64 a, .int .i64 c, .slice A v.length cc, .int .i64 t, .int .i64 n, .int .i64 o]) (t := 24) ?hr ?_; (case hd => rfl); (case hg => rfl); (case hr => first | (go_simp; done) | (go_simp; rfl)); intro g hg w1 hb HB; have XB := Aside0.mk HB; have BK := Aside0.mk hb; obtain ⟨k0, k1, k2, k3, k4, k5, k6⟩ := cells7 hb; clear hg hb HB) | (go_at_call 45; refine (is_c _ _).mono ?_; rintro e w' ⟨rfl, rfl⟩) | (go_at_call 43; refine (refspan_c _ _ _ (by omega) (by omega)).mono ?_; rintro e w' ⟨rfl, rfl⟩))
        go_ret
        exact ⟨rfl, XB.out⟩
    · have z1 : ((v.length : Int) == 0) = false := by simpa using hz1
      clear hz1
      have HR : Aside0 (chkB 22 a c v t n o = false) := ⟨by simp_all [chkB]⟩
      rw [HR.out]
      go_enter Try.func20, Try.ntmps20
      go_wp2_with (first | ((with_reducible refine gate_dst (N := 1) rfl ?_); refine box_event ?hg (N := 1) ?hd (cs := #[.int .i64 22, .int .i64 a, .int .i64 c, .slice A v.length cc, .int .i64 t, .int .i64 n, .int .i64 o]) (t := 24) ?hr ?_; (case hd => rfl); (case hg => rfl); (case hr => first | (go_simp; done) | (go_simp; rfl)); intro g hg w1 hb HB; have XB := Aside0.mk HB; have BK := Aside0.mk hb; obtain ⟨k0, k1, k2, k3, k4, k5, k6⟩ := cells7 hb; clear hg hb HB) | (go_at_call 45; refine (is_c _ _).mono ?_; rintro e w' ⟨rfl, rfl⟩) | (go_at_call 43; refine (refspan_c _ _ _ (by omega) (by omega)).mono ?_; rintro e w' ⟨rfl, rfl⟩))
      go_ret
      exact ⟨rfl, XB.out⟩
set_option maxHeartbeats 4000000 in
set_option maxRecDepth 100000 in
theorem may_f (f a c : Int) (A : Option Addr) (cc : Nat) (v : List Int) (t n o : Int) (w : World) (hV : Kd.C (Kd.int .i64) w A v.length v) (hf : f ≠ 1 ∧ f ≠ 2 ∧ f ≠ 3 ∧ f ≠ 4 ∧ f ≠ 5 ∧ f ≠ 6 ∧ f ≠ 15 ∧ f ≠ 16 ∧ f ≠ 22 ∧ f ≠ 23) : Calls Try.prog 20 #[.agg #[.int .i64 f, .int .i64 a, .int .i64 c, .slice A v.length cc, .int .i64 t, .int .i64 n, .int .i64 o]] w fun e w' => e = .returned (.bool (chkB f a c v t n o)) ∧ Below w.heap.size w w' := by
  have HV := Aside0.mk hV; clear hV
  obtain ⟨g1, g2, g3, g4, g5, g6, g7, g8, g9, g10⟩ := hf
  have HR : Aside0 (chkB f a c v t n o = false) := ⟨by unfold chkB; rw [if_neg (by omega), if_neg (by omega), if_neg g5, if_neg g6, if_neg g7, if_neg g8, if_neg g9, if_neg g10]⟩
  have y0 : (f == 1) = false := beq_eq_false_iff_ne.2 g1
  have y1 : (f == 2) = false := beq_eq_false_iff_ne.2 g2
  have y2 : (f == 3) = false := beq_eq_false_iff_ne.2 g3
  have y3 : (f == 4) = false := beq_eq_false_iff_ne.2 g4
  have y4 : (f == 5) = false := beq_eq_false_iff_ne.2 g5
  have y5 : (f == 6) = false := beq_eq_false_iff_ne.2 g6
  have y6 : (f == 15) = false := beq_eq_false_iff_ne.2 g7
  have y7 : (f == 16) = false := beq_eq_false_iff_ne.2 g8
  have y8 : (f == 22) = false := beq_eq_false_iff_ne.2 g9
  have y9 : (f == 23) = false := beq_eq_false_iff_ne.2 g10
  clear g1 g2 g3 g4 g5 g6 g7 g8 g9 g10
  rw [HR.out]
  by_cases hz0 : (n == 0) = true
  · have z0 : (n == 0) = true := hz0; clear hz0
    by_cases hz1 : (o == 0) = true
    · have z1 : (o == 0) = true := hz1; clear hz1
      go_enter Try.func20, Try.ntmps20
      go_wp2_with (first | ((with_reducible refine gate_dst (N := 1) rfl ?_); refine box_event ?hg (N := 1) ?hd (cs := #[.int .i64 f, .int .i64 a, .int .i64 c, .slice A v.length cc, .int .i64 t, .int .i64 n, .int .i64 o]) (t := 24) ?hr ?_; (case hd => rfl); (case hg => rfl); (case hr => first | (go_simp; done) | (go_simp; rfl)); intro g hg w1 hb HB; have XB := Aside0.mk HB; have BK := Aside0.mk hb; obtain ⟨k0, k1, k2, k3, k4, k5, k6⟩ := cells7 hb; clear hg hb HB) | (go_at_call 45; refine (is_c _ _).mono ?_; rintro e w' ⟨rfl, rfl⟩) | (go_at_call 43; refine (refspan_c _ _ _ (by omega) (by omega)).mono ?_; rintro e w' ⟨rfl, rfl⟩))
      go_ret
      exact ⟨rfl, XB.out⟩
    · have z1 : (o == 0) = false := by simpa using hz1
      clear hz1
      go_enter Try.func20, Try.ntmps20
      go_wp2_with (first | ((with_reducible refine gate_dst (N := 1) rfl ?_); refine box_event ?hg (N := 1) ?hd (cs := #[.int .i64 f, .int .i64 a, .int .i64 c, .slice A v.length cc, .int .i64 t, .int .i64 n, .int .i64 o]) (t := 24) ?hr ?_; (case hd => rfl); (case hg => rfl); (case hr => first | (go_simp; done) | (go_simp; rfl)); intro g hg w1 hb HB; have XB := Aside0.mk HB; have BK := Aside0.mk hb; obtain ⟨k0, k1, k2, k3, k4, k5, k6⟩ := cells7 hb; clear hg hb HB) | (go_at_call 45; refine (is_c _ _).mono ?_; rintro e w' ⟨rfl, rfl⟩) | (go_at_call 43; refine (refspan_c _ _ _ (by omega) (by omega)).mono ?_; rintro e w' ⟨rfl, rfl⟩))
      go_ret
      exact ⟨rfl, XB.out⟩
  · have z0 : (n == 0) = false := by simpa using hz0
    clear hz0
    go_enter Try.func20, Try.ntmps20
    go_wp2_with (first | ((with_reducible refine gate_dst (N := 1) rfl ?_); refine box_event ?hg (N := 1) ?hd (cs := #[.int .i64 f, .int .i64 a, .int .i64 c, .slice A v.length cc, .int .i64 t, .int .i64 n, .int .i64 o]) (t := 24) ?hr ?_; (case hd => rfl); (case hg => rfl); (case hr => first | (go_simp; done) | (go_simp; rfl)); intro g hg w1 hb HB; have XB := Aside0.mk HB; have BK := Aside0.mk hb; obtain ⟨k0, k1, k2, k3, k4, k5, k6⟩ := cells7 hb; clear hg hb HB) | (go_at_call 45; refine (is_c _ _).mono ?_; rintro e w' ⟨rfl, rfl⟩) | (go_at_call 43; refine (refspan_c _ _ _ (by omega) (by omega)).mono ?_; rintro e w' ⟨rfl, rfl⟩))
    go_ret
    exact ⟨rfl, XB.out⟩
end Go.Proofs.Ytocicifgglkaeaa.Chk
end

section
namespace Go.Proofs.Ytocicifgglkaeaa.Chk
open Go.RowKit Go.Proofs.YtocicifgglkaeaaW.PrintWords Go.Proofs.YtocicifgglkaeaaW.PrintLast Go.Proofs.YtocicifgglkaeaaW.PrintMore Go.Proofs.Ytocicifgglkaeaa.Core Go.Proofs.Ytocicifgglkaeaa.Wk
set_option linter.unusedVariables false
set_option linter.unusedSimpArgs false
set_option maxHeartbeats 4000000 in
set_option maxRecDepth 100000 in
theorem may_23 (a c : Int) (A : Option Addr) (cc : Nat) (v : List Int) (t n o : Int) (w : World) (hV : Kd.C (Kd.int .i64) w A v.length v) : Calls Try.prog 20 #[.agg #[.int .i64 23, .int .i64 a, .int .i64 c, .slice A v.length cc, .int .i64 t, .int .i64 n, .int .i64 o]] w fun e w' => e = .returned (.bool (chkB 23 a c v t n o)) ∧ Below w.heap.size w w' := by
  have HV := Aside0.mk hV; clear hV
  by_cases hz0 : (n == 0) = true
  · have z0 : (n == 0) = true := hz0; clear hz0
    by_cases hz1 : (o == 0) = true
    · have z1 : (o == 0) = true := hz1; clear hz1
      by_cases hz2 : decide (1 ≤ c) = true
      · have z2 : decide (1 ≤ c) = true := hz2; clear hz2; have pz2 := of_decide_eq_true z2
        by_cases hz3 : decide (c ≤ 125) = true
        · have z3 : decide (c ≤ 125) = true := hz3; clear hz3; have pz3 := of_decide_eq_true z3
          by_cases hz4 : spB a c = true
          · have z4 : spB a c = true := hz4; clear hz4
            by_cases hz5 : smB 1 121 65535 v = true
            · have z5 : smB 1 121 65535 v = true := hz5; clear hz5; have pz5 := smB_len z5
              by_cases hz6 : spB t v.length = true
              · have z6 : spB t v.length = true := hz6; clear hz6
                have HR : Aside0 (chkB 23 a c v t n o = true) := ⟨by simp_all [chkB, wB] <;> (intros; omega)⟩
                rw [HR.out]
                go_enter Try.func20, Try.ntmps20
                go_wp2_with (first | ((with_reducible refine gate_dst (N := 1) rfl ?_); refine box_event ?hg (N := 1) ?hd (cs := #[.int .i64 23, .int .i64 a, .int .i64 c, .slice A v.length cc, .int .i64 t, .int .i64 n, .int .i64 o]) (t := 24) ?hr ?_; (case hd => rfl); (case hg => rfl); (case hr => first | (go_simp; done) | (go_simp; rfl)); intro g hg w1 hb HB; have XB := Aside0.mk HB; have BK := Aside0.mk hb; obtain ⟨k0, k1, k2, k3, k4, k5, k6⟩ := cells7 hb; clear hg hb HB) | (go_at_call 45; refine (is_c _ _).mono ?_; rintro e w' ⟨rfl, rfl⟩) | (go_at_call 43; refine (refspan_c _ _ _ (by omega) (by omega)).mono ?_; rintro e w' ⟨rfl, rfl⟩) | (go_at_call 44; refine (vals_c 23 a c A cc v t n o _ _ _ (Kd.C_below HV.out XB.out) (m := 65535) (by decide)).mono ?_; rintro e w2 ⟨rfl, HB⟩; have XBn := Aside0.mk (below_step XB.out HB); have BKn := Aside0.mk (blk_below BK.out HB); obtain ⟨k0, k1, k2, k3, k4, k5, k6⟩ := cells7 BKn.out; clear HB XB BK; have XB := XBn; have BK := BKn))
                go_ret
                exact ⟨rfl, XB.out⟩
              · have z6 : spB t v.length = false := by simpa using hz6
                clear hz6
                have HR : Aside0 (chkB 23 a c v t n o = false) := ⟨by simp_all [chkB, wB] <;> (intros; omega)⟩
                rw [HR.out]
                go_enter Try.func20, Try.ntmps20
                go_wp2_with (first | ((with_reducible refine gate_dst (N := 1) rfl ?_); refine box_event ?hg (N := 1) ?hd (cs := #[.int .i64 23, .int .i64 a, .int .i64 c, .slice A v.length cc, .int .i64 t, .int .i64 n, .int .i64 o]) (t := 24) ?hr ?_; (case hd => rfl); (case hg => rfl); (case hr => first | (go_simp; done) | (go_simp; rfl)); intro g hg w1 hb HB; have XB := Aside0.mk HB; have BK := Aside0.mk hb; obtain ⟨k0, k1, k2, k3, k4, k5, k6⟩ := cells7 hb; clear hg hb HB) | (go_at_call 45; refine (is_c _ _).mono ?_; rintro e w' ⟨rfl, rfl⟩) | (go_at_call 43; refine (refspan_c _ _ _ (by omega) (by omega)).mono ?_; rintro e w' ⟨rfl, rfl⟩) | (go_at_call 44; refine (vals_c 23 a c A cc v t n o _ _ _ (Kd.C_below HV.out XB.out) (m := 65535) (by decide)).mono ?_; rintro e w2 ⟨rfl, HB⟩; have XBn := Aside0.mk (below_step XB.out HB); have BKn := Aside0.mk (blk_below BK.out HB); obtain ⟨k0, k1, k2, k3, k4, k5, k6⟩ := cells7 BKn.out; clear HB XB BK; have XB := XBn; have BK := BKn))
                go_ret
                exact ⟨rfl, XB.out⟩
            · have z5 : smB 1 121 65535 v = false := by simpa using hz5
              clear hz5
              have HR : Aside0 (chkB 23 a c v t n o = false) := ⟨by simp_all [chkB, wB] <;> (intros; omega)⟩
              rw [HR.out]
              go_enter Try.func20, Try.ntmps20
              go_wp2_with (first | ((with_reducible refine gate_dst (N := 1) rfl ?_); refine box_event ?hg (N := 1) ?hd (cs := #[.int .i64 23, .int .i64 a, .int .i64 c, .slice A v.length cc, .int .i64 t, .int .i64 n, .int .i64 o]) (t := 24) ?hr ?_; (case hd => rfl); (case hg => rfl); (case hr => first | (go_simp; done) | (go_simp; rfl)); intro g hg w1 hb HB; have XB := Aside0.mk HB; have BK := Aside0.mk hb; obtain ⟨k0, k1, k2, k3, k4, k5, k6⟩ := cells7 hb; clear hg hb HB) | (go_at_call 45; refine (is_c _ _).mono ?_; rintro e w' ⟨rfl, rfl⟩) | (go_at_call 43; refine (refspan_c _ _ _ (by omega) (by omega)).mono ?_; rintro e w' ⟨rfl, rfl⟩) | (go_at_call 44; refine (vals_c 23 a c A cc v t n o _ _ _ (Kd.C_below HV.out XB.out) (m := 65535) (by decide)).mono ?_; rintro e w2 ⟨rfl, HB⟩; have XBn := Aside0.mk (below_step XB.out HB); have BKn := Aside0.mk (blk_below BK.out HB); obtain ⟨k0, k1, k2, k3, k4, k5, k6⟩ := cells7 BKn.out; clear HB XB BK; have XB := XBn; have BK := BKn))
              go_ret
              exact ⟨rfl, XB.out⟩
          · have z4 : spB a c = false := by simpa using hz4
            clear hz4
            have HR : Aside0 (chkB 23 a c v t n o = false) := ⟨by simp_all [chkB, wB] <;> (intros; omega)⟩
            rw [HR.out]
            go_enter Try.func20, Try.ntmps20
            go_wp2_with (first | ((with_reducible refine gate_dst (N := 1) rfl ?_); refine box_event ?hg (N := 1) ?hd (cs := #[.int .i64 23, .int .i64 a, .int .i64 c, .slice A v.length cc, .int .i64 t, .int .i64 n, .int .i64 o]) (t := 24) ?hr ?_; (case hd => rfl); (case hg => rfl); (case hr => first | (go_simp; done) | (go_simp; rfl)); intro g hg w1 hb HB; have XB := Aside0.mk HB; have BK := Aside0.mk hb; obtain ⟨k0, k1, k2, k3, k4, k5, k6⟩ := cells7 hb; clear hg hb HB) | (go_at_call 45; refine (is_c _ _).mono ?_; rintro e w' ⟨rfl, rfl⟩) | (go_at_call 43; refine (refspan_c _ _ _ (by omega) (by omega)).mono ?_; rintro e w' ⟨rfl, rfl⟩) | (go_at_call 44; refine (vals_c 23 a c A cc v t n o _ _ _ (Kd.C_below HV.out XB.out) (m := 65535) (by decide)).mono ?_; rintro e w2 ⟨rfl, HB⟩; have XBn := Aside0.mk (below_step XB.out HB); have BKn := Aside0.mk (blk_below BK.out HB); obtain ⟨k0, k1, k2, k3, k4, k5, k6⟩ := cells7 BKn.out; clear HB XB BK; have XB := XBn; have BK := BKn))
            go_ret
            exact ⟨rfl, XB.out⟩
        · have z3 : decide (c ≤ 125) = false := by simpa using hz3
          clear hz3
          have HR : Aside0 (chkB 23 a c v t n o = false) := ⟨by simp_all [chkB, wB] <;> (intros; omega)⟩
          rw [HR.out]
          go_enter Try.func20, Try.ntmps20
          go_wp2_with (first | ((with_reducible refine gate_dst (N := 1) rfl ?_); refine box_event ?hg (N := 1) ?hd (cs := #[.int .i64 23, .int .i64 a, .int .i64 c, .slice A v.length cc, .int .i64 t, .int .i64 n, .int .i64 o]) (t := 24) ?hr ?_; (case hd => rfl); (case hg => rfl); (case hr => first | (go_simp; done) | (go_simp; rfl)); intro g hg w1 hb HB; have XB := Aside0.mk HB; have BK := Aside0.mk hb; obtain ⟨k0, k1, k2, k3, k4, k5, k6⟩ := cells7 hb; clear hg hb HB) | (go_at_call 45; refine (is_c _ _).mono ?_; rintro e w' ⟨rfl, rfl⟩) | (go_at_call 43; refine (refspan_c _ _ _ (by omega) (by omega)).mono ?_; rintro e w' ⟨rfl, rfl⟩) | (go_at_call 44; refine (vals_c 23 a c A cc v t n o _ _ _ (Kd.C_below HV.out XB.out) (m := 65535) (by decide)).mono ?_; rintro e w2 ⟨rfl, HB⟩; have XBn := Aside0.mk (below_step XB.out HB); have BKn := Aside0.mk (blk_below BK.out HB); obtain ⟨k0, k1, k2, k3, k4, k5, k6⟩ := cells7 BKn.out; clear HB XB BK; have XB := XBn; have BK := BKn))
          go_ret
          exact ⟨rfl, XB.out⟩
      · have z2 : decide (1 ≤ c) = false := by simpa using hz2
        clear hz2
        have HR : Aside0 (chkB 23 a c v t n o = false) := ⟨by simp_all [chkB, wB] <;> (intros; omega)⟩
        rw [HR.out]
        go_enter Try.func20, Try.ntmps20
        go_wp2_with (first | ((with_reducible refine gate_dst (N := 1) rfl ?_); refine box_event ?hg (N := 1) ?hd (cs := #[.int .i64 23, .int .i64 a, .int .i64 c, .slice A v.length cc, .int .i64 t, .int .i64 n, .int .i64 o]) (t := 24) ?hr ?_; (case hd => rfl); (case hg => rfl); (case hr => first | (go_simp; done) | (go_simp; rfl)); intro g hg w1 hb HB; have XB := Aside0.mk HB; have BK := Aside0.mk hb; obtain ⟨k0, k1, k2, k3, k4, k5, k6⟩ := cells7 hb; clear hg hb HB) | (go_at_call 45; refine (is_c _ _).mono ?_; rintro e w' ⟨rfl, rfl⟩) | (go_at_call 43; refine (refspan_c _ _ _ (by omega) (by omega)).mono ?_; rintro e w' ⟨rfl, rfl⟩) | (go_at_call 44; refine (vals_c 23 a c A cc v t n o _ _ _ (Kd.C_below HV.out XB.out) (m := 65535) (by decide)).mono ?_; rintro e w2 ⟨rfl, HB⟩; have XBn := Aside0.mk (below_step XB.out HB); have BKn := Aside0.mk (blk_below BK.out HB); obtain ⟨k0, k1, k2, k3, k4, k5, k6⟩ := cells7 BKn.out; clear HB XB BK; have XB := XBn; have BK := BKn))
        go_ret
        exact ⟨rfl, XB.out⟩
    · have z1 : (o == 0) = false := by simpa using hz1
      clear hz1
      have HR : Aside0 (chkB 23 a c v t n o = false) := ⟨by simp_all [chkB, wB] <;> (intros; omega)⟩
      rw [HR.out]
      go_enter Try.func20, Try.ntmps20
      go_wp2_with (first | ((with_reducible refine gate_dst (N := 1) rfl ?_); refine box_event ?hg (N := 1) ?hd (cs := #[.int .i64 23, .int .i64 a, .int .i64 c, .slice A v.length cc, .int .i64 t, .int .i64 n, .int .i64 o]) (t := 24) ?hr ?_; (case hd => rfl); (case hg => rfl); (case hr => first | (go_simp; done) | (go_simp; rfl)); intro g hg w1 hb HB; have XB := Aside0.mk HB; have BK := Aside0.mk hb; obtain ⟨k0, k1, k2, k3, k4, k5, k6⟩ := cells7 hb; clear hg hb HB) | (go_at_call 45; refine (is_c _ _).mono ?_; rintro e w' ⟨rfl, rfl⟩) | (go_at_call 43; refine (refspan_c _ _ _ (by omega) (by omega)).mono ?_; rintro e w' ⟨rfl, rfl⟩) | (go_at_call 44; refine (vals_c 23 a c A cc v t n o _ _ _ (Kd.C_below HV.out XB.out) (m := 65535) (by decide)).mono ?_; rintro e w2 ⟨rfl, HB⟩; have XBn := Aside0.mk (below_step XB.out HB); have BKn := Aside0.mk (blk_below BK.out HB); obtain ⟨k0, k1, k2, k3, k4, k5, k6⟩ := cells7 BKn.out; clear HB XB BK; have XB := XBn; have BK := BKn))
      go_ret
      exact ⟨rfl, XB.out⟩
  · have z0 : (n == 0) = false := by simpa using hz0
    clear hz0
    have HR : Aside0 (chkB 23 a c v t n o = false) := ⟨by simp_all [chkB, wB] <;> (intros; omega)⟩
    rw [HR.out]
    go_enter Try.func20, Try.ntmps20
    go_wp2_with (first | ((with_reducible refine gate_dst (N := 1) rfl ?_); refine box_event ?hg (N := 1) ?hd (cs := #[.int .i64 23, .int .i64 a, .int .i64 c, .slice A v.length cc, .int .i64 t, .int .i64 n, .int .i64 o]) (t := 24) ?hr ?_; (case hd => rfl); (case hg => rfl); (case hr => first | (go_simp; done) | (go_simp; rfl)); intro g hg w1 hb HB; have XB := Aside0.mk HB; have BK := Aside0.mk hb; obtain ⟨k0, k1, k2, k3, k4, k5, k6⟩ := cells7 hb; clear hg hb HB) | (go_at_call 45; refine (is_c _ _).mono ?_; rintro e w' ⟨rfl, rfl⟩) | (go_at_call 43; refine (refspan_c _ _ _ (by omega) (by omega)).mono ?_; rintro e w' ⟨rfl, rfl⟩) | (go_at_call 44; refine (vals_c 23 a c A cc v t n o _ _ _ (Kd.C_below HV.out XB.out) (m := 65535) (by decide)).mono ?_; rintro e w2 ⟨rfl, HB⟩; have XBn := Aside0.mk (below_step XB.out HB); have BKn := Aside0.mk (blk_below BK.out HB); obtain ⟨k0, k1, k2, k3, k4, k5, k6⟩ := cells7 BKn.out; clear HB XB BK; have XB := XBn; have BK := BKn))
    go_ret
    exact ⟨rfl, XB.out⟩
end Go.Proofs.Ytocicifgglkaeaa.Chk
end

section
namespace Go.Proofs.Ytocicifgglkaeaa.Chk
open Go.RowKit Go.Proofs.YtocicifgglkaeaaW.PrintWords Go.Proofs.YtocicifgglkaeaaW.PrintLast Go.Proofs.YtocicifgglkaeaaW.PrintMore Go.Proofs.Ytocicifgglkaeaa.Core Go.Proofs.Ytocicifgglkaeaa.Wk
set_option linter.unusedVariables false
set_option linter.unusedSimpArgs false
theorem may_c (f a c : Int) (A : Option Addr) (cc : Nat) (v : List Int) (t n o : Int) (w : World) (hV : Kd.C (Kd.int .i64) w A v.length v) : Calls Try.prog 20 #[.agg #[.int .i64 f, .int .i64 a, .int .i64 c, .slice A v.length cc, .int .i64 t, .int .i64 n, .int .i64 o]] w fun e w' => e = .returned (.bool (chkB f a c v t n o)) ∧ Below w.heap.size w w' := by
  by_cases h0 : f = 1
  · subst h0; exact may_1 a c A cc v t n o w hV
  by_cases h1 : f = 2
  · subst h1; exact may_2 a c A cc v t n o w hV
  by_cases h2 : f = 3
  · subst h2; exact may_3 a c A cc v t n o w hV
  by_cases h3 : f = 4
  · subst h3; exact may_4 a c A cc v t n o w hV
  by_cases h4 : f = 5
  · subst h4; exact may_5 a c A cc v t n o w hV
  by_cases h5 : f = 6
  · subst h5; exact may_6 a c A cc v t n o w hV
  by_cases h6 : f = 15
  · subst h6; exact may_15 a c A cc v t n o w hV
  by_cases h7 : f = 16
  · subst h7; exact may_16 a c A cc v t n o w hV
  by_cases h8 : f = 22
  · subst h8; exact may_22 a c A cc v t n o w hV
  by_cases h9 : f = 23
  · subst h9; exact may_23 a c A cc v t n o w hV
  exact may_f f a c A cc v t n o w hV ⟨h0, h1, h2, h3, h4, h5, h6, h7, h8, h9⟩
end Go.Proofs.Ytocicifgglkaeaa.Chk
end

section
namespace Go.Proofs.Ytocicifgglkaeaa.ExtV
open Go.RowKit Go.Proofs.Ytocicifgglkaeaa.Chk Go.Proofs.Ytocicifgglkaeaa.ExtF Go.Proofs.Ytocicifgglkaeaa.ExtM Go.Proofs.YtocicifgglkaeaaW.PrintWords Go.Proofs.YtocicifgglkaeaaW.PrintLast Go.Proofs.YtocicifgglkaeaaW.PrintMore
set_option linter.unusedVariables false
set_option linter.unusedSimpArgs false
theorem and_eq {a b c d : Bool} (h : a = c) (k : b = d) : (a && b) = (c && d) := by rw [h, k]
theorem sm_bit (l : List Int) (lo hi : Nat) : smB lo hi 1 l = valB true l lo hi :=
  and_eq (decide_eq_decide.2 (by omega)) (by
    rw [if_pos rfl]
    exact decide_eq_decide.2 ⟨fun k x hx => by have := k x hx; omega, fun k x hx => by have := k x hx; omega⟩)
theorem sm_word (l : List Int) (lo hi : Nat) : smB lo hi 65535 l = valB false l lo hi :=
  and_eq (decide_eq_decide.2 (by omega)) (by
    rw [if_neg (by decide)]
    exact decide_eq_decide.2 ⟨fun k x hx => by have := k x hx; omega, fun k x hx => by have := k x hx; omega⟩)
theorem sp_eq (a n : Int) : spB a n = spanB a n := rfl
theorem w_eq (lo hi n : Int) : wB lo hi n = (decide (lo ≤ n) && decide (n ≤ hi)) := by
  unfold wB
  rw [Bool.eq_iff_iff, Bool.and_eq_true, decide_eq_true_eq, decide_eq_true_eq, decide_eq_true_eq]
theorem w_is (n : Int) : wB 0 65535 n = isB n := rfl
theorem chk_may (f a c : Int) (v : List Int) (t n o : Int) : chkB f a c v t n o = mayB f a c v t n o := by
  unfold chkB mayB
  have b1 := sm_bit v 1 1; have b2 := sm_word v 1 1; have b3 := sm_bit v 1 1968; have b4 := sm_word v 1 123; have b5 := sm_word v 1 121
  have c1 : smB 1 1 1 v = valB true v 1 1 := b1
  have c2 : smB 1 1 65535 v = valB false v 1 1 := b2
  have c3 : smB 1 1968 1 v = valB true v 1 1968 := b3
  have c4 : smB 1 123 65535 v = valB false v 1 123 := b4
  have c5 : smB 1 121 65535 v = valB false v 1 121 := b5
  rw [c1, c2, c3, c4, c5, w_is n, w_is o, w_eq 1 2000 c, w_eq 1 125 c]
  simp only [sp_eq, Bool.and_assoc, Bool.and_comm, Bool.and_left_comm]
theorem len_23 {a1 a2 : Int} {l : List Int} {a4 a5 a6 : Int} (h : mayB 23 a1 a2 l a4 a5 a6 = true) : l.length ≤ 121 := by
  unfold mayB at h
  rw [if_neg (by decide), if_neg (by decide), if_neg (by decide), if_neg (by decide), if_neg (by decide), if_neg (by decide), if_neg (by decide), if_pos rfl] at h
  simp only [Bool.and_eq_true] at h
  have hv := h.1.2
  unfold valB at hv
  rw [Bool.and_eq_true, decide_eq_true_eq] at hv
  exact hv.1.2
theorem may_v (f a c : Int) (A : Option Addr) (cc : Nat) (v : List Int) (t n o : Int) (r : Bool) (w : World) (hV : Kd.C (Kd.int .i64) w A v.length v) (h : mayB f a c v t n o = r) : Calls Try.prog 20 #[.agg #[.int .i64 f, .int .i64 a, .int .i64 c, .slice A v.length cc, .int .i64 t, .int .i64 n, .int .i64 o]] w fun e w' => e = .returned (.bool r) ∧ Below w.heap.size w w' := by
  rw [← h, ← chk_may]
  exact Go.Proofs.Ytocicifgglkaeaa.Chk.may_c f a c A cc v t n o w hV
end Go.Proofs.Ytocicifgglkaeaa.ExtV
end

section
namespace Go.Proofs.Ytocicifgglkaeaa.MthD
open Go.RowKit Go.Proofs.YtocicifgglkaeaaW.PrintWords Go.Proofs.YtocicifgglkaeaaW.PrintLast Go.Proofs.YtocicifgglkaeaaW.PrintMore Go.Proofs.Ytocicifgglkaeaa.ExtF Go.Proofs.Ytocicifgglkaeaa.ExtP Go.Proofs.Ytocicifgglkaeaa.ExtQ Go.Proofs.Ytocicifgglkaeaa.PP Go.Proofs.Ytocicifgglkaeaa.PQ Go.Proofs.Ytocicifgglkaeaa.ExtM Go.Proofs.Ytocicifgglkaeaa.MathP Go.Proofs.Ytocicifgglkaeaa.Mth
set_option linter.unusedVariables false
set_option linter.unusedSimpArgs false
theorem ints_same (l : List Int) (hl : l.length ≤ 1000000000000) (k : Nat) (hk : l.length + 1 ≤ k) : PR.basculeref01_Ints.f k l l = some true := MathP.ints_f l hl k hk
end Go.Proofs.Ytocicifgglkaeaa.MthD
end

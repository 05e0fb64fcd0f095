/- The walks of PduSizes. (printed by gen_laws.py) -/
import Derived.Test.YtocicifgglkaeaaZA5
namespace Go.Proofs.Ytocicifgglkaeaa.HandSizes
open Go.RowKit Go.Proofs.YtocicifgglkaeaaW.PrintWords Go.Proofs.YtocicifgglkaeaaW.PrintLast Go.Proofs.YtocicifgglkaeaaW.PrintMore Go.Proofs.Ytocicifgglkaeaa.ExtF Go.Proofs.Ytocicifgglkaeaa.ExtP Go.Proofs.Ytocicifgglkaeaa.ExtQ Go.Proofs.Ytocicifgglkaeaa.PP Go.Proofs.Ytocicifgglkaeaa.PQ Go.Proofs.Ytocicifgglkaeaa.ExtM Go.Proofs.Ytocicifgglkaeaa.MathP Go.Proofs.Ytocicifgglkaeaa.Mth
set_option linter.unusedVariables false
set_option linter.unusedSimpArgs false
theorem cell_now {W0 W : World} {a : Addr} {v : Value} (h : Below W0.heap.size W0 W) (hc : W0.cell? a = some v) : W.cell? a = some v := (h.cell (World.block_lt_of_cell? W0 _ hc)).trans hc
set_option maxHeartbeats 8000000 in
set_option maxRecDepth 100000 in
theorem sizes_long (fn a1 a2 : Int) (A0 : Option Addr) (c0 : Nat) (l : List Int) (a4 a5 a6 : Int) (A1 : Option Addr) (c1 : Nat) (al : List Int) (code : Int) (w : World) (HV_l : Aside0 (Kd.C (Kd.int .i64) w A0 l.length l)) (HC_l : Aside0 (l.length ≤ c0)) (HV_al : Aside0 (Kd.C (Kd.int .i64) w A1 al.length al)) (HC_al : Aside0 (al.length ≤ c1)) (fsm : Aside0 (PR.basculelaw03_small.f fn a1 a2 l a4 a5 a6 = some false)) : Calls Try.prog 13 #[.agg #[.int .i64 fn, .int .i64 a1, .int .i64 a2, .slice A0 l.length c0, .int .i64 a4, .int .i64 a5, .int .i64 a6], .agg #[.slice A1 al.length c1, .int .i64 code]] w fun e w' => e = .returned (.bool true) ∧ Below w.heap.size w w' := by
  have hu24 := Try.underlying24
  have hu30 := Try.underlying30
  have HB0 := Aside0.mk (Below.refl w.heap.size w)
  go_enter Try.func13, Try.ntmps13
  go_wp2_with (first | ((with_reducible refine gate_dst (N := 2) rfl ?_); refine box_event ?hg (N := 2) ?hd (cs := #[.int .i64 fn, .int .i64 a1, .int .i64 a2, .slice A0 l.length c0, .int .i64 a4, .int .i64 a5, .int .i64 a6]) (t := 24) ?hr ?_; (case hd => rfl); (case hg => rfl); (case hr => first | (go_simp; done) | (go_simp; rfl)); intro gb2 hg w1 hbox HBc; have GE0_gb2 : Aside0 (w.heap.size ≤ gb2) := Aside0.mk (by rw [hg]; exact (below_size (by repeat (first | (with_reducible first | exact HB0.out | apply below_alloc | apply pw_below_drewN | apply below_drew1) | exact HB0.out)))); clear hg; have HB0n := Aside0.mk (below_step (by repeat (first | (with_reducible first | exact HB0.out | apply below_alloc | apply pw_below_drewN | apply below_drew1 | refine below_set ?_ GE0_gb2.out) | exact HB0.out)) HBc); clear HBc HB0; have HB0 := HB0n; clear HB0n; have BK_gb2 := Aside0.mk hbox; clear hbox; have hczq1_0 : w1.cell? ⟨gb2, 0, none⟩ = some (.int .i64 fn) := (blk_cell BK_gb2.out 0).trans rfl; have hfzq1_0 := blk_frozen BK_gb2.out 0; have hczq1_1 : w1.cell? ⟨gb2, 1, none⟩ = some (.int .i64 a1) := (blk_cell BK_gb2.out 1).trans rfl; have hfzq1_1 := blk_frozen BK_gb2.out 1; have hczq1_2 : w1.cell? ⟨gb2, 2, none⟩ = some (.int .i64 a2) := (blk_cell BK_gb2.out 2).trans rfl; have hfzq1_2 := blk_frozen BK_gb2.out 2; have hczq1_3 : w1.cell? ⟨gb2, 3, none⟩ = some (.slice A0 l.length c0) := (blk_cell BK_gb2.out 3).trans rfl; have hfzq1_3 := blk_frozen BK_gb2.out 3; have hczq1_4 : w1.cell? ⟨gb2, 4, none⟩ = some (.int .i64 a4) := (blk_cell BK_gb2.out 4).trans rfl; have hfzq1_4 := blk_frozen BK_gb2.out 4; have hczq1_5 : w1.cell? ⟨gb2, 5, none⟩ = some (.int .i64 a5) := (blk_cell BK_gb2.out 5).trans rfl; have hfzq1_5 := blk_frozen BK_gb2.out 5; have hczq1_6 : w1.cell? ⟨gb2, 6, none⟩ = some (.int .i64 a6) := (blk_cell BK_gb2.out 6).trans rfl; have hfzq1_6 := blk_frozen BK_gb2.out 6) | ((with_reducible refine gate_dst (N := 3) rfl ?_); refine box_event ?hg (N := 3) ?hd (cs := #[.slice A1 al.length c1, .int .i64 code]) (t := 30) ?hr ?_; (case hd => rfl); (case hg => rfl); (case hr => first | (go_simp; done) | (go_simp; rfl)); intro gb3 hg w2 hbox HBc; have GE0_gb3 : Aside0 (w.heap.size ≤ gb3) := Aside0.mk (by rw [hg]; exact (below_size (by repeat (first | (with_reducible first | exact HB0.out | apply below_alloc | apply pw_below_drewN | apply below_drew1 | refine below_set ?_ GE0_gb2.out) | exact HB0.out)))); have NB_gb2_gb3 : Aside0 (gb2 ≠ gb3) := Aside0.mk (ne_new (by (with_reducible repeat (first | refine blk_drewN ?_ _ | refine blk_drew ?_ | refine blk_alloc ?_ _)); exact BK_gb2.out) hg); have NB_gb3_gb2 : Aside0 (gb3 ≠ gb2) := Aside0.mk (fun e => NB_gb2_gb3.out e.symm); clear hg; have BKn_gb2 : Aside0 (w2.heap[gb2]? = some (.cells #[.int .i64 fn, .int .i64 a1, .int .i64 a2, .slice A0 l.length c0, .int .i64 a4, .int .i64 a5, .int .i64 a6] 24 (0, 0))) := Aside0.mk (blk_below (g := gb2) (by (with_reducible repeat (first | refine blk_drewN ?_ _ | refine blk_drew ?_ | refine blk_alloc ?_ _)); exact BK_gb2.out) HBc); have HB0n := Aside0.mk (below_step (by repeat (first | (with_reducible first | exact HB0.out | apply below_alloc | apply pw_below_drewN | apply below_drew1 | refine below_set ?_ GE0_gb2.out | refine below_set ?_ GE0_gb3.out) | exact HB0.out)) HBc); clear HBc BK_gb2 HB0 hczq1_0 hfzq1_0 hczq1_1 hfzq1_1 hczq1_2 hfzq1_2 hczq1_3 hfzq1_3 hczq1_4 hfzq1_4 hczq1_5 hfzq1_5 hczq1_6 hfzq1_6; have BK_gb2 := BKn_gb2; have HB0 := HB0n; clear BKn_gb2 HB0n; have BK_gb3 := Aside0.mk hbox; clear hbox; have hczq2_0 : w2.cell? ⟨gb2, 0, none⟩ = some (.int .i64 fn) := (blk_cell BK_gb2.out 0).trans rfl; have hfzq2_0 := blk_frozen BK_gb2.out 0; have hczq2_1 : w2.cell? ⟨gb2, 1, none⟩ = some (.int .i64 a1) := (blk_cell BK_gb2.out 1).trans rfl; have hfzq2_1 := blk_frozen BK_gb2.out 1; have hczq2_2 : w2.cell? ⟨gb2, 2, none⟩ = some (.int .i64 a2) := (blk_cell BK_gb2.out 2).trans rfl; have hfzq2_2 := blk_frozen BK_gb2.out 2; have hczq2_3 : w2.cell? ⟨gb2, 3, none⟩ = some (.slice A0 l.length c0) := (blk_cell BK_gb2.out 3).trans rfl; have hfzq2_3 := blk_frozen BK_gb2.out 3; have hczq2_4 : w2.cell? ⟨gb2, 4, none⟩ = some (.int .i64 a4) := (blk_cell BK_gb2.out 4).trans rfl; have hfzq2_4 := blk_frozen BK_gb2.out 4; have hczq2_5 : w2.cell? ⟨gb2, 5, none⟩ = some (.int .i64 a5) := (blk_cell BK_gb2.out 5).trans rfl; have hfzq2_5 := blk_frozen BK_gb2.out 5; have hczq2_6 : w2.cell? ⟨gb2, 6, none⟩ = some (.int .i64 a6) := (blk_cell BK_gb2.out 6).trans rfl; have hfzq2_6 := blk_frozen BK_gb2.out 6; have hczq3_0 : w2.cell? ⟨gb3, 0, none⟩ = some (.slice A1 al.length c1) := (blk_cell BK_gb3.out 0).trans rfl; have hfzq3_0 := blk_frozen BK_gb3.out 0; have hczq3_1 : w2.cell? ⟨gb3, 1, none⟩ = some (.int .i64 code) := (blk_cell BK_gb3.out 1).trans rfl; have hfzq3_1 := blk_frozen BK_gb3.out 1; have hnq4 := NB_gb2_gb3.out; have hmq4 := NB_gb3_gb2.out) | (go_at_call 28; refine (PR.basculelaw03_small.calls fn a1 a2 A0 c0 l a4 a5 a6 false _ (Kd.C_below HV_l.out (by repeat (first | (with_reducible first | exact HB0.out | apply below_alloc | apply pw_below_drewN | apply below_drew1 | refine below_set ?_ GE0_gb2.out | refine below_set ?_ GE0_gb3.out) | exact HB0.out))) HC_l.out fsm.out).mono ?_; rintro e w3 ⟨rfl, HBc⟩; have BKn_gb2 : Aside0 (w3.heap[gb2]? = some (.cells #[.int .i64 fn, .int .i64 a1, .int .i64 a2, .slice A0 l.length c0, .int .i64 a4, .int .i64 a5, .int .i64 a6] 24 (0, 0))) := Aside0.mk (blk_below (g := gb2) (by (with_reducible repeat (first | refine blk_drewN ?_ _ | refine blk_drew ?_ | refine blk_alloc ?_ _)); exact BK_gb2.out) HBc); have BKn_gb3 : Aside0 (w3.heap[gb3]? = some (.cells #[.slice A1 al.length c1, .int .i64 code] 30 (0, 0))) := Aside0.mk (blk_below (g := gb3) (by (with_reducible repeat (first | refine blk_drewN ?_ _ | refine blk_drew ?_ | refine blk_alloc ?_ _)); exact BK_gb3.out) HBc); have HB0n := Aside0.mk (below_step (by repeat (first | (with_reducible first | exact HB0.out | apply below_alloc | apply pw_below_drewN | apply below_drew1 | refine below_set ?_ GE0_gb2.out | refine below_set ?_ GE0_gb3.out) | exact HB0.out)) HBc); clear HBc BK_gb2 BK_gb3 HB0 hczq2_0 hfzq2_0 hczq2_1 hfzq2_1 hczq2_2 hfzq2_2 hczq2_3 hfzq2_3 hczq2_4 hfzq2_4 hczq2_5 hfzq2_5 hczq2_6 hfzq2_6 hczq3_0 hfzq3_0 hczq3_1 hfzq3_1 hnq4 hmq4; have BK_gb2 := BKn_gb2; have BK_gb3 := BKn_gb3; have HB0 := HB0n; clear BKn_gb2 BKn_gb3 HB0n; have hczq5_0 : w3.cell? ⟨gb2, 0, none⟩ = some (.int .i64 fn) := (blk_cell BK_gb2.out 0).trans rfl; have hfzq5_0 := blk_frozen BK_gb2.out 0; have hczq5_1 : w3.cell? ⟨gb2, 1, none⟩ = some (.int .i64 a1) := (blk_cell BK_gb2.out 1).trans rfl; have hfzq5_1 := blk_frozen BK_gb2.out 1; have hczq5_2 : w3.cell? ⟨gb2, 2, none⟩ = some (.int .i64 a2) := (blk_cell BK_gb2.out 2).trans rfl; have hfzq5_2 := blk_frozen BK_gb2.out 2; have hczq5_3 : w3.cell? ⟨gb2, 3, none⟩ = some (.slice A0 l.length c0) := (blk_cell BK_gb2.out 3).trans rfl; have hfzq5_3 := blk_frozen BK_gb2.out 3; have hczq5_4 : w3.cell? ⟨gb2, 4, none⟩ = some (.int .i64 a4) := (blk_cell BK_gb2.out 4).trans rfl; have hfzq5_4 := blk_frozen BK_gb2.out 4; have hczq5_5 : w3.cell? ⟨gb2, 5, none⟩ = some (.int .i64 a5) := (blk_cell BK_gb2.out 5).trans rfl; have hfzq5_5 := blk_frozen BK_gb2.out 5; have hczq5_6 : w3.cell? ⟨gb2, 6, none⟩ = some (.int .i64 a6) := (blk_cell BK_gb2.out 6).trans rfl; have hfzq5_6 := blk_frozen BK_gb2.out 6; have hczq6_0 : w3.cell? ⟨gb3, 0, none⟩ = some (.slice A1 al.length c1) := (blk_cell BK_gb3.out 0).trans rfl; have hfzq6_0 := blk_frozen BK_gb3.out 0; have hczq6_1 : w3.cell? ⟨gb3, 1, none⟩ = some (.int .i64 code) := (blk_cell BK_gb3.out 1).trans rfl; have hfzq6_1 := blk_frozen BK_gb3.out 1; have hnq7 := NB_gb2_gb3.out; have hmq7 := NB_gb3_gb2.out))
  go_ret
  exact ⟨rfl, (by repeat (first | (with_reducible first | exact HB0.out | apply below_alloc | apply pw_below_drewN | apply below_drew1 | refine below_set ?_ GE0_gb2.out | refine below_set ?_ GE0_gb3.out) | exact HB0.out))⟩

set_option maxHeartbeats 8000000 in
set_option maxRecDepth 100000 in
theorem sizes_long2 (fn a1 a2 : Int) (A0 : Option Addr) (c0 : Nat) (l : List Int) (a4 a5 a6 : Int) (A1 : Option Addr) (c1 : Nat) (al : List Int) (code : Int) (w : World) (HV_l : Aside0 (Kd.C (Kd.int .i64) w A0 l.length l)) (HC_l : Aside0 (l.length ≤ c0)) (HV_al : Aside0 (Kd.C (Kd.int .i64) w A1 al.length al)) (HC_al : Aside0 (al.length ≤ c1)) (fsm : Aside0 (PR.basculelaw03_small.f fn a1 a2 l a4 a5 a6 = some true)) (h2 : decide ((2100 : Int) < (al.length : Int)) = true) : Calls Try.prog 13 #[.agg #[.int .i64 fn, .int .i64 a1, .int .i64 a2, .slice A0 l.length c0, .int .i64 a4, .int .i64 a5, .int .i64 a6], .agg #[.slice A1 al.length c1, .int .i64 code]] w fun e w' => e = .returned (.bool true) ∧ Below w.heap.size w w' := by
  have hu24 := Try.underlying24
  have hu30 := Try.underlying30
  have HB0 := Aside0.mk (Below.refl w.heap.size w)
  go_enter Try.func13, Try.ntmps13
  go_wp2_with (first | ((with_reducible refine gate_dst (N := 2) rfl ?_); refine box_event ?hg (N := 2) ?hd (cs := #[.int .i64 fn, .int .i64 a1, .int .i64 a2, .slice A0 l.length c0, .int .i64 a4, .int .i64 a5, .int .i64 a6]) (t := 24) ?hr ?_; (case hd => rfl); (case hg => rfl); (case hr => first | (go_simp; done) | (go_simp; rfl)); intro gb2 hg w1 hbox HBc; have GE0_gb2 : Aside0 (w.heap.size ≤ gb2) := Aside0.mk (by rw [hg]; exact (below_size (by repeat (first | (with_reducible first | exact HB0.out | apply below_alloc | apply pw_below_drewN | apply below_drew1) | exact HB0.out)))); clear hg; have HB0n := Aside0.mk (below_step (by repeat (first | (with_reducible first | exact HB0.out | apply below_alloc | apply pw_below_drewN | apply below_drew1 | refine below_set ?_ GE0_gb2.out) | exact HB0.out)) HBc); clear HBc HB0; have HB0 := HB0n; clear HB0n; have BK_gb2 := Aside0.mk hbox; clear hbox; have hczq1_0 : w1.cell? ⟨gb2, 0, none⟩ = some (.int .i64 fn) := (blk_cell BK_gb2.out 0).trans rfl; have hfzq1_0 := blk_frozen BK_gb2.out 0; have hczq1_1 : w1.cell? ⟨gb2, 1, none⟩ = some (.int .i64 a1) := (blk_cell BK_gb2.out 1).trans rfl; have hfzq1_1 := blk_frozen BK_gb2.out 1; have hczq1_2 : w1.cell? ⟨gb2, 2, none⟩ = some (.int .i64 a2) := (blk_cell BK_gb2.out 2).trans rfl; have hfzq1_2 := blk_frozen BK_gb2.out 2; have hczq1_3 : w1.cell? ⟨gb2, 3, none⟩ = some (.slice A0 l.length c0) := (blk_cell BK_gb2.out 3).trans rfl; have hfzq1_3 := blk_frozen BK_gb2.out 3; have hczq1_4 : w1.cell? ⟨gb2, 4, none⟩ = some (.int .i64 a4) := (blk_cell BK_gb2.out 4).trans rfl; have hfzq1_4 := blk_frozen BK_gb2.out 4; have hczq1_5 : w1.cell? ⟨gb2, 5, none⟩ = some (.int .i64 a5) := (blk_cell BK_gb2.out 5).trans rfl; have hfzq1_5 := blk_frozen BK_gb2.out 5; have hczq1_6 : w1.cell? ⟨gb2, 6, none⟩ = some (.int .i64 a6) := (blk_cell BK_gb2.out 6).trans rfl; have hfzq1_6 := blk_frozen BK_gb2.out 6) | ((with_reducible refine gate_dst (N := 3) rfl ?_); refine box_event ?hg (N := 3) ?hd (cs := #[.slice A1 al.length c1, .int .i64 code]) (t := 30) ?hr ?_; (case hd => rfl); (case hg => rfl); (case hr => first | (go_simp; done) | (go_simp; rfl)); intro gb3 hg w2 hbox HBc; have GE0_gb3 : Aside0 (w.heap.size ≤ gb3) := Aside0.mk (by rw [hg]; exact (below_size (by repeat (first | (with_reducible first | exact HB0.out | apply below_alloc | apply pw_below_drewN | apply below_drew1 | refine below_set ?_ GE0_gb2.out) | exact HB0.out)))); have NB_gb2_gb3 : Aside0 (gb2 ≠ gb3) := Aside0.mk (ne_new (by (with_reducible repeat (first | refine blk_drewN ?_ _ | refine blk_drew ?_ | refine blk_alloc ?_ _)); exact BK_gb2.out) hg); have NB_gb3_gb2 : Aside0 (gb3 ≠ gb2) := Aside0.mk (fun e => NB_gb2_gb3.out e.symm); clear hg; have BKn_gb2 : Aside0 (w2.heap[gb2]? = some (.cells #[.int .i64 fn, .int .i64 a1, .int .i64 a2, .slice A0 l.length c0, .int .i64 a4, .int .i64 a5, .int .i64 a6] 24 (0, 0))) := Aside0.mk (blk_below (g := gb2) (by (with_reducible repeat (first | refine blk_drewN ?_ _ | refine blk_drew ?_ | refine blk_alloc ?_ _)); exact BK_gb2.out) HBc); have HB0n := Aside0.mk (below_step (by repeat (first | (with_reducible first | exact HB0.out | apply below_alloc | apply pw_below_drewN | apply below_drew1 | refine below_set ?_ GE0_gb2.out | refine below_set ?_ GE0_gb3.out) | exact HB0.out)) HBc); clear HBc BK_gb2 HB0 hczq1_0 hfzq1_0 hczq1_1 hfzq1_1 hczq1_2 hfzq1_2 hczq1_3 hfzq1_3 hczq1_4 hfzq1_4 hczq1_5 hfzq1_5 hczq1_6 hfzq1_6; have BK_gb2 := BKn_gb2; have HB0 := HB0n; clear BKn_gb2 HB0n; have BK_gb3 := Aside0.mk hbox; clear hbox; have hczq2_0 : w2.cell? ⟨gb2, 0, none⟩ = some (.int .i64 fn) := (blk_cell BK_gb2.out 0).trans rfl; have hfzq2_0 := blk_frozen BK_gb2.out 0; have hczq2_1 : w2.cell? ⟨gb2, 1, none⟩ = some (.int .i64 a1) := (blk_cell BK_gb2.out 1).trans rfl; have hfzq2_1 := blk_frozen BK_gb2.out 1; have hczq2_2 : w2.cell? ⟨gb2, 2, none⟩ = some (.int .i64 a2) := (blk_cell BK_gb2.out 2).trans rfl; have hfzq2_2 := blk_frozen BK_gb2.out 2; have hczq2_3 : w2.cell? ⟨gb2, 3, none⟩ = some (.slice A0 l.length c0) := (blk_cell BK_gb2.out 3).trans rfl; have hfzq2_3 := blk_frozen BK_gb2.out 3; have hczq2_4 : w2.cell? ⟨gb2, 4, none⟩ = some (.int .i64 a4) := (blk_cell BK_gb2.out 4).trans rfl; have hfzq2_4 := blk_frozen BK_gb2.out 4; have hczq2_5 : w2.cell? ⟨gb2, 5, none⟩ = some (.int .i64 a5) := (blk_cell BK_gb2.out 5).trans rfl; have hfzq2_5 := blk_frozen BK_gb2.out 5; have hczq2_6 : w2.cell? ⟨gb2, 6, none⟩ = some (.int .i64 a6) := (blk_cell BK_gb2.out 6).trans rfl; have hfzq2_6 := blk_frozen BK_gb2.out 6; have hczq3_0 : w2.cell? ⟨gb3, 0, none⟩ = some (.slice A1 al.length c1) := (blk_cell BK_gb3.out 0).trans rfl; have hfzq3_0 := blk_frozen BK_gb3.out 0; have hczq3_1 : w2.cell? ⟨gb3, 1, none⟩ = some (.int .i64 code) := (blk_cell BK_gb3.out 1).trans rfl; have hfzq3_1 := blk_frozen BK_gb3.out 1; have hnq4 := NB_gb2_gb3.out; have hmq4 := NB_gb3_gb2.out) | (go_at_call 28; refine (PR.basculelaw03_small.calls fn a1 a2 A0 c0 l a4 a5 a6 true _ (Kd.C_below HV_l.out (by repeat (first | (with_reducible first | exact HB0.out | apply below_alloc | apply pw_below_drewN | apply below_drew1 | refine below_set ?_ GE0_gb2.out | refine below_set ?_ GE0_gb3.out) | exact HB0.out))) HC_l.out fsm.out).mono ?_; rintro e w3 ⟨rfl, HBc⟩; have BKn_gb2 : Aside0 (w3.heap[gb2]? = some (.cells #[.int .i64 fn, .int .i64 a1, .int .i64 a2, .slice A0 l.length c0, .int .i64 a4, .int .i64 a5, .int .i64 a6] 24 (0, 0))) := Aside0.mk (blk_below (g := gb2) (by (with_reducible repeat (first | refine blk_drewN ?_ _ | refine blk_drew ?_ | refine blk_alloc ?_ _)); exact BK_gb2.out) HBc); have BKn_gb3 : Aside0 (w3.heap[gb3]? = some (.cells #[.slice A1 al.length c1, .int .i64 code] 30 (0, 0))) := Aside0.mk (blk_below (g := gb3) (by (with_reducible repeat (first | refine blk_drewN ?_ _ | refine blk_drew ?_ | refine blk_alloc ?_ _)); exact BK_gb3.out) HBc); have HB0n := Aside0.mk (below_step (by repeat (first | (with_reducible first | exact HB0.out | apply below_alloc | apply pw_below_drewN | apply below_drew1 | refine below_set ?_ GE0_gb2.out | refine below_set ?_ GE0_gb3.out) | exact HB0.out)) HBc); clear HBc BK_gb2 BK_gb3 HB0 hczq2_0 hfzq2_0 hczq2_1 hfzq2_1 hczq2_2 hfzq2_2 hczq2_3 hfzq2_3 hczq2_4 hfzq2_4 hczq2_5 hfzq2_5 hczq2_6 hfzq2_6 hczq3_0 hfzq3_0 hczq3_1 hfzq3_1 hnq4 hmq4; have BK_gb2 := BKn_gb2; have BK_gb3 := BKn_gb3; have HB0 := HB0n; clear BKn_gb2 BKn_gb3 HB0n; have hczq5_0 : w3.cell? ⟨gb2, 0, none⟩ = some (.int .i64 fn) := (blk_cell BK_gb2.out 0).trans rfl; have hfzq5_0 := blk_frozen BK_gb2.out 0; have hczq5_1 : w3.cell? ⟨gb2, 1, none⟩ = some (.int .i64 a1) := (blk_cell BK_gb2.out 1).trans rfl; have hfzq5_1 := blk_frozen BK_gb2.out 1; have hczq5_2 : w3.cell? ⟨gb2, 2, none⟩ = some (.int .i64 a2) := (blk_cell BK_gb2.out 2).trans rfl; have hfzq5_2 := blk_frozen BK_gb2.out 2; have hczq5_3 : w3.cell? ⟨gb2, 3, none⟩ = some (.slice A0 l.length c0) := (blk_cell BK_gb2.out 3).trans rfl; have hfzq5_3 := blk_frozen BK_gb2.out 3; have hczq5_4 : w3.cell? ⟨gb2, 4, none⟩ = some (.int .i64 a4) := (blk_cell BK_gb2.out 4).trans rfl; have hfzq5_4 := blk_frozen BK_gb2.out 4; have hczq5_5 : w3.cell? ⟨gb2, 5, none⟩ = some (.int .i64 a5) := (blk_cell BK_gb2.out 5).trans rfl; have hfzq5_5 := blk_frozen BK_gb2.out 5; have hczq5_6 : w3.cell? ⟨gb2, 6, none⟩ = some (.int .i64 a6) := (blk_cell BK_gb2.out 6).trans rfl; have hfzq5_6 := blk_frozen BK_gb2.out 6; have hczq6_0 : w3.cell? ⟨gb3, 0, none⟩ = some (.slice A1 al.length c1) := (blk_cell BK_gb3.out 0).trans rfl; have hfzq6_0 := blk_frozen BK_gb3.out 0; have hczq6_1 : w3.cell? ⟨gb3, 1, none⟩ = some (.int .i64 code) := (blk_cell BK_gb3.out 1).trans rfl; have hfzq6_1 := blk_frozen BK_gb3.out 1; have hnq7 := NB_gb2_gb3.out; have hmq7 := NB_gb3_gb2.out))
  go_ret
  exact ⟨rfl, (by repeat (first | (with_reducible first | exact HB0.out | apply below_alloc | apply pw_below_drewN | apply below_drew1 | refine below_set ?_ GE0_gb2.out | refine below_set ?_ GE0_gb3.out) | exact HB0.out))⟩

set_option maxHeartbeats 8000000 in
set_option maxRecDepth 100000 in
theorem sizes_no (K : Nat) (fn a1 a2 : Int) (A0 : Option Addr) (c0 : Nat) (l : List Int) (a4 a5 a6 : Int) (A1 : Option Addr) (c1 : Nat) (al : List Int) (code : Int) (w : World) (HV_l : Aside0 (Kd.C (Kd.int .i64) w A0 l.length l)) (HC_l : Aside0 (l.length ≤ c0)) (HV_al : Aside0 (Kd.C (Kd.int .i64) w A1 al.length al)) (HC_al : Aside0 (al.length ≤ c1)) (fsm : Aside0 (PR.basculelaw03_small.f fn a1 a2 l a4 a5 a6 = some true)) (h2 : decide ((2100 : Int) < (al.length : Int)) = false) (fby : Aside0 (pdu_Bytes.f K fn a1 a2 l a4 a5 a6 = some ([], 1))) : Calls Try.prog 13 #[.agg #[.int .i64 fn, .int .i64 a1, .int .i64 a2, .slice A0 l.length c0, .int .i64 a4, .int .i64 a5, .int .i64 a6], .agg #[.slice A1 al.length c1, .int .i64 code]] w fun e w' => e = .returned (.bool true) ∧ Below w.heap.size w w' := by
  have hu24 := Try.underlying24
  have hu30 := Try.underlying30
  have HB0 := Aside0.mk (Below.refl w.heap.size w)
  go_enter Try.func13, Try.ntmps13
  go_wp2_with (first | ((with_reducible refine gate_dst (N := 2) rfl ?_); refine box_event ?hg (N := 2) ?hd (cs := #[.int .i64 fn, .int .i64 a1, .int .i64 a2, .slice A0 l.length c0, .int .i64 a4, .int .i64 a5, .int .i64 a6]) (t := 24) ?hr ?_; (case hd => rfl); (case hg => rfl); (case hr => first | (go_simp; done) | (go_simp; rfl)); intro gb2 hg w1 hbox HBc; have GE0_gb2 : Aside0 (w.heap.size ≤ gb2) := Aside0.mk (by rw [hg]; exact (below_size (by repeat (first | (with_reducible first | exact HB0.out | apply below_alloc | apply pw_below_drewN | apply below_drew1) | exact HB0.out)))); clear hg; have HB0n := Aside0.mk (below_step (by repeat (first | (with_reducible first | exact HB0.out | apply below_alloc | apply pw_below_drewN | apply below_drew1 | refine below_set ?_ GE0_gb2.out) | exact HB0.out)) HBc); clear HBc HB0; have HB0 := HB0n; clear HB0n; have BK_gb2 := Aside0.mk hbox; clear hbox; have hczq1_0 : w1.cell? ⟨gb2, 0, none⟩ = some (.int .i64 fn) := (blk_cell BK_gb2.out 0).trans rfl; have hfzq1_0 := blk_frozen BK_gb2.out 0; have hczq1_1 : w1.cell? ⟨gb2, 1, none⟩ = some (.int .i64 a1) := (blk_cell BK_gb2.out 1).trans rfl; have hfzq1_1 := blk_frozen BK_gb2.out 1; have hczq1_2 : w1.cell? ⟨gb2, 2, none⟩ = some (.int .i64 a2) := (blk_cell BK_gb2.out 2).trans rfl; have hfzq1_2 := blk_frozen BK_gb2.out 2; have hczq1_3 : w1.cell? ⟨gb2, 3, none⟩ = some (.slice A0 l.length c0) := (blk_cell BK_gb2.out 3).trans rfl; have hfzq1_3 := blk_frozen BK_gb2.out 3; have hczq1_4 : w1.cell? ⟨gb2, 4, none⟩ = some (.int .i64 a4) := (blk_cell BK_gb2.out 4).trans rfl; have hfzq1_4 := blk_frozen BK_gb2.out 4; have hczq1_5 : w1.cell? ⟨gb2, 5, none⟩ = some (.int .i64 a5) := (blk_cell BK_gb2.out 5).trans rfl; have hfzq1_5 := blk_frozen BK_gb2.out 5; have hczq1_6 : w1.cell? ⟨gb2, 6, none⟩ = some (.int .i64 a6) := (blk_cell BK_gb2.out 6).trans rfl; have hfzq1_6 := blk_frozen BK_gb2.out 6) | ((with_reducible refine gate_dst (N := 3) rfl ?_); refine box_event ?hg (N := 3) ?hd (cs := #[.slice A1 al.length c1, .int .i64 code]) (t := 30) ?hr ?_; (case hd => rfl); (case hg => rfl); (case hr => first | (go_simp; done) | (go_simp; rfl)); intro gb3 hg w2 hbox HBc; have GE0_gb3 : Aside0 (w.heap.size ≤ gb3) := Aside0.mk (by rw [hg]; exact (below_size (by repeat (first | (with_reducible first | exact HB0.out | apply below_alloc | apply pw_below_drewN | apply below_drew1 | refine below_set ?_ GE0_gb2.out) | exact HB0.out)))); have NB_gb2_gb3 : Aside0 (gb2 ≠ gb3) := Aside0.mk (ne_new (by (with_reducible repeat (first | refine blk_drewN ?_ _ | refine blk_drew ?_ | refine blk_alloc ?_ _)); exact BK_gb2.out) hg); have NB_gb3_gb2 : Aside0 (gb3 ≠ gb2) := Aside0.mk (fun e => NB_gb2_gb3.out e.symm); clear hg; have BKn_gb2 : Aside0 (w2.heap[gb2]? = some (.cells #[.int .i64 fn, .int .i64 a1, .int .i64 a2, .slice A0 l.length c0, .int .i64 a4, .int .i64 a5, .int .i64 a6] 24 (0, 0))) := Aside0.mk (blk_below (g := gb2) (by (with_reducible repeat (first | refine blk_drewN ?_ _ | refine blk_drew ?_ | refine blk_alloc ?_ _)); exact BK_gb2.out) HBc); have HB0n := Aside0.mk (below_step (by repeat (first | (with_reducible first | exact HB0.out | apply below_alloc | apply pw_below_drewN | apply below_drew1 | refine below_set ?_ GE0_gb2.out | refine below_set ?_ GE0_gb3.out) | exact HB0.out)) HBc); clear HBc BK_gb2 HB0 hczq1_0 hfzq1_0 hczq1_1 hfzq1_1 hczq1_2 hfzq1_2 hczq1_3 hfzq1_3 hczq1_4 hfzq1_4 hczq1_5 hfzq1_5 hczq1_6 hfzq1_6; have BK_gb2 := BKn_gb2; have HB0 := HB0n; clear BKn_gb2 HB0n; have BK_gb3 := Aside0.mk hbox; clear hbox; have hczq2_0 : w2.cell? ⟨gb2, 0, none⟩ = some (.int .i64 fn) := (blk_cell BK_gb2.out 0).trans rfl; have hfzq2_0 := blk_frozen BK_gb2.out 0; have hczq2_1 : w2.cell? ⟨gb2, 1, none⟩ = some (.int .i64 a1) := (blk_cell BK_gb2.out 1).trans rfl; have hfzq2_1 := blk_frozen BK_gb2.out 1; have hczq2_2 : w2.cell? ⟨gb2, 2, none⟩ = some (.int .i64 a2) := (blk_cell BK_gb2.out 2).trans rfl; have hfzq2_2 := blk_frozen BK_gb2.out 2; have hczq2_3 : w2.cell? ⟨gb2, 3, none⟩ = some (.slice A0 l.length c0) := (blk_cell BK_gb2.out 3).trans rfl; have hfzq2_3 := blk_frozen BK_gb2.out 3; have hczq2_4 : w2.cell? ⟨gb2, 4, none⟩ = some (.int .i64 a4) := (blk_cell BK_gb2.out 4).trans rfl; have hfzq2_4 := blk_frozen BK_gb2.out 4; have hczq2_5 : w2.cell? ⟨gb2, 5, none⟩ = some (.int .i64 a5) := (blk_cell BK_gb2.out 5).trans rfl; have hfzq2_5 := blk_frozen BK_gb2.out 5; have hczq2_6 : w2.cell? ⟨gb2, 6, none⟩ = some (.int .i64 a6) := (blk_cell BK_gb2.out 6).trans rfl; have hfzq2_6 := blk_frozen BK_gb2.out 6; have hczq3_0 : w2.cell? ⟨gb3, 0, none⟩ = some (.slice A1 al.length c1) := (blk_cell BK_gb3.out 0).trans rfl; have hfzq3_0 := blk_frozen BK_gb3.out 0; have hczq3_1 : w2.cell? ⟨gb3, 1, none⟩ = some (.int .i64 code) := (blk_cell BK_gb3.out 1).trans rfl; have hfzq3_1 := blk_frozen BK_gb3.out 1; have hnq4 := NB_gb2_gb3.out; have hmq4 := NB_gb3_gb2.out) | (go_at_call 28; refine (PR.basculelaw03_small.calls fn a1 a2 A0 c0 l a4 a5 a6 true _ (Kd.C_below HV_l.out (by repeat (first | (with_reducible first | exact HB0.out | apply below_alloc | apply pw_below_drewN | apply below_drew1 | refine below_set ?_ GE0_gb2.out | refine below_set ?_ GE0_gb3.out) | exact HB0.out))) HC_l.out fsm.out).mono ?_; rintro e w3 ⟨rfl, HBc⟩; have BKn_gb2 : Aside0 (w3.heap[gb2]? = some (.cells #[.int .i64 fn, .int .i64 a1, .int .i64 a2, .slice A0 l.length c0, .int .i64 a4, .int .i64 a5, .int .i64 a6] 24 (0, 0))) := Aside0.mk (blk_below (g := gb2) (by (with_reducible repeat (first | refine blk_drewN ?_ _ | refine blk_drew ?_ | refine blk_alloc ?_ _)); exact BK_gb2.out) HBc); have BKn_gb3 : Aside0 (w3.heap[gb3]? = some (.cells #[.slice A1 al.length c1, .int .i64 code] 30 (0, 0))) := Aside0.mk (blk_below (g := gb3) (by (with_reducible repeat (first | refine blk_drewN ?_ _ | refine blk_drew ?_ | refine blk_alloc ?_ _)); exact BK_gb3.out) HBc); have HB0n := Aside0.mk (below_step (by repeat (first | (with_reducible first | exact HB0.out | apply below_alloc | apply pw_below_drewN | apply below_drew1 | refine below_set ?_ GE0_gb2.out | refine below_set ?_ GE0_gb3.out) | exact HB0.out)) HBc); clear HBc BK_gb2 BK_gb3 HB0 hczq2_0 hfzq2_0 hczq2_1 hfzq2_1 hczq2_2 hfzq2_2 hczq2_3 hfzq2_3 hczq2_4 hfzq2_4 hczq2_5 hfzq2_5 hczq2_6 hfzq2_6 hczq3_0 hfzq3_0 hczq3_1 hfzq3_1 hnq4 hmq4; have BK_gb2 := BKn_gb2; have BK_gb3 := BKn_gb3; have HB0 := HB0n; clear BKn_gb2 BKn_gb3 HB0n; have hczq5_0 : w3.cell? ⟨gb2, 0, none⟩ = some (.int .i64 fn) := (blk_cell BK_gb2.out 0).trans rfl; have hfzq5_0 := blk_frozen BK_gb2.out 0; have hczq5_1 : w3.cell? ⟨gb2, 1, none⟩ = some (.int .i64 a1) := (blk_cell BK_gb2.out 1).trans rfl; have hfzq5_1 := blk_frozen BK_gb2.out 1; have hczq5_2 : w3.cell? ⟨gb2, 2, none⟩ = some (.int .i64 a2) := (blk_cell BK_gb2.out 2).trans rfl; have hfzq5_2 := blk_frozen BK_gb2.out 2; have hczq5_3 : w3.cell? ⟨gb2, 3, none⟩ = some (.slice A0 l.length c0) := (blk_cell BK_gb2.out 3).trans rfl; have hfzq5_3 := blk_frozen BK_gb2.out 3; have hczq5_4 : w3.cell? ⟨gb2, 4, none⟩ = some (.int .i64 a4) := (blk_cell BK_gb2.out 4).trans rfl; have hfzq5_4 := blk_frozen BK_gb2.out 4; have hczq5_5 : w3.cell? ⟨gb2, 5, none⟩ = some (.int .i64 a5) := (blk_cell BK_gb2.out 5).trans rfl; have hfzq5_5 := blk_frozen BK_gb2.out 5; have hczq5_6 : w3.cell? ⟨gb2, 6, none⟩ = some (.int .i64 a6) := (blk_cell BK_gb2.out 6).trans rfl; have hfzq5_6 := blk_frozen BK_gb2.out 6; have hczq6_0 : w3.cell? ⟨gb3, 0, none⟩ = some (.slice A1 al.length c1) := (blk_cell BK_gb3.out 0).trans rfl; have hfzq6_0 := blk_frozen BK_gb3.out 0; have hczq6_1 : w3.cell? ⟨gb3, 1, none⟩ = some (.int .i64 code) := (blk_cell BK_gb3.out 1).trans rfl; have hfzq6_1 := blk_frozen BK_gb3.out 1; have hnq7 := NB_gb2_gb3.out; have hmq7 := NB_gb3_gb2.out) | (go_at_call 30; refine (pdu_Bytes.calls K fn a1 a2 A0 c0 l a4 a5 a6 [] 1 _ (Kd.C_below HV_l.out (by repeat (first | (with_reducible first | exact HB0.out | apply below_alloc | apply pw_below_drewN | apply below_drew1 | refine below_set ?_ GE0_gb2.out | refine below_set ?_ GE0_gb3.out) | exact HB0.out))) HC_l.out fby.out).mono ?_; rintro e w4 ⟨v, rfl, HR_q, HBc⟩; have BKn_gb2 : Aside0 (w4.heap[gb2]? = some (.cells #[.int .i64 fn, .int .i64 a1, .int .i64 a2, .slice A0 l.length c0, .int .i64 a4, .int .i64 a5, .int .i64 a6] 24 (0, 0))) := Aside0.mk (blk_below (g := gb2) (by (with_reducible repeat (first | refine blk_drewN ?_ _ | refine blk_drew ?_ | refine blk_alloc ?_ _)); exact BK_gb2.out) HBc); have BKn_gb3 : Aside0 (w4.heap[gb3]? = some (.cells #[.slice A1 al.length c1, .int .i64 code] 30 (0, 0))) := Aside0.mk (blk_below (g := gb3) (by (with_reducible repeat (first | refine blk_drewN ?_ _ | refine blk_drew ?_ | refine blk_alloc ?_ _)); exact BK_gb3.out) HBc); have HB0n := Aside0.mk (below_step (by repeat (first | (with_reducible first | exact HB0.out | apply below_alloc | apply pw_below_drewN | apply below_drew1 | refine below_set ?_ GE0_gb2.out | refine below_set ?_ GE0_gb3.out) | exact HB0.out)) HBc); clear HBc BK_gb2 BK_gb3 HB0 hczq5_0 hfzq5_0 hczq5_1 hfzq5_1 hczq5_2 hfzq5_2 hczq5_3 hfzq5_3 hczq5_4 hfzq5_4 hczq5_5 hfzq5_5 hczq5_6 hfzq5_6 hczq6_0 hfzq6_0 hczq6_1 hfzq6_1 hnq7 hmq7; have BK_gb2 := BKn_gb2; have BK_gb3 := BKn_gb3; have HB0 := HB0n; clear BKn_gb2 BKn_gb3 HB0n; have HB_q := Aside0.mk (Below.refl w4.heap.size w4); obtain ⟨A_q, c_q, rfl⟩ := Kd.R_slice HR_q; have HV_q := Aside0.mk (Kd.R_reads' HR_q).2.2; have HC_q := Aside0.mk (Kd.R_reads' HR_q).2.1; clear HR_q; have hczq8_0 : w4.cell? ⟨gb2, 0, none⟩ = some (.int .i64 fn) := (blk_cell BK_gb2.out 0).trans rfl; have hfzq8_0 := blk_frozen BK_gb2.out 0; have hczq8_1 : w4.cell? ⟨gb2, 1, none⟩ = some (.int .i64 a1) := (blk_cell BK_gb2.out 1).trans rfl; have hfzq8_1 := blk_frozen BK_gb2.out 1; have hczq8_2 : w4.cell? ⟨gb2, 2, none⟩ = some (.int .i64 a2) := (blk_cell BK_gb2.out 2).trans rfl; have hfzq8_2 := blk_frozen BK_gb2.out 2; have hczq8_3 : w4.cell? ⟨gb2, 3, none⟩ = some (.slice A0 l.length c0) := (blk_cell BK_gb2.out 3).trans rfl; have hfzq8_3 := blk_frozen BK_gb2.out 3; have hczq8_4 : w4.cell? ⟨gb2, 4, none⟩ = some (.int .i64 a4) := (blk_cell BK_gb2.out 4).trans rfl; have hfzq8_4 := blk_frozen BK_gb2.out 4; have hczq8_5 : w4.cell? ⟨gb2, 5, none⟩ = some (.int .i64 a5) := (blk_cell BK_gb2.out 5).trans rfl; have hfzq8_5 := blk_frozen BK_gb2.out 5; have hczq8_6 : w4.cell? ⟨gb2, 6, none⟩ = some (.int .i64 a6) := (blk_cell BK_gb2.out 6).trans rfl; have hfzq8_6 := blk_frozen BK_gb2.out 6; have hczq9_0 : w4.cell? ⟨gb3, 0, none⟩ = some (.slice A1 al.length c1) := (blk_cell BK_gb3.out 0).trans rfl; have hfzq9_0 := blk_frozen BK_gb3.out 0; have hczq9_1 : w4.cell? ⟨gb3, 1, none⟩ = some (.int .i64 code) := (blk_cell BK_gb3.out 1).trans rfl; have hfzq9_1 := blk_frozen BK_gb3.out 1; have hnq10 := NB_gb2_gb3.out; have hmq10 := NB_gb3_gb2.out) | (go_at_call 32; refine (awake_true _).mono ?_; rintro e w5 ⟨rfl, HBc⟩; have BKn_gb2 : Aside0 (w5.heap[gb2]? = some (.cells #[.int .i64 fn, .int .i64 a1, .int .i64 a2, .slice A0 l.length c0, .int .i64 a4, .int .i64 a5, .int .i64 a6] 24 (0, 0))) := Aside0.mk (blk_below (g := gb2) (by (with_reducible repeat (first | refine blk_drewN ?_ _ | refine blk_drew ?_ | refine blk_alloc ?_ _)); exact BK_gb2.out) HBc); have BKn_gb3 : Aside0 (w5.heap[gb3]? = some (.cells #[.slice A1 al.length c1, .int .i64 code] 30 (0, 0))) := Aside0.mk (blk_below (g := gb3) (by (with_reducible repeat (first | refine blk_drewN ?_ _ | refine blk_drew ?_ | refine blk_alloc ?_ _)); exact BK_gb3.out) HBc); have HB0n := Aside0.mk (below_step (by repeat (first | (with_reducible first | exact HB0.out | apply below_alloc | apply pw_below_drewN | apply below_drew1 | refine below_set ?_ GE0_gb2.out | refine below_set ?_ GE0_gb3.out) | exact HB0.out)) HBc); have HB_qn := Aside0.mk (below_step (by repeat (first | (with_reducible first | exact HB_q.out | apply below_alloc | apply pw_below_drewN | apply below_drew1) | exact HB_q.out)) HBc); clear HBc BK_gb2 BK_gb3 HB0 HB_q hczq8_0 hfzq8_0 hczq8_1 hfzq8_1 hczq8_2 hfzq8_2 hczq8_3 hfzq8_3 hczq8_4 hfzq8_4 hczq8_5 hfzq8_5 hczq8_6 hfzq8_6 hczq9_0 hfzq9_0 hczq9_1 hfzq9_1 hnq10 hmq10; have BK_gb2 := BKn_gb2; have BK_gb3 := BKn_gb3; have HB0 := HB0n; have HB_q := HB_qn; clear BKn_gb2 BKn_gb3 HB0n HB_qn; have hczq11_0 : w5.cell? ⟨gb2, 0, none⟩ = some (.int .i64 fn) := (blk_cell BK_gb2.out 0).trans rfl; have hfzq11_0 := blk_frozen BK_gb2.out 0; have hczq11_1 : w5.cell? ⟨gb2, 1, none⟩ = some (.int .i64 a1) := (blk_cell BK_gb2.out 1).trans rfl; have hfzq11_1 := blk_frozen BK_gb2.out 1; have hczq11_2 : w5.cell? ⟨gb2, 2, none⟩ = some (.int .i64 a2) := (blk_cell BK_gb2.out 2).trans rfl; have hfzq11_2 := blk_frozen BK_gb2.out 2; have hczq11_3 : w5.cell? ⟨gb2, 3, none⟩ = some (.slice A0 l.length c0) := (blk_cell BK_gb2.out 3).trans rfl; have hfzq11_3 := blk_frozen BK_gb2.out 3; have hczq11_4 : w5.cell? ⟨gb2, 4, none⟩ = some (.int .i64 a4) := (blk_cell BK_gb2.out 4).trans rfl; have hfzq11_4 := blk_frozen BK_gb2.out 4; have hczq11_5 : w5.cell? ⟨gb2, 5, none⟩ = some (.int .i64 a5) := (blk_cell BK_gb2.out 5).trans rfl; have hfzq11_5 := blk_frozen BK_gb2.out 5; have hczq11_6 : w5.cell? ⟨gb2, 6, none⟩ = some (.int .i64 a6) := (blk_cell BK_gb2.out 6).trans rfl; have hfzq11_6 := blk_frozen BK_gb2.out 6; have hczq12_0 : w5.cell? ⟨gb3, 0, none⟩ = some (.slice A1 al.length c1) := (blk_cell BK_gb3.out 0).trans rfl; have hfzq12_0 := blk_frozen BK_gb3.out 0; have hczq12_1 : w5.cell? ⟨gb3, 1, none⟩ = some (.int .i64 code) := (blk_cell BK_gb3.out 1).trans rfl; have hfzq12_1 := blk_frozen BK_gb3.out 1; have hnq13 := NB_gb2_gb3.out; have hmq13 := NB_gb3_gb2.out))
  go_ret
  exact ⟨rfl, (by repeat (first | (with_reducible first | exact HB0.out | apply below_alloc | apply pw_below_drewN | apply below_drew1 | refine below_set ?_ GE0_gb2.out | refine below_set ?_ GE0_gb3.out) | exact HB0.out))⟩

set_option maxHeartbeats 8000000 in
set_option maxRecDepth 100000 in
theorem sizes_req (K : Nat) (q : List Int) (fn a1 a2 : Int) (A0 : Option Addr) (c0 : Nat) (l : List Int) (a4 a5 a6 : Int) (A1 : Option Addr) (c1 : Nat) (al : List Int) (code : Int) (w : World) (HV_l : Aside0 (Kd.C (Kd.int .i64) w A0 l.length l)) (HC_l : Aside0 (l.length ≤ c0)) (HV_al : Aside0 (Kd.C (Kd.int .i64) w A1 al.length al)) (HC_al : Aside0 (al.length ≤ c1)) (fsm : Aside0 (PR.basculelaw03_small.f fn a1 a2 l a4 a5 a6 = some true)) (h2 : decide ((2100 : Int) < (al.length : Int)) = false) (fby : Aside0 (pdu_Bytes.f K fn a1 a2 l a4 a5 a6 = some (q, 0))) (hl0 : (l.length : Int) ≤ 2100) (hq : Aside0 (0 < q.length)) (hq0 : Aside0 (rd q 0 = fn)) (hfn0 : 0 ≤ fn) (hfn1 : fn < 128) (HQL : Aside0 (q.length = if fn = 15 then 6 + (l.length + 7) / 8 else if fn = 16 then 6 + 2 * l.length else if fn = 22 then 7 else if fn = 23 then 10 + 2 * l.length else 5)) (fab : Aside0 (pdu_AnswerBytes.f K fn a1 a2 l a4 a5 a6 al code = some ([], 1))) : Calls Try.prog 13 #[.agg #[.int .i64 fn, .int .i64 a1, .int .i64 a2, .slice A0 l.length c0, .int .i64 a4, .int .i64 a5, .int .i64 a6], .agg #[.slice A1 al.length c1, .int .i64 code]] w fun e w' => e = .returned (.bool true) ∧ Below w.heap.size w w' := by
  have hu24 := Try.underlying24
  have hu30 := Try.underlying30
  have HB0 := Aside0.mk (Below.refl w.heap.size w)
  go_enter Try.func13, Try.ntmps13
  go_upto_block 0 with (first | ((with_reducible refine gate_dst (N := 2) rfl ?_); refine box_event ?hg (N := 2) ?hd (cs := #[.int .i64 fn, .int .i64 a1, .int .i64 a2, .slice A0 l.length c0, .int .i64 a4, .int .i64 a5, .int .i64 a6]) (t := 24) ?hr ?_; (case hd => rfl); (case hg => rfl); (case hr => first | (go_simp; done) | (go_simp; rfl)); intro gb2 hg w1 hbox HBc; have GE0_gb2 : Aside0 (w.heap.size ≤ gb2) := Aside0.mk (by rw [hg]; exact (below_size (by repeat (first | (with_reducible first | exact HB0.out | apply below_alloc | apply pw_below_drewN | apply below_drew1) | exact HB0.out)))); clear hg; have HB0n := Aside0.mk (below_step (by repeat (first | (with_reducible first | exact HB0.out | apply below_alloc | apply pw_below_drewN | apply below_drew1 | refine below_set ?_ GE0_gb2.out) | exact HB0.out)) HBc); clear HBc HB0; have HB0 := HB0n; clear HB0n; have BK_gb2 := Aside0.mk hbox; clear hbox; have hczq1_0 : w1.cell? ⟨gb2, 0, none⟩ = some (.int .i64 fn) := (blk_cell BK_gb2.out 0).trans rfl; have hfzq1_0 := blk_frozen BK_gb2.out 0; have hczq1_1 : w1.cell? ⟨gb2, 1, none⟩ = some (.int .i64 a1) := (blk_cell BK_gb2.out 1).trans rfl; have hfzq1_1 := blk_frozen BK_gb2.out 1; have hczq1_2 : w1.cell? ⟨gb2, 2, none⟩ = some (.int .i64 a2) := (blk_cell BK_gb2.out 2).trans rfl; have hfzq1_2 := blk_frozen BK_gb2.out 2; have hczq1_3 : w1.cell? ⟨gb2, 3, none⟩ = some (.slice A0 l.length c0) := (blk_cell BK_gb2.out 3).trans rfl; have hfzq1_3 := blk_frozen BK_gb2.out 3; have hczq1_4 : w1.cell? ⟨gb2, 4, none⟩ = some (.int .i64 a4) := (blk_cell BK_gb2.out 4).trans rfl; have hfzq1_4 := blk_frozen BK_gb2.out 4; have hczq1_5 : w1.cell? ⟨gb2, 5, none⟩ = some (.int .i64 a5) := (blk_cell BK_gb2.out 5).trans rfl; have hfzq1_5 := blk_frozen BK_gb2.out 5; have hczq1_6 : w1.cell? ⟨gb2, 6, none⟩ = some (.int .i64 a6) := (blk_cell BK_gb2.out 6).trans rfl; have hfzq1_6 := blk_frozen BK_gb2.out 6) | ((with_reducible refine gate_dst (N := 3) rfl ?_); refine box_event ?hg (N := 3) ?hd (cs := #[.slice A1 al.length c1, .int .i64 code]) (t := 30) ?hr ?_; (case hd => rfl); (case hg => rfl); (case hr => first | (go_simp; done) | (go_simp; rfl)); intro gb3 hg w2 hbox HBc; have GE0_gb3 : Aside0 (w.heap.size ≤ gb3) := Aside0.mk (by rw [hg]; exact (below_size (by repeat (first | (with_reducible first | exact HB0.out | apply below_alloc | apply pw_below_drewN | apply below_drew1 | refine below_set ?_ GE0_gb2.out) | exact HB0.out)))); have NB_gb2_gb3 : Aside0 (gb2 ≠ gb3) := Aside0.mk (ne_new (by (with_reducible repeat (first | refine blk_drewN ?_ _ | refine blk_drew ?_ | refine blk_alloc ?_ _)); exact BK_gb2.out) hg); have NB_gb3_gb2 : Aside0 (gb3 ≠ gb2) := Aside0.mk (fun e => NB_gb2_gb3.out e.symm); clear hg; have BKn_gb2 : Aside0 (w2.heap[gb2]? = some (.cells #[.int .i64 fn, .int .i64 a1, .int .i64 a2, .slice A0 l.length c0, .int .i64 a4, .int .i64 a5, .int .i64 a6] 24 (0, 0))) := Aside0.mk (blk_below (g := gb2) (by (with_reducible repeat (first | refine blk_drewN ?_ _ | refine blk_drew ?_ | refine blk_alloc ?_ _)); exact BK_gb2.out) HBc); have HB0n := Aside0.mk (below_step (by repeat (first | (with_reducible first | exact HB0.out | apply below_alloc | apply pw_below_drewN | apply below_drew1 | refine below_set ?_ GE0_gb2.out | refine below_set ?_ GE0_gb3.out) | exact HB0.out)) HBc); clear HBc BK_gb2 HB0 hczq1_0 hfzq1_0 hczq1_1 hfzq1_1 hczq1_2 hfzq1_2 hczq1_3 hfzq1_3 hczq1_4 hfzq1_4 hczq1_5 hfzq1_5 hczq1_6 hfzq1_6; have BK_gb2 := BKn_gb2; have HB0 := HB0n; clear BKn_gb2 HB0n; have BK_gb3 := Aside0.mk hbox; clear hbox; have hczq2_0 : w2.cell? ⟨gb2, 0, none⟩ = some (.int .i64 fn) := (blk_cell BK_gb2.out 0).trans rfl; have hfzq2_0 := blk_frozen BK_gb2.out 0; have hczq2_1 : w2.cell? ⟨gb2, 1, none⟩ = some (.int .i64 a1) := (blk_cell BK_gb2.out 1).trans rfl; have hfzq2_1 := blk_frozen BK_gb2.out 1; have hczq2_2 : w2.cell? ⟨gb2, 2, none⟩ = some (.int .i64 a2) := (blk_cell BK_gb2.out 2).trans rfl; have hfzq2_2 := blk_frozen BK_gb2.out 2; have hczq2_3 : w2.cell? ⟨gb2, 3, none⟩ = some (.slice A0 l.length c0) := (blk_cell BK_gb2.out 3).trans rfl; have hfzq2_3 := blk_frozen BK_gb2.out 3; have hczq2_4 : w2.cell? ⟨gb2, 4, none⟩ = some (.int .i64 a4) := (blk_cell BK_gb2.out 4).trans rfl; have hfzq2_4 := blk_frozen BK_gb2.out 4; have hczq2_5 : w2.cell? ⟨gb2, 5, none⟩ = some (.int .i64 a5) := (blk_cell BK_gb2.out 5).trans rfl; have hfzq2_5 := blk_frozen BK_gb2.out 5; have hczq2_6 : w2.cell? ⟨gb2, 6, none⟩ = some (.int .i64 a6) := (blk_cell BK_gb2.out 6).trans rfl; have hfzq2_6 := blk_frozen BK_gb2.out 6; have hczq3_0 : w2.cell? ⟨gb3, 0, none⟩ = some (.slice A1 al.length c1) := (blk_cell BK_gb3.out 0).trans rfl; have hfzq3_0 := blk_frozen BK_gb3.out 0; have hczq3_1 : w2.cell? ⟨gb3, 1, none⟩ = some (.int .i64 code) := (blk_cell BK_gb3.out 1).trans rfl; have hfzq3_1 := blk_frozen BK_gb3.out 1; have hnq4 := NB_gb2_gb3.out; have hmq4 := NB_gb3_gb2.out) | (go_at_call 28; refine (PR.basculelaw03_small.calls fn a1 a2 A0 c0 l a4 a5 a6 true _ (Kd.C_below HV_l.out (by repeat (first | (with_reducible first | exact HB0.out | apply below_alloc | apply pw_below_drewN | apply below_drew1 | refine below_set ?_ GE0_gb2.out | refine below_set ?_ GE0_gb3.out) | exact HB0.out))) HC_l.out fsm.out).mono ?_; rintro e w3 ⟨rfl, HBc⟩; have BKn_gb2 : Aside0 (w3.heap[gb2]? = some (.cells #[.int .i64 fn, .int .i64 a1, .int .i64 a2, .slice A0 l.length c0, .int .i64 a4, .int .i64 a5, .int .i64 a6] 24 (0, 0))) := Aside0.mk (blk_below (g := gb2) (by (with_reducible repeat (first | refine blk_drewN ?_ _ | refine blk_drew ?_ | refine blk_alloc ?_ _)); exact BK_gb2.out) HBc); have BKn_gb3 : Aside0 (w3.heap[gb3]? = some (.cells #[.slice A1 al.length c1, .int .i64 code] 30 (0, 0))) := Aside0.mk (blk_below (g := gb3) (by (with_reducible repeat (first | refine blk_drewN ?_ _ | refine blk_drew ?_ | refine blk_alloc ?_ _)); exact BK_gb3.out) HBc); have HB0n := Aside0.mk (below_step (by repeat (first | (with_reducible first | exact HB0.out | apply below_alloc | apply pw_below_drewN | apply below_drew1 | refine below_set ?_ GE0_gb2.out | refine below_set ?_ GE0_gb3.out) | exact HB0.out)) HBc); clear HBc BK_gb2 BK_gb3 HB0 hczq2_0 hfzq2_0 hczq2_1 hfzq2_1 hczq2_2 hfzq2_2 hczq2_3 hfzq2_3 hczq2_4 hfzq2_4 hczq2_5 hfzq2_5 hczq2_6 hfzq2_6 hczq3_0 hfzq3_0 hczq3_1 hfzq3_1 hnq4 hmq4; have BK_gb2 := BKn_gb2; have BK_gb3 := BKn_gb3; have HB0 := HB0n; clear BKn_gb2 BKn_gb3 HB0n; have hczq5_0 : w3.cell? ⟨gb2, 0, none⟩ = some (.int .i64 fn) := (blk_cell BK_gb2.out 0).trans rfl; have hfzq5_0 := blk_frozen BK_gb2.out 0; have hczq5_1 : w3.cell? ⟨gb2, 1, none⟩ = some (.int .i64 a1) := (blk_cell BK_gb2.out 1).trans rfl; have hfzq5_1 := blk_frozen BK_gb2.out 1; have hczq5_2 : w3.cell? ⟨gb2, 2, none⟩ = some (.int .i64 a2) := (blk_cell BK_gb2.out 2).trans rfl; have hfzq5_2 := blk_frozen BK_gb2.out 2; have hczq5_3 : w3.cell? ⟨gb2, 3, none⟩ = some (.slice A0 l.length c0) := (blk_cell BK_gb2.out 3).trans rfl; have hfzq5_3 := blk_frozen BK_gb2.out 3; have hczq5_4 : w3.cell? ⟨gb2, 4, none⟩ = some (.int .i64 a4) := (blk_cell BK_gb2.out 4).trans rfl; have hfzq5_4 := blk_frozen BK_gb2.out 4; have hczq5_5 : w3.cell? ⟨gb2, 5, none⟩ = some (.int .i64 a5) := (blk_cell BK_gb2.out 5).trans rfl; have hfzq5_5 := blk_frozen BK_gb2.out 5; have hczq5_6 : w3.cell? ⟨gb2, 6, none⟩ = some (.int .i64 a6) := (blk_cell BK_gb2.out 6).trans rfl; have hfzq5_6 := blk_frozen BK_gb2.out 6; have hczq6_0 : w3.cell? ⟨gb3, 0, none⟩ = some (.slice A1 al.length c1) := (blk_cell BK_gb3.out 0).trans rfl; have hfzq6_0 := blk_frozen BK_gb3.out 0; have hczq6_1 : w3.cell? ⟨gb3, 1, none⟩ = some (.int .i64 code) := (blk_cell BK_gb3.out 1).trans rfl; have hfzq6_1 := blk_frozen BK_gb3.out 1; have hnq7 := NB_gb2_gb3.out; have hmq7 := NB_gb3_gb2.out) | (go_at_call 30; refine (pdu_Bytes.calls K fn a1 a2 A0 c0 l a4 a5 a6 q 0 _ (Kd.C_below HV_l.out (by repeat (first | (with_reducible first | exact HB0.out | apply below_alloc | apply pw_below_drewN | apply below_drew1 | refine below_set ?_ GE0_gb2.out | refine below_set ?_ GE0_gb3.out) | exact HB0.out))) HC_l.out fby.out).mono ?_; rintro e w4 ⟨v, rfl, HR_q, HBc⟩; have BKn_gb2 : Aside0 (w4.heap[gb2]? = some (.cells #[.int .i64 fn, .int .i64 a1, .int .i64 a2, .slice A0 l.length c0, .int .i64 a4, .int .i64 a5, .int .i64 a6] 24 (0, 0))) := Aside0.mk (blk_below (g := gb2) (by (with_reducible repeat (first | refine blk_drewN ?_ _ | refine blk_drew ?_ | refine blk_alloc ?_ _)); exact BK_gb2.out) HBc); have BKn_gb3 : Aside0 (w4.heap[gb3]? = some (.cells #[.slice A1 al.length c1, .int .i64 code] 30 (0, 0))) := Aside0.mk (blk_below (g := gb3) (by (with_reducible repeat (first | refine blk_drewN ?_ _ | refine blk_drew ?_ | refine blk_alloc ?_ _)); exact BK_gb3.out) HBc); have HB0n := Aside0.mk (below_step (by repeat (first | (with_reducible first | exact HB0.out | apply below_alloc | apply pw_below_drewN | apply below_drew1 | refine below_set ?_ GE0_gb2.out | refine below_set ?_ GE0_gb3.out) | exact HB0.out)) HBc); clear HBc BK_gb2 BK_gb3 HB0 hczq5_0 hfzq5_0 hczq5_1 hfzq5_1 hczq5_2 hfzq5_2 hczq5_3 hfzq5_3 hczq5_4 hfzq5_4 hczq5_5 hfzq5_5 hczq5_6 hfzq5_6 hczq6_0 hfzq6_0 hczq6_1 hfzq6_1 hnq7 hmq7; have BK_gb2 := BKn_gb2; have BK_gb3 := BKn_gb3; have HB0 := HB0n; clear BKn_gb2 BKn_gb3 HB0n; have HB_q := Aside0.mk (Below.refl w4.heap.size w4); obtain ⟨A_q, c_q, rfl⟩ := Kd.R_slice HR_q; have HV_q := Aside0.mk (Kd.R_reads' HR_q).2.2; have HC_q := Aside0.mk (Kd.R_reads' HR_q).2.1; clear HR_q; have hczq8_0 : w4.cell? ⟨gb2, 0, none⟩ = some (.int .i64 fn) := (blk_cell BK_gb2.out 0).trans rfl; have hfzq8_0 := blk_frozen BK_gb2.out 0; have hczq8_1 : w4.cell? ⟨gb2, 1, none⟩ = some (.int .i64 a1) := (blk_cell BK_gb2.out 1).trans rfl; have hfzq8_1 := blk_frozen BK_gb2.out 1; have hczq8_2 : w4.cell? ⟨gb2, 2, none⟩ = some (.int .i64 a2) := (blk_cell BK_gb2.out 2).trans rfl; have hfzq8_2 := blk_frozen BK_gb2.out 2; have hczq8_3 : w4.cell? ⟨gb2, 3, none⟩ = some (.slice A0 l.length c0) := (blk_cell BK_gb2.out 3).trans rfl; have hfzq8_3 := blk_frozen BK_gb2.out 3; have hczq8_4 : w4.cell? ⟨gb2, 4, none⟩ = some (.int .i64 a4) := (blk_cell BK_gb2.out 4).trans rfl; have hfzq8_4 := blk_frozen BK_gb2.out 4; have hczq8_5 : w4.cell? ⟨gb2, 5, none⟩ = some (.int .i64 a5) := (blk_cell BK_gb2.out 5).trans rfl; have hfzq8_5 := blk_frozen BK_gb2.out 5; have hczq8_6 : w4.cell? ⟨gb2, 6, none⟩ = some (.int .i64 a6) := (blk_cell BK_gb2.out 6).trans rfl; have hfzq8_6 := blk_frozen BK_gb2.out 6; have hczq9_0 : w4.cell? ⟨gb3, 0, none⟩ = some (.slice A1 al.length c1) := (blk_cell BK_gb3.out 0).trans rfl; have hfzq9_0 := blk_frozen BK_gb3.out 0; have hczq9_1 : w4.cell? ⟨gb3, 1, none⟩ = some (.int .i64 code) := (blk_cell BK_gb3.out 1).trans rfl; have hfzq9_1 := blk_frozen BK_gb3.out 1; have hnq10 := NB_gb2_gb3.out; have hmq10 := NB_gb3_gb2.out))
  go_cut [8] (fun v8 wc => v8 = .int .i64 (q.length : Int) ∧ Aside0 (wc.heap[gb2]? = some (.cells #[.int .i64 fn, .int .i64 a1, .int .i64 a2, .slice A0 l.length c0, .int .i64 a4, .int .i64 a5, .int .i64 a6] 24 (0, 0))) ∧ Aside0 (wc.heap[gb3]? = some (.cells #[.slice A1 al.length c1, .int .i64 code] 30 (0, 0))) ∧ Aside0 (Below w.heap.size w wc) ∧ Aside0 (Below w4.heap.size w4 wc))
  case first =>
    by_cases c15 : fn = 15
    · subst c15
      go_wp2_with (fail)
      go_meet
      case rel => exact ⟨congrArg (Value.int .i64) (by have h := HQL.out; simp at h; omega), ⟨by (with_reducible repeat (first | refine blk_drewN ?_ _ | refine blk_drew ?_ | refine blk_alloc ?_ _)); exact BK_gb2.out⟩, ⟨by (with_reducible repeat (first | refine blk_drewN ?_ _ | refine blk_drew ?_ | refine blk_alloc ?_ _)); exact BK_gb3.out⟩, ⟨by repeat (first | (with_reducible first | exact HB0.out | apply below_alloc | apply pw_below_drewN | apply below_drew1 | refine below_set ?_ GE0_gb2.out | refine below_set ?_ GE0_gb3.out) | exact HB0.out)⟩, ⟨by repeat (first | (with_reducible first | exact HB_q.out | apply below_alloc | apply pw_below_drewN | apply below_drew1) | exact HB_q.out)⟩⟩
    have hb15 : (fn == 15) = false := beq_eq_false_iff_ne.2 c15
    by_cases c16 : fn = 16
    · subst c16
      go_wp2_with (fail)
      go_meet
      case rel => exact ⟨congrArg (Value.int .i64) (by have h := HQL.out; simp at h; omega), ⟨by (with_reducible repeat (first | refine blk_drewN ?_ _ | refine blk_drew ?_ | refine blk_alloc ?_ _)); exact BK_gb2.out⟩, ⟨by (with_reducible repeat (first | refine blk_drewN ?_ _ | refine blk_drew ?_ | refine blk_alloc ?_ _)); exact BK_gb3.out⟩, ⟨by repeat (first | (with_reducible first | exact HB0.out | apply below_alloc | apply pw_below_drewN | apply below_drew1 | refine below_set ?_ GE0_gb2.out | refine below_set ?_ GE0_gb3.out) | exact HB0.out)⟩, ⟨by repeat (first | (with_reducible first | exact HB_q.out | apply below_alloc | apply pw_below_drewN | apply below_drew1) | exact HB_q.out)⟩⟩
    have hb16 : (fn == 16) = false := beq_eq_false_iff_ne.2 c16
    by_cases c22 : fn = 22
    · subst c22
      go_wp2_with (fail)
      go_meet
      case rel => exact ⟨congrArg (Value.int .i64) (by have h := HQL.out; simp at h; omega), ⟨by (with_reducible repeat (first | refine blk_drewN ?_ _ | refine blk_drew ?_ | refine blk_alloc ?_ _)); exact BK_gb2.out⟩, ⟨by (with_reducible repeat (first | refine blk_drewN ?_ _ | refine blk_drew ?_ | refine blk_alloc ?_ _)); exact BK_gb3.out⟩, ⟨by repeat (first | (with_reducible first | exact HB0.out | apply below_alloc | apply pw_below_drewN | apply below_drew1 | refine below_set ?_ GE0_gb2.out | refine below_set ?_ GE0_gb3.out) | exact HB0.out)⟩, ⟨by repeat (first | (with_reducible first | exact HB_q.out | apply below_alloc | apply pw_below_drewN | apply below_drew1) | exact HB_q.out)⟩⟩
    have hb22 : (fn == 22) = false := beq_eq_false_iff_ne.2 c22
    by_cases c23 : fn = 23
    · subst c23
      go_wp2_with (fail)
      go_meet
      case rel => exact ⟨congrArg (Value.int .i64) (by have h := HQL.out; simp at h; omega), ⟨by (with_reducible repeat (first | refine blk_drewN ?_ _ | refine blk_drew ?_ | refine blk_alloc ?_ _)); exact BK_gb2.out⟩, ⟨by (with_reducible repeat (first | refine blk_drewN ?_ _ | refine blk_drew ?_ | refine blk_alloc ?_ _)); exact BK_gb3.out⟩, ⟨by repeat (first | (with_reducible first | exact HB0.out | apply below_alloc | apply pw_below_drewN | apply below_drew1 | refine below_set ?_ GE0_gb2.out | refine below_set ?_ GE0_gb3.out) | exact HB0.out)⟩, ⟨by repeat (first | (with_reducible first | exact HB_q.out | apply below_alloc | apply pw_below_drewN | apply below_drew1) | exact HB_q.out)⟩⟩
    have hb23 : (fn == 23) = false := beq_eq_false_iff_ne.2 c23
    go_wp2_with (fail)
    go_meet
    case rel => exact ⟨congrArg (Value.int .i64) (by rw [HQL.out, if_neg c15, if_neg c16, if_neg c22, if_neg c23]; rfl), ⟨by (with_reducible repeat (first | refine blk_drewN ?_ _ | refine blk_drew ?_ | refine blk_alloc ?_ _)); exact BK_gb2.out⟩, ⟨by (with_reducible repeat (first | refine blk_drewN ?_ _ | refine blk_drew ?_ | refine blk_alloc ?_ _)); exact BK_gb3.out⟩, ⟨by repeat (first | (with_reducible first | exact HB0.out | apply below_alloc | apply pw_below_drewN | apply below_drew1 | refine below_set ?_ GE0_gb2.out | refine below_set ?_ GE0_gb3.out) | exact HB0.out)⟩, ⟨by repeat (first | (with_reducible first | exact HB_q.out | apply below_alloc | apply pw_below_drewN | apply below_drew1) | exact HB_q.out)⟩⟩
  case rest =>
    obtain ⟨rfl, BKn_gb2, BKn_gb3, HBn, HBqn⟩ := hcut
    clear BK_gb2 BK_gb3 HB0 HB_q hczq8_0 hfzq8_0 hczq8_1 hfzq8_1 hczq8_2 hfzq8_2 hczq8_3 hfzq8_3 hczq8_4 hfzq8_4 hczq8_5 hfzq8_5 hczq8_6 hfzq8_6 hczq9_0 hfzq9_0 hczq9_1 hfzq9_1 hnq10 hmq10 HQL
    have BK_gb2 := BKn_gb2
    have BK_gb3 := BKn_gb3
    have HB0 := HBn
    have HB_q := HBqn
    clear BKn_gb2 BKn_gb3 HBn HBqn
    have hczq11_0 : wc.cell? ⟨gb2, 0, none⟩ = some (.int .i64 fn) := (blk_cell BK_gb2.out 0).trans rfl; have hfzq11_0 := blk_frozen BK_gb2.out 0; have hczq11_1 : wc.cell? ⟨gb2, 1, none⟩ = some (.int .i64 a1) := (blk_cell BK_gb2.out 1).trans rfl; have hfzq11_1 := blk_frozen BK_gb2.out 1; have hczq11_2 : wc.cell? ⟨gb2, 2, none⟩ = some (.int .i64 a2) := (blk_cell BK_gb2.out 2).trans rfl; have hfzq11_2 := blk_frozen BK_gb2.out 2; have hczq11_3 : wc.cell? ⟨gb2, 3, none⟩ = some (.slice A0 l.length c0) := (blk_cell BK_gb2.out 3).trans rfl; have hfzq11_3 := blk_frozen BK_gb2.out 3; have hczq11_4 : wc.cell? ⟨gb2, 4, none⟩ = some (.int .i64 a4) := (blk_cell BK_gb2.out 4).trans rfl; have hfzq11_4 := blk_frozen BK_gb2.out 4; have hczq11_5 : wc.cell? ⟨gb2, 5, none⟩ = some (.int .i64 a5) := (blk_cell BK_gb2.out 5).trans rfl; have hfzq11_5 := blk_frozen BK_gb2.out 5; have hczq11_6 : wc.cell? ⟨gb2, 6, none⟩ = some (.int .i64 a6) := (blk_cell BK_gb2.out 6).trans rfl; have hfzq11_6 := blk_frozen BK_gb2.out 6
    have hczq12_0 : wc.cell? ⟨gb3, 0, none⟩ = some (.slice A1 al.length c1) := (blk_cell BK_gb3.out 0).trans rfl; have hfzq12_0 := blk_frozen BK_gb3.out 0; have hczq12_1 : wc.cell? ⟨gb3, 1, none⟩ = some (.int .i64 code) := (blk_cell BK_gb3.out 1).trans rfl; have hfzq12_1 := blk_frozen BK_gb3.out 1
    have hnq13 := NB_gb2_gb3.out; have hmq13 := NB_gb3_gb2.out
    obtain ⟨adq, eadq, hxq⟩ := Kd.at_int (Kd.C_below HV_q.out (by repeat (first | (with_reducible first | exact HB_q.out | apply below_alloc | apply pw_below_drewN | apply below_drew1) | exact HB_q.out))) 0 (by omega) (by have := hq.out; omega)
    cases eadq
    rw [show ((0 : Int)).toNat = 0 from rfl, Addr.add_zero', hq0.out] at hxq
    have HXQ := Aside0.mk hxq
    clear hxq
    have hlq : (0 : Int) < (q.length : Int) := (by have := hq.out; omega)
    have hlb : decide ((0 : Int) < (q.length : Int)) = true := decide_eq_true hlq
    have hlt : (0 < q.length) = True := eq_true hq.out
    have hnq : ((q.length : Int) != (q.length : Int)) = false := by simp
    have hff : (wrap64 fn != fn) = false := by (rw [wrap64_id fn (by omega) (by omega)]; simp)
    have hfe : (wrap64 fn == fn) = true := by (rw [wrap64_id fn (by omega) (by omega)]; simp)
    go_wp2_with (fail)
    refine start_ (n := 13) (S := fun W => W.cell? adq = some (.int .u8 fn) ∧ W.cell? ⟨gb2, 0, none⟩ = some (.int .i64 fn)) (ds := []) #[false, false, false, false, false, false, false, false, false, false, false, false, false] (by kernel_rfl) rfl rfl ?_ (fun hHeld => ?_)
    · exact ⟨HXQ.out, (blk_cell (by (with_reducible repeat (first | refine blk_drewN ?_ _ | refine blk_drew ?_ | refine blk_alloc ?_ _)); exact BK_gb2.out) 0).trans rfl⟩
    refine pure_ (i := 0) (N := some 57) (v := ?_) (a' := ?_) #[true, false, false, false, false, false, false, false, false, false, false, false, false] rfl rfl (by kernel_rfl) (fun _ _ _ h => h) (Or.inl ⟨by rfl, ?_⟩) ?_ ?_
    rotate_left
    · intro w'
      go_simp
      with_reducible rfl
    rotate_left
    · simp only [Act.put, List.setIfInBounds_toArray, List.set_cons_zero, List.set_cons_succ, i64_w, i32_w]
      rfl
    refine pure_ (i := 1) (N := some 58) (v := ?_) (a' := ?_) #[true, true, false, false, false, false, false, false, false, false, false, false, false] rfl rfl (by kernel_rfl) (fun _ _ _ h => h) (Or.inl ⟨by rfl, ?_⟩) ?_ ?_
    rotate_left
    · intro w'
      go_simp
      with_reducible rfl
    rotate_left
    · simp only [Act.put, List.setIfInBounds_toArray, List.set_cons_zero, List.set_cons_succ, i64_w, i32_w]
      rfl
    refine pure_ (i := 2) (N := some 59) (v := ?_) (a' := ?_) #[true, true, true, false, false, false, false, false, false, false, false, false, false] rfl rfl (by kernel_rfl) (fun _ _ _ h => h) (Or.inl ⟨by rfl, ?_⟩) ?_ ?_
    rotate_left
    · intro w'
      go_simp
      with_reducible rfl
    rotate_left
    · simp only [Act.put, List.setIfInBounds_toArray, List.set_cons_zero, List.set_cons_succ, i64_w, i32_w]
      rfl
    refine pure_ (i := 3) (N := some 60) (v := ?_) (a' := ?_) #[true, true, true, true, false, false, false, false, false, false, false, false, false] rfl rfl (by kernel_rfl) (fun _ _ _ h => h) (Or.inl ⟨by rfl, ?_⟩) ?_ ?_
    rotate_left
    · intro w'
      go_simp
      with_reducible rfl
    rotate_left
    · simp only [Act.put, List.setIfInBounds_toArray, List.set_cons_zero, List.set_cons_succ, i64_w, i32_w]
      rfl
    refine pure_ (i := 4) (N := some 61) (v := ?_) (a' := ?_) #[true, true, true, true, true, false, false, false, false, false, false, false, false] rfl rfl (by kernel_rfl) (fun _ _ _ h => h) (Or.inl ⟨by rfl, ?_⟩) ?_ ?_
    rotate_left
    · intro w'
      go_simp
      with_reducible rfl
    rotate_left
    · simp only [Act.put, List.setIfInBounds_toArray, List.set_cons_zero, List.set_cons_succ, i64_w, i32_w]
      rfl
    refine pure_ (i := 5) (N := some 62) (v := ?_) (a' := ?_) #[true, true, true, true, true, true, false, false, false, false, false, false, false] rfl rfl (by kernel_rfl) (fun _ _ _ h => h) (Or.inl ⟨by rfl, ?_⟩) ?_ ?_
    rotate_left
    · intro w'
      go_simp
      with_reducible rfl
    rotate_left
    · simp only [Act.put, List.setIfInBounds_toArray, List.set_cons_zero, List.set_cons_succ, i64_w, i32_w]
      rfl
    refine take_ (i := 6) (N := some 63) (v := ?_) (a' := ?_) #[true, true, true, true, true, true, true, false, false, false, false, false, false] rfl rfl (by kernel_rfl) (fun _ _ _ h => h) (Or.inl ⟨by rfl, ?_⟩) hHeld ?_ ?_
    rotate_left
    · rintro w' ⟨s0, s1⟩
      go_simp
      with_reducible rfl
    rotate_left
    · simp only [Act.put, List.setIfInBounds_toArray, List.set_cons_zero, List.set_cons_succ, i64_w, i32_w]
      rfl
    refine take_ (i := 7) (N := some 64) (v := ?_) (a' := ?_) #[true, true, true, true, true, true, true, true, false, false, false, false, false] rfl rfl (by kernel_rfl) (fun _ _ _ h => h) (Or.inl ⟨by rfl, ?_⟩) hHeld ?_ ?_
    rotate_left
    · rintro w' ⟨s0, s1⟩
      go_simp
      with_reducible rfl
    rotate_left
    · simp only [Act.put, List.setIfInBounds_toArray, List.set_cons_zero, List.set_cons_succ, i64_w, i32_w]
      rfl
    refine take_ (i := 8) (N := some 65) (v := ?_) (a' := ?_) #[true, true, true, true, true, true, true, true, true, false, false, false, false] rfl rfl (by kernel_rfl) (fun _ _ _ h => h) (Or.inl ⟨by rfl, ?_⟩) hHeld ?_ ?_
    rotate_left
    · rintro w' ⟨s0, s1⟩
      go_simp
      with_reducible rfl
    rotate_left
    · simp only [Act.put, List.setIfInBounds_toArray, List.set_cons_zero, List.set_cons_succ, i64_w, i32_w]
      rfl
    refine pure_ (i := 9) (N := some 66) (v := ?_) (a' := ?_) #[true, true, true, true, true, true, true, true, true, true, false, false, false] rfl rfl (by kernel_rfl) (fun _ _ _ h => h) (Or.inl ⟨by rfl, ?_⟩) ?_ ?_
    rotate_left
    · intro w'
      go_simp
      with_reducible rfl
    rotate_left
    · simp only [Act.put, List.setIfInBounds_toArray, List.set_cons_zero, List.set_cons_succ, i64_w, i32_w]
      rfl
    refine take_ (i := 10) (N := some 67) (v := ?_) (a' := ?_) #[true, true, true, true, true, true, true, true, true, true, true, false, false] rfl rfl (by kernel_rfl) (fun _ _ _ h => h) (Or.inl ⟨by rfl, ?_⟩) hHeld ?_ ?_
    rotate_left
    · rintro w' ⟨s0, s1⟩
      go_simp
      with_reducible rfl
    rotate_left
    · simp only [Act.put, List.setIfInBounds_toArray, List.set_cons_zero, List.set_cons_succ, i64_w, i32_w]
      rfl
    refine pure_ (i := 11) (N := some 68) (v := ?_) (a' := ?_) #[true, true, true, true, true, true, true, true, true, true, true, true, false] rfl rfl (by kernel_rfl) (fun _ _ _ h => h) (Or.inl ⟨by rfl, ?_⟩) ?_ ?_
    rotate_left
    · intro w'
      go_simp
      with_reducible rfl
    rotate_left
    · simp only [Act.put, List.setIfInBounds_toArray, List.set_cons_zero, List.set_cons_succ, i64_w, i32_w]
      rfl
    refine pure_ (i := 12) (N := some 69) (v := ?_) (a' := ?_) #[true, true, true, true, true, true, true, true, true, true, true, true, true] rfl rfl (by kernel_rfl) (fun _ _ _ h => h) (Or.inl ⟨by rfl, ?_⟩) ?_ ?_
    rotate_left
    · intro w'
      go_simp
      with_reducible rfl
    rotate_left
    · simp only [Act.put, List.setIfInBounds_toArray, List.set_cons_zero, List.set_cons_succ, i64_w, i32_w]
      rfl
    refine done_ (by kernel_rfl) ?_
    go_wp2_with (first | (go_at_call 36; refine (pdu_AnswerBytes.calls K fn a1 a2 A0 c0 l a4 a5 a6 A1 c1 al code [] 1 _ (Kd.C_below HV_l.out (by repeat (first | (with_reducible first | exact HB0.out | apply below_alloc | apply pw_below_drewN | apply below_drew1 | refine below_set ?_ GE0_gb2.out | refine below_set ?_ GE0_gb3.out) | exact HB0.out))) HC_l.out (Kd.C_below HV_al.out (by repeat (first | (with_reducible first | exact HB0.out | apply below_alloc | apply pw_below_drewN | apply below_drew1 | refine below_set ?_ GE0_gb2.out | refine below_set ?_ GE0_gb3.out) | exact HB0.out))) HC_al.out fab.out).mono ?_; rintro e w20 ⟨v, rfl, HR_z, HBc⟩; have BKn_gb2 : Aside0 (w20.heap[gb2]? = some (.cells #[.int .i64 fn, .int .i64 a1, .int .i64 a2, .slice A0 l.length c0, .int .i64 a4, .int .i64 a5, .int .i64 a6] 24 (0, 0))) := Aside0.mk (blk_below (g := gb2) (by (with_reducible repeat (first | refine blk_drewN ?_ _ | refine blk_drew ?_ | refine blk_alloc ?_ _)); exact BK_gb2.out) HBc); have BKn_gb3 : Aside0 (w20.heap[gb3]? = some (.cells #[.slice A1 al.length c1, .int .i64 code] 30 (0, 0))) := Aside0.mk (blk_below (g := gb3) (by (with_reducible repeat (first | refine blk_drewN ?_ _ | refine blk_drew ?_ | refine blk_alloc ?_ _)); exact BK_gb3.out) HBc); have HB0n := Aside0.mk (below_step (by repeat (first | (with_reducible first | exact HB0.out | apply below_alloc | apply pw_below_drewN | apply below_drew1 | refine below_set ?_ GE0_gb2.out | refine below_set ?_ GE0_gb3.out) | exact HB0.out)) HBc); have HB_qn := Aside0.mk (below_step (by repeat (first | (with_reducible first | exact HB_q.out | apply below_alloc | apply pw_below_drewN | apply below_drew1) | exact HB_q.out)) HBc); clear HBc BK_gb2 BK_gb3 HB0 HB_q hczq11_0 hfzq11_0 hczq11_1 hfzq11_1 hczq11_2 hfzq11_2 hczq11_3 hfzq11_3 hczq11_4 hfzq11_4 hczq11_5 hfzq11_5 hczq11_6 hfzq11_6 hczq12_0 hfzq12_0 hczq12_1 hfzq12_1 hnq13 hmq13; have BK_gb2 := BKn_gb2; have BK_gb3 := BKn_gb3; have HB0 := HB0n; have HB_q := HB_qn; clear BKn_gb2 BKn_gb3 HB0n HB_qn; have HB_z := Aside0.mk (Below.refl w20.heap.size w20); obtain ⟨A_z, c_z, rfl⟩ := Kd.R_slice HR_z; have HV_z := Aside0.mk (Kd.R_reads' HR_z).2.2; have HC_z := Aside0.mk (Kd.R_reads' HR_z).2.1; clear HR_z; have hczq14_0 : w20.cell? ⟨gb2, 0, none⟩ = some (.int .i64 fn) := (blk_cell BK_gb2.out 0).trans rfl; have hfzq14_0 := blk_frozen BK_gb2.out 0; have hczq14_1 : w20.cell? ⟨gb2, 1, none⟩ = some (.int .i64 a1) := (blk_cell BK_gb2.out 1).trans rfl; have hfzq14_1 := blk_frozen BK_gb2.out 1; have hczq14_2 : w20.cell? ⟨gb2, 2, none⟩ = some (.int .i64 a2) := (blk_cell BK_gb2.out 2).trans rfl; have hfzq14_2 := blk_frozen BK_gb2.out 2; have hczq14_3 : w20.cell? ⟨gb2, 3, none⟩ = some (.slice A0 l.length c0) := (blk_cell BK_gb2.out 3).trans rfl; have hfzq14_3 := blk_frozen BK_gb2.out 3; have hczq14_4 : w20.cell? ⟨gb2, 4, none⟩ = some (.int .i64 a4) := (blk_cell BK_gb2.out 4).trans rfl; have hfzq14_4 := blk_frozen BK_gb2.out 4; have hczq14_5 : w20.cell? ⟨gb2, 5, none⟩ = some (.int .i64 a5) := (blk_cell BK_gb2.out 5).trans rfl; have hfzq14_5 := blk_frozen BK_gb2.out 5; have hczq14_6 : w20.cell? ⟨gb2, 6, none⟩ = some (.int .i64 a6) := (blk_cell BK_gb2.out 6).trans rfl; have hfzq14_6 := blk_frozen BK_gb2.out 6; have hczq15_0 : w20.cell? ⟨gb3, 0, none⟩ = some (.slice A1 al.length c1) := (blk_cell BK_gb3.out 0).trans rfl; have hfzq15_0 := blk_frozen BK_gb3.out 0; have hczq15_1 : w20.cell? ⟨gb3, 1, none⟩ = some (.int .i64 code) := (blk_cell BK_gb3.out 1).trans rfl; have hfzq15_1 := blk_frozen BK_gb3.out 1; have hnq16 := NB_gb2_gb3.out; have hmq16 := NB_gb3_gb2.out) | (go_at_call 32; refine (awake_true _).mono ?_; rintro e w21 ⟨rfl, HBc⟩; have BKn_gb2 : Aside0 (w21.heap[gb2]? = some (.cells #[.int .i64 fn, .int .i64 a1, .int .i64 a2, .slice A0 l.length c0, .int .i64 a4, .int .i64 a5, .int .i64 a6] 24 (0, 0))) := Aside0.mk (blk_below (g := gb2) (by (with_reducible repeat (first | refine blk_drewN ?_ _ | refine blk_drew ?_ | refine blk_alloc ?_ _)); exact BK_gb2.out) HBc); have BKn_gb3 : Aside0 (w21.heap[gb3]? = some (.cells #[.slice A1 al.length c1, .int .i64 code] 30 (0, 0))) := Aside0.mk (blk_below (g := gb3) (by (with_reducible repeat (first | refine blk_drewN ?_ _ | refine blk_drew ?_ | refine blk_alloc ?_ _)); exact BK_gb3.out) HBc); have HB0n := Aside0.mk (below_step (by repeat (first | (with_reducible first | exact HB0.out | apply below_alloc | apply pw_below_drewN | apply below_drew1 | refine below_set ?_ GE0_gb2.out | refine below_set ?_ GE0_gb3.out) | exact HB0.out)) HBc); have HB_qn := Aside0.mk (below_step (by repeat (first | (with_reducible first | exact HB_q.out | apply below_alloc | apply pw_below_drewN | apply below_drew1) | exact HB_q.out)) HBc); have HB_zn := Aside0.mk (below_step (by repeat (first | (with_reducible first | exact HB_z.out | apply below_alloc | apply pw_below_drewN | apply below_drew1) | exact HB_z.out)) HBc); clear HBc BK_gb2 BK_gb3 HB0 HB_q HB_z hczq14_0 hfzq14_0 hczq14_1 hfzq14_1 hczq14_2 hfzq14_2 hczq14_3 hfzq14_3 hczq14_4 hfzq14_4 hczq14_5 hfzq14_5 hczq14_6 hfzq14_6 hczq15_0 hfzq15_0 hczq15_1 hfzq15_1 hnq16 hmq16; have BK_gb2 := BKn_gb2; have BK_gb3 := BKn_gb3; have HB0 := HB0n; have HB_q := HB_qn; have HB_z := HB_zn; clear BKn_gb2 BKn_gb3 HB0n HB_qn HB_zn; have hczq17_0 : w21.cell? ⟨gb2, 0, none⟩ = some (.int .i64 fn) := (blk_cell BK_gb2.out 0).trans rfl; have hfzq17_0 := blk_frozen BK_gb2.out 0; have hczq17_1 : w21.cell? ⟨gb2, 1, none⟩ = some (.int .i64 a1) := (blk_cell BK_gb2.out 1).trans rfl; have hfzq17_1 := blk_frozen BK_gb2.out 1; have hczq17_2 : w21.cell? ⟨gb2, 2, none⟩ = some (.int .i64 a2) := (blk_cell BK_gb2.out 2).trans rfl; have hfzq17_2 := blk_frozen BK_gb2.out 2; have hczq17_3 : w21.cell? ⟨gb2, 3, none⟩ = some (.slice A0 l.length c0) := (blk_cell BK_gb2.out 3).trans rfl; have hfzq17_3 := blk_frozen BK_gb2.out 3; have hczq17_4 : w21.cell? ⟨gb2, 4, none⟩ = some (.int .i64 a4) := (blk_cell BK_gb2.out 4).trans rfl; have hfzq17_4 := blk_frozen BK_gb2.out 4; have hczq17_5 : w21.cell? ⟨gb2, 5, none⟩ = some (.int .i64 a5) := (blk_cell BK_gb2.out 5).trans rfl; have hfzq17_5 := blk_frozen BK_gb2.out 5; have hczq17_6 : w21.cell? ⟨gb2, 6, none⟩ = some (.int .i64 a6) := (blk_cell BK_gb2.out 6).trans rfl; have hfzq17_6 := blk_frozen BK_gb2.out 6; have hczq18_0 : w21.cell? ⟨gb3, 0, none⟩ = some (.slice A1 al.length c1) := (blk_cell BK_gb3.out 0).trans rfl; have hfzq18_0 := blk_frozen BK_gb3.out 0; have hczq18_1 : w21.cell? ⟨gb3, 1, none⟩ = some (.int .i64 code) := (blk_cell BK_gb3.out 1).trans rfl; have hfzq18_1 := blk_frozen BK_gb3.out 1; have hnq19 := NB_gb2_gb3.out; have hmq19 := NB_gb3_gb2.out))
    go_ret
    exact ⟨rfl, (by repeat (first | (with_reducible first | exact HB0.out | apply below_alloc | apply pw_below_drewN | apply below_drew1 | refine below_set ?_ GE0_gb2.out | refine below_set ?_ GE0_gb3.out) | exact HB0.out))⟩

set_option maxHeartbeats 8000000 in
set_option maxRecDepth 100000 in
theorem sizes_code (K : Nat) (q z : List Int) (fn a1 a2 : Int) (A0 : Option Addr) (c0 : Nat) (l : List Int) (a4 a5 a6 : Int) (A1 : Option Addr) (c1 : Nat) (al : List Int) (code : Int) (w : World) (HV_l : Aside0 (Kd.C (Kd.int .i64) w A0 l.length l)) (HC_l : Aside0 (l.length ≤ c0)) (HV_al : Aside0 (Kd.C (Kd.int .i64) w A1 al.length al)) (HC_al : Aside0 (al.length ≤ c1)) (fsm : Aside0 (PR.basculelaw03_small.f fn a1 a2 l a4 a5 a6 = some true)) (h2 : decide ((2100 : Int) < (al.length : Int)) = false) (fby : Aside0 (pdu_Bytes.f K fn a1 a2 l a4 a5 a6 = some (q, 0))) (hl0 : (l.length : Int) ≤ 2100) (hq : Aside0 (0 < q.length)) (hq0 : Aside0 (rd q 0 = fn)) (hfn0 : 0 ≤ fn) (hfn1 : fn < 128) (HQL : Aside0 (q.length = if fn = 15 then 6 + (l.length + 7) / 8 else if fn = 16 then 6 + 2 * l.length else if fn = 22 then 7 else if fn = 23 then 10 + 2 * l.length else 5)) (fab : Aside0 (pdu_AnswerBytes.f K fn a1 a2 l a4 a5 a6 al code = some (z, 0))) (hzl : Aside0 (z.length = 2)) (hz0 : Aside0 (rd z 0 = fn + 128)) (hz1 : Aside0 (rd z 1 = code)) (hcd0 : 0 ≤ code) (hcd1 : code < 256) (hce : (code == 0) = false) (hcn : (code != 0) = true) : Calls Try.prog 13 #[.agg #[.int .i64 fn, .int .i64 a1, .int .i64 a2, .slice A0 l.length c0, .int .i64 a4, .int .i64 a5, .int .i64 a6], .agg #[.slice A1 al.length c1, .int .i64 code]] w fun e w' => e = .returned (.bool true) ∧ Below w.heap.size w w' := by
  have hu24 := Try.underlying24
  have hu30 := Try.underlying30
  have HB0 := Aside0.mk (Below.refl w.heap.size w)
  go_enter Try.func13, Try.ntmps13
  go_upto_block 0 with (first | ((with_reducible refine gate_dst (N := 2) rfl ?_); refine box_event ?hg (N := 2) ?hd (cs := #[.int .i64 fn, .int .i64 a1, .int .i64 a2, .slice A0 l.length c0, .int .i64 a4, .int .i64 a5, .int .i64 a6]) (t := 24) ?hr ?_; (case hd => rfl); (case hg => rfl); (case hr => first | (go_simp; done) | (go_simp; rfl)); intro gb2 hg w1 hbox HBc; have GE0_gb2 : Aside0 (w.heap.size ≤ gb2) := Aside0.mk (by rw [hg]; exact (below_size (by repeat (first | (with_reducible first | exact HB0.out | apply below_alloc | apply pw_below_drewN | apply below_drew1) | exact HB0.out)))); clear hg; have HB0n := Aside0.mk (below_step (by repeat (first | (with_reducible first | exact HB0.out | apply below_alloc | apply pw_below_drewN | apply below_drew1 | refine below_set ?_ GE0_gb2.out) | exact HB0.out)) HBc); clear HBc HB0; have HB0 := HB0n; clear HB0n; have BK_gb2 := Aside0.mk hbox; clear hbox; have hczq1_0 : w1.cell? ⟨gb2, 0, none⟩ = some (.int .i64 fn) := (blk_cell BK_gb2.out 0).trans rfl; have hfzq1_0 := blk_frozen BK_gb2.out 0; have hczq1_1 : w1.cell? ⟨gb2, 1, none⟩ = some (.int .i64 a1) := (blk_cell BK_gb2.out 1).trans rfl; have hfzq1_1 := blk_frozen BK_gb2.out 1; have hczq1_2 : w1.cell? ⟨gb2, 2, none⟩ = some (.int .i64 a2) := (blk_cell BK_gb2.out 2).trans rfl; have hfzq1_2 := blk_frozen BK_gb2.out 2; have hczq1_3 : w1.cell? ⟨gb2, 3, none⟩ = some (.slice A0 l.length c0) := (blk_cell BK_gb2.out 3).trans rfl; have hfzq1_3 := blk_frozen BK_gb2.out 3; have hczq1_4 : w1.cell? ⟨gb2, 4, none⟩ = some (.int .i64 a4) := (blk_cell BK_gb2.out 4).trans rfl; have hfzq1_4 := blk_frozen BK_gb2.out 4; have hczq1_5 : w1.cell? ⟨gb2, 5, none⟩ = some (.int .i64 a5) := (blk_cell BK_gb2.out 5).trans rfl; have hfzq1_5 := blk_frozen BK_gb2.out 5; have hczq1_6 : w1.cell? ⟨gb2, 6, none⟩ = some (.int .i64 a6) := (blk_cell BK_gb2.out 6).trans rfl; have hfzq1_6 := blk_frozen BK_gb2.out 6) | ((with_reducible refine gate_dst (N := 3) rfl ?_); refine box_event ?hg (N := 3) ?hd (cs := #[.slice A1 al.length c1, .int .i64 code]) (t := 30) ?hr ?_; (case hd => rfl); (case hg => rfl); (case hr => first | (go_simp; done) | (go_simp; rfl)); intro gb3 hg w2 hbox HBc; have GE0_gb3 : Aside0 (w.heap.size ≤ gb3) := Aside0.mk (by rw [hg]; exact (below_size (by repeat (first | (with_reducible first | exact HB0.out | apply below_alloc | apply pw_below_drewN | apply below_drew1 | refine below_set ?_ GE0_gb2.out) | exact HB0.out)))); have NB_gb2_gb3 : Aside0 (gb2 ≠ gb3) := Aside0.mk (ne_new (by (with_reducible repeat (first | refine blk_drewN ?_ _ | refine blk_drew ?_ | refine blk_alloc ?_ _)); exact BK_gb2.out) hg); have NB_gb3_gb2 : Aside0 (gb3 ≠ gb2) := Aside0.mk (fun e => NB_gb2_gb3.out e.symm); clear hg; have BKn_gb2 : Aside0 (w2.heap[gb2]? = some (.cells #[.int .i64 fn, .int .i64 a1, .int .i64 a2, .slice A0 l.length c0, .int .i64 a4, .int .i64 a5, .int .i64 a6] 24 (0, 0))) := Aside0.mk (blk_below (g := gb2) (by (with_reducible repeat (first | refine blk_drewN ?_ _ | refine blk_drew ?_ | refine blk_alloc ?_ _)); exact BK_gb2.out) HBc); have HB0n := Aside0.mk (below_step (by repeat (first | (with_reducible first | exact HB0.out | apply below_alloc | apply pw_below_drewN | apply below_drew1 | refine below_set ?_ GE0_gb2.out | refine below_set ?_ GE0_gb3.out) | exact HB0.out)) HBc); clear HBc BK_gb2 HB0 hczq1_0 hfzq1_0 hczq1_1 hfzq1_1 hczq1_2 hfzq1_2 hczq1_3 hfzq1_3 hczq1_4 hfzq1_4 hczq1_5 hfzq1_5 hczq1_6 hfzq1_6; have BK_gb2 := BKn_gb2; have HB0 := HB0n; clear BKn_gb2 HB0n; have BK_gb3 := Aside0.mk hbox; clear hbox; have hczq2_0 : w2.cell? ⟨gb2, 0, none⟩ = some (.int .i64 fn) := (blk_cell BK_gb2.out 0).trans rfl; have hfzq2_0 := blk_frozen BK_gb2.out 0; have hczq2_1 : w2.cell? ⟨gb2, 1, none⟩ = some (.int .i64 a1) := (blk_cell BK_gb2.out 1).trans rfl; have hfzq2_1 := blk_frozen BK_gb2.out 1; have hczq2_2 : w2.cell? ⟨gb2, 2, none⟩ = some (.int .i64 a2) := (blk_cell BK_gb2.out 2).trans rfl; have hfzq2_2 := blk_frozen BK_gb2.out 2; have hczq2_3 : w2.cell? ⟨gb2, 3, none⟩ = some (.slice A0 l.length c0) := (blk_cell BK_gb2.out 3).trans rfl; have hfzq2_3 := blk_frozen BK_gb2.out 3; have hczq2_4 : w2.cell? ⟨gb2, 4, none⟩ = some (.int .i64 a4) := (blk_cell BK_gb2.out 4).trans rfl; have hfzq2_4 := blk_frozen BK_gb2.out 4; have hczq2_5 : w2.cell? ⟨gb2, 5, none⟩ = some (.int .i64 a5) := (blk_cell BK_gb2.out 5).trans rfl; have hfzq2_5 := blk_frozen BK_gb2.out 5; have hczq2_6 : w2.cell? ⟨gb2, 6, none⟩ = some (.int .i64 a6) := (blk_cell BK_gb2.out 6).trans rfl; have hfzq2_6 := blk_frozen BK_gb2.out 6; have hczq3_0 : w2.cell? ⟨gb3, 0, none⟩ = some (.slice A1 al.length c1) := (blk_cell BK_gb3.out 0).trans rfl; have hfzq3_0 := blk_frozen BK_gb3.out 0; have hczq3_1 : w2.cell? ⟨gb3, 1, none⟩ = some (.int .i64 code) := (blk_cell BK_gb3.out 1).trans rfl; have hfzq3_1 := blk_frozen BK_gb3.out 1; have hnq4 := NB_gb2_gb3.out; have hmq4 := NB_gb3_gb2.out) | (go_at_call 28; refine (PR.basculelaw03_small.calls fn a1 a2 A0 c0 l a4 a5 a6 true _ (Kd.C_below HV_l.out (by repeat (first | (with_reducible first | exact HB0.out | apply below_alloc | apply pw_below_drewN | apply below_drew1 | refine below_set ?_ GE0_gb2.out | refine below_set ?_ GE0_gb3.out) | exact HB0.out))) HC_l.out fsm.out).mono ?_; rintro e w3 ⟨rfl, HBc⟩; have BKn_gb2 : Aside0 (w3.heap[gb2]? = some (.cells #[.int .i64 fn, .int .i64 a1, .int .i64 a2, .slice A0 l.length c0, .int .i64 a4, .int .i64 a5, .int .i64 a6] 24 (0, 0))) := Aside0.mk (blk_below (g := gb2) (by (with_reducible repeat (first | refine blk_drewN ?_ _ | refine blk_drew ?_ | refine blk_alloc ?_ _)); exact BK_gb2.out) HBc); have BKn_gb3 : Aside0 (w3.heap[gb3]? = some (.cells #[.slice A1 al.length c1, .int .i64 code] 30 (0, 0))) := Aside0.mk (blk_below (g := gb3) (by (with_reducible repeat (first | refine blk_drewN ?_ _ | refine blk_drew ?_ | refine blk_alloc ?_ _)); exact BK_gb3.out) HBc); have HB0n := Aside0.mk (below_step (by repeat (first | (with_reducible first | exact HB0.out | apply below_alloc | apply pw_below_drewN | apply below_drew1 | refine below_set ?_ GE0_gb2.out | refine below_set ?_ GE0_gb3.out) | exact HB0.out)) HBc); clear HBc BK_gb2 BK_gb3 HB0 hczq2_0 hfzq2_0 hczq2_1 hfzq2_1 hczq2_2 hfzq2_2 hczq2_3 hfzq2_3 hczq2_4 hfzq2_4 hczq2_5 hfzq2_5 hczq2_6 hfzq2_6 hczq3_0 hfzq3_0 hczq3_1 hfzq3_1 hnq4 hmq4; have BK_gb2 := BKn_gb2; have BK_gb3 := BKn_gb3; have HB0 := HB0n; clear BKn_gb2 BKn_gb3 HB0n; have hczq5_0 : w3.cell? ⟨gb2, 0, none⟩ = some (.int .i64 fn) := (blk_cell BK_gb2.out 0).trans rfl; have hfzq5_0 := blk_frozen BK_gb2.out 0; have hczq5_1 : w3.cell? ⟨gb2, 1, none⟩ = some (.int .i64 a1) := (blk_cell BK_gb2.out 1).trans rfl; have hfzq5_1 := blk_frozen BK_gb2.out 1; have hczq5_2 : w3.cell? ⟨gb2, 2, none⟩ = some (.int .i64 a2) := (blk_cell BK_gb2.out 2).trans rfl; have hfzq5_2 := blk_frozen BK_gb2.out 2; have hczq5_3 : w3.cell? ⟨gb2, 3, none⟩ = some (.slice A0 l.length c0) := (blk_cell BK_gb2.out 3).trans rfl; have hfzq5_3 := blk_frozen BK_gb2.out 3; have hczq5_4 : w3.cell? ⟨gb2, 4, none⟩ = some (.int .i64 a4) := (blk_cell BK_gb2.out 4).trans rfl; have hfzq5_4 := blk_frozen BK_gb2.out 4; have hczq5_5 : w3.cell? ⟨gb2, 5, none⟩ = some (.int .i64 a5) := (blk_cell BK_gb2.out 5).trans rfl; have hfzq5_5 := blk_frozen BK_gb2.out 5; have hczq5_6 : w3.cell? ⟨gb2, 6, none⟩ = some (.int .i64 a6) := (blk_cell BK_gb2.out 6).trans rfl; have hfzq5_6 := blk_frozen BK_gb2.out 6; have hczq6_0 : w3.cell? ⟨gb3, 0, none⟩ = some (.slice A1 al.length c1) := (blk_cell BK_gb3.out 0).trans rfl; have hfzq6_0 := blk_frozen BK_gb3.out 0; have hczq6_1 : w3.cell? ⟨gb3, 1, none⟩ = some (.int .i64 code) := (blk_cell BK_gb3.out 1).trans rfl; have hfzq6_1 := blk_frozen BK_gb3.out 1; have hnq7 := NB_gb2_gb3.out; have hmq7 := NB_gb3_gb2.out) | (go_at_call 30; refine (pdu_Bytes.calls K fn a1 a2 A0 c0 l a4 a5 a6 q 0 _ (Kd.C_below HV_l.out (by repeat (first | (with_reducible first | exact HB0.out | apply below_alloc | apply pw_below_drewN | apply below_drew1 | refine below_set ?_ GE0_gb2.out | refine below_set ?_ GE0_gb3.out) | exact HB0.out))) HC_l.out fby.out).mono ?_; rintro e w4 ⟨v, rfl, HR_q, HBc⟩; have BKn_gb2 : Aside0 (w4.heap[gb2]? = some (.cells #[.int .i64 fn, .int .i64 a1, .int .i64 a2, .slice A0 l.length c0, .int .i64 a4, .int .i64 a5, .int .i64 a6] 24 (0, 0))) := Aside0.mk (blk_below (g := gb2) (by (with_reducible repeat (first | refine blk_drewN ?_ _ | refine blk_drew ?_ | refine blk_alloc ?_ _)); exact BK_gb2.out) HBc); have BKn_gb3 : Aside0 (w4.heap[gb3]? = some (.cells #[.slice A1 al.length c1, .int .i64 code] 30 (0, 0))) := Aside0.mk (blk_below (g := gb3) (by (with_reducible repeat (first | refine blk_drewN ?_ _ | refine blk_drew ?_ | refine blk_alloc ?_ _)); exact BK_gb3.out) HBc); have HB0n := Aside0.mk (below_step (by repeat (first | (with_reducible first | exact HB0.out | apply below_alloc | apply pw_below_drewN | apply below_drew1 | refine below_set ?_ GE0_gb2.out | refine below_set ?_ GE0_gb3.out) | exact HB0.out)) HBc); clear HBc BK_gb2 BK_gb3 HB0 hczq5_0 hfzq5_0 hczq5_1 hfzq5_1 hczq5_2 hfzq5_2 hczq5_3 hfzq5_3 hczq5_4 hfzq5_4 hczq5_5 hfzq5_5 hczq5_6 hfzq5_6 hczq6_0 hfzq6_0 hczq6_1 hfzq6_1 hnq7 hmq7; have BK_gb2 := BKn_gb2; have BK_gb3 := BKn_gb3; have HB0 := HB0n; clear BKn_gb2 BKn_gb3 HB0n; have HB_q := Aside0.mk (Below.refl w4.heap.size w4); obtain ⟨A_q, c_q, rfl⟩ := Kd.R_slice HR_q; have HV_q := Aside0.mk (Kd.R_reads' HR_q).2.2; have HC_q := Aside0.mk (Kd.R_reads' HR_q).2.1; clear HR_q; have hczq8_0 : w4.cell? ⟨gb2, 0, none⟩ = some (.int .i64 fn) := (blk_cell BK_gb2.out 0).trans rfl; have hfzq8_0 := blk_frozen BK_gb2.out 0; have hczq8_1 : w4.cell? ⟨gb2, 1, none⟩ = some (.int .i64 a1) := (blk_cell BK_gb2.out 1).trans rfl; have hfzq8_1 := blk_frozen BK_gb2.out 1; have hczq8_2 : w4.cell? ⟨gb2, 2, none⟩ = some (.int .i64 a2) := (blk_cell BK_gb2.out 2).trans rfl; have hfzq8_2 := blk_frozen BK_gb2.out 2; have hczq8_3 : w4.cell? ⟨gb2, 3, none⟩ = some (.slice A0 l.length c0) := (blk_cell BK_gb2.out 3).trans rfl; have hfzq8_3 := blk_frozen BK_gb2.out 3; have hczq8_4 : w4.cell? ⟨gb2, 4, none⟩ = some (.int .i64 a4) := (blk_cell BK_gb2.out 4).trans rfl; have hfzq8_4 := blk_frozen BK_gb2.out 4; have hczq8_5 : w4.cell? ⟨gb2, 5, none⟩ = some (.int .i64 a5) := (blk_cell BK_gb2.out 5).trans rfl; have hfzq8_5 := blk_frozen BK_gb2.out 5; have hczq8_6 : w4.cell? ⟨gb2, 6, none⟩ = some (.int .i64 a6) := (blk_cell BK_gb2.out 6).trans rfl; have hfzq8_6 := blk_frozen BK_gb2.out 6; have hczq9_0 : w4.cell? ⟨gb3, 0, none⟩ = some (.slice A1 al.length c1) := (blk_cell BK_gb3.out 0).trans rfl; have hfzq9_0 := blk_frozen BK_gb3.out 0; have hczq9_1 : w4.cell? ⟨gb3, 1, none⟩ = some (.int .i64 code) := (blk_cell BK_gb3.out 1).trans rfl; have hfzq9_1 := blk_frozen BK_gb3.out 1; have hnq10 := NB_gb2_gb3.out; have hmq10 := NB_gb3_gb2.out))
  go_cut [8] (fun v8 wc => v8 = .int .i64 (q.length : Int) ∧ Aside0 (wc.heap[gb2]? = some (.cells #[.int .i64 fn, .int .i64 a1, .int .i64 a2, .slice A0 l.length c0, .int .i64 a4, .int .i64 a5, .int .i64 a6] 24 (0, 0))) ∧ Aside0 (wc.heap[gb3]? = some (.cells #[.slice A1 al.length c1, .int .i64 code] 30 (0, 0))) ∧ Aside0 (Below w.heap.size w wc) ∧ Aside0 (Below w4.heap.size w4 wc))
  case first =>
    by_cases c15 : fn = 15
    · subst c15
      go_wp2_with (fail)
      go_meet
      case rel => exact ⟨congrArg (Value.int .i64) (by have h := HQL.out; simp at h; omega), ⟨by (with_reducible repeat (first | refine blk_drewN ?_ _ | refine blk_drew ?_ | refine blk_alloc ?_ _)); exact BK_gb2.out⟩, ⟨by (with_reducible repeat (first | refine blk_drewN ?_ _ | refine blk_drew ?_ | refine blk_alloc ?_ _)); exact BK_gb3.out⟩, ⟨by repeat (first | (with_reducible first | exact HB0.out | apply below_alloc | apply pw_below_drewN | apply below_drew1 | refine below_set ?_ GE0_gb2.out | refine below_set ?_ GE0_gb3.out) | exact HB0.out)⟩, ⟨by repeat (first | (with_reducible first | exact HB_q.out | apply below_alloc | apply pw_below_drewN | apply below_drew1) | exact HB_q.out)⟩⟩
    have hb15 : (fn == 15) = false := beq_eq_false_iff_ne.2 c15
    by_cases c16 : fn = 16
    · subst c16
      go_wp2_with (fail)
      go_meet
      case rel => exact ⟨congrArg (Value.int .i64) (by have h := HQL.out; simp at h; omega), ⟨by (with_reducible repeat (first | refine blk_drewN ?_ _ | refine blk_drew ?_ | refine blk_alloc ?_ _)); exact BK_gb2.out⟩, ⟨by (with_reducible repeat (first | refine blk_drewN ?_ _ | refine blk_drew ?_ | refine blk_alloc ?_ _)); exact BK_gb3.out⟩, ⟨by repeat (first | (with_reducible first | exact HB0.out | apply below_alloc | apply pw_below_drewN | apply below_drew1 | refine below_set ?_ GE0_gb2.out | refine below_set ?_ GE0_gb3.out) | exact HB0.out)⟩, ⟨by repeat (first | (with_reducible first | exact HB_q.out | apply below_alloc | apply pw_below_drewN | apply below_drew1) | exact HB_q.out)⟩⟩
    have hb16 : (fn == 16) = false := beq_eq_false_iff_ne.2 c16
    by_cases c22 : fn = 22
    · subst c22
      go_wp2_with (fail)
      go_meet
      case rel => exact ⟨congrArg (Value.int .i64) (by have h := HQL.out; simp at h; omega), ⟨by (with_reducible repeat (first | refine blk_drewN ?_ _ | refine blk_drew ?_ | refine blk_alloc ?_ _)); exact BK_gb2.out⟩, ⟨by (with_reducible repeat (first | refine blk_drewN ?_ _ | refine blk_drew ?_ | refine blk_alloc ?_ _)); exact BK_gb3.out⟩, ⟨by repeat (first | (with_reducible first | exact HB0.out | apply below_alloc | apply pw_below_drewN | apply below_drew1 | refine below_set ?_ GE0_gb2.out | refine below_set ?_ GE0_gb3.out) | exact HB0.out)⟩, ⟨by repeat (first | (with_reducible first | exact HB_q.out | apply below_alloc | apply pw_below_drewN | apply below_drew1) | exact HB_q.out)⟩⟩
    have hb22 : (fn == 22) = false := beq_eq_false_iff_ne.2 c22
    by_cases c23 : fn = 23
    · subst c23
      go_wp2_with (fail)
      go_meet
      case rel => exact ⟨congrArg (Value.int .i64) (by have h := HQL.out; simp at h; omega), ⟨by (with_reducible repeat (first | refine blk_drewN ?_ _ | refine blk_drew ?_ | refine blk_alloc ?_ _)); exact BK_gb2.out⟩, ⟨by (with_reducible repeat (first | refine blk_drewN ?_ _ | refine blk_drew ?_ | refine blk_alloc ?_ _)); exact BK_gb3.out⟩, ⟨by repeat (first | (with_reducible first | exact HB0.out | apply below_alloc | apply pw_below_drewN | apply below_drew1 | refine below_set ?_ GE0_gb2.out | refine below_set ?_ GE0_gb3.out) | exact HB0.out)⟩, ⟨by repeat (first | (with_reducible first | exact HB_q.out | apply below_alloc | apply pw_below_drewN | apply below_drew1) | exact HB_q.out)⟩⟩
    have hb23 : (fn == 23) = false := beq_eq_false_iff_ne.2 c23
    go_wp2_with (fail)
    go_meet
    case rel => exact ⟨congrArg (Value.int .i64) (by rw [HQL.out, if_neg c15, if_neg c16, if_neg c22, if_neg c23]; rfl), ⟨by (with_reducible repeat (first | refine blk_drewN ?_ _ | refine blk_drew ?_ | refine blk_alloc ?_ _)); exact BK_gb2.out⟩, ⟨by (with_reducible repeat (first | refine blk_drewN ?_ _ | refine blk_drew ?_ | refine blk_alloc ?_ _)); exact BK_gb3.out⟩, ⟨by repeat (first | (with_reducible first | exact HB0.out | apply below_alloc | apply pw_below_drewN | apply below_drew1 | refine below_set ?_ GE0_gb2.out | refine below_set ?_ GE0_gb3.out) | exact HB0.out)⟩, ⟨by repeat (first | (with_reducible first | exact HB_q.out | apply below_alloc | apply pw_below_drewN | apply below_drew1) | exact HB_q.out)⟩⟩
  case rest =>
    obtain ⟨rfl, BKn_gb2, BKn_gb3, HBn, HBqn⟩ := hcut
    clear BK_gb2 BK_gb3 HB0 HB_q hczq8_0 hfzq8_0 hczq8_1 hfzq8_1 hczq8_2 hfzq8_2 hczq8_3 hfzq8_3 hczq8_4 hfzq8_4 hczq8_5 hfzq8_5 hczq8_6 hfzq8_6 hczq9_0 hfzq9_0 hczq9_1 hfzq9_1 hnq10 hmq10 HQL
    have BK_gb2 := BKn_gb2
    have BK_gb3 := BKn_gb3
    have HB0 := HBn
    have HB_q := HBqn
    clear BKn_gb2 BKn_gb3 HBn HBqn
    have hczq11_0 : wc.cell? ⟨gb2, 0, none⟩ = some (.int .i64 fn) := (blk_cell BK_gb2.out 0).trans rfl; have hfzq11_0 := blk_frozen BK_gb2.out 0; have hczq11_1 : wc.cell? ⟨gb2, 1, none⟩ = some (.int .i64 a1) := (blk_cell BK_gb2.out 1).trans rfl; have hfzq11_1 := blk_frozen BK_gb2.out 1; have hczq11_2 : wc.cell? ⟨gb2, 2, none⟩ = some (.int .i64 a2) := (blk_cell BK_gb2.out 2).trans rfl; have hfzq11_2 := blk_frozen BK_gb2.out 2; have hczq11_3 : wc.cell? ⟨gb2, 3, none⟩ = some (.slice A0 l.length c0) := (blk_cell BK_gb2.out 3).trans rfl; have hfzq11_3 := blk_frozen BK_gb2.out 3; have hczq11_4 : wc.cell? ⟨gb2, 4, none⟩ = some (.int .i64 a4) := (blk_cell BK_gb2.out 4).trans rfl; have hfzq11_4 := blk_frozen BK_gb2.out 4; have hczq11_5 : wc.cell? ⟨gb2, 5, none⟩ = some (.int .i64 a5) := (blk_cell BK_gb2.out 5).trans rfl; have hfzq11_5 := blk_frozen BK_gb2.out 5; have hczq11_6 : wc.cell? ⟨gb2, 6, none⟩ = some (.int .i64 a6) := (blk_cell BK_gb2.out 6).trans rfl; have hfzq11_6 := blk_frozen BK_gb2.out 6
    have hczq12_0 : wc.cell? ⟨gb3, 0, none⟩ = some (.slice A1 al.length c1) := (blk_cell BK_gb3.out 0).trans rfl; have hfzq12_0 := blk_frozen BK_gb3.out 0; have hczq12_1 : wc.cell? ⟨gb3, 1, none⟩ = some (.int .i64 code) := (blk_cell BK_gb3.out 1).trans rfl; have hfzq12_1 := blk_frozen BK_gb3.out 1
    have hnq13 := NB_gb2_gb3.out; have hmq13 := NB_gb3_gb2.out
    obtain ⟨adq, eadq, hxq⟩ := Kd.at_int (Kd.C_below HV_q.out (by repeat (first | (with_reducible first | exact HB_q.out | apply below_alloc | apply pw_below_drewN | apply below_drew1) | exact HB_q.out))) 0 (by omega) (by have := hq.out; omega)
    cases eadq
    rw [show ((0 : Int)).toNat = 0 from rfl, Addr.add_zero', hq0.out] at hxq
    have HXQ := Aside0.mk hxq
    clear hxq
    have hlq : (0 : Int) < (q.length : Int) := (by have := hq.out; omega)
    have hlb : decide ((0 : Int) < (q.length : Int)) = true := decide_eq_true hlq
    have hlt : (0 < q.length) = True := eq_true hq.out
    have hnq : ((q.length : Int) != (q.length : Int)) = false := by simp
    have hff : (wrap64 fn != fn) = false := by (rw [wrap64_id fn (by omega) (by omega)]; simp)
    have hfe : (wrap64 fn == fn) = true := by (rw [wrap64_id fn (by omega) (by omega)]; simp)
    go_wp2_with (fail)
    refine start_ (n := 13) (S := fun W => W.cell? adq = some (.int .u8 fn) ∧ W.cell? ⟨gb2, 0, none⟩ = some (.int .i64 fn)) (ds := []) #[false, false, false, false, false, false, false, false, false, false, false, false, false] (by kernel_rfl) rfl rfl ?_ (fun hHeld => ?_)
    · exact ⟨HXQ.out, (blk_cell (by (with_reducible repeat (first | refine blk_drewN ?_ _ | refine blk_drew ?_ | refine blk_alloc ?_ _)); exact BK_gb2.out) 0).trans rfl⟩
    refine pure_ (i := 0) (N := some 57) (v := ?_) (a' := ?_) #[true, false, false, false, false, false, false, false, false, false, false, false, false] rfl rfl (by kernel_rfl) (fun _ _ _ h => h) (Or.inl ⟨by rfl, ?_⟩) ?_ ?_
    rotate_left
    · intro w'
      go_simp
      with_reducible rfl
    rotate_left
    · simp only [Act.put, List.setIfInBounds_toArray, List.set_cons_zero, List.set_cons_succ, i64_w, i32_w]
      rfl
    refine pure_ (i := 1) (N := some 58) (v := ?_) (a' := ?_) #[true, true, false, false, false, false, false, false, false, false, false, false, false] rfl rfl (by kernel_rfl) (fun _ _ _ h => h) (Or.inl ⟨by rfl, ?_⟩) ?_ ?_
    rotate_left
    · intro w'
      go_simp
      with_reducible rfl
    rotate_left
    · simp only [Act.put, List.setIfInBounds_toArray, List.set_cons_zero, List.set_cons_succ, i64_w, i32_w]
      rfl
    refine pure_ (i := 2) (N := some 59) (v := ?_) (a' := ?_) #[true, true, true, false, false, false, false, false, false, false, false, false, false] rfl rfl (by kernel_rfl) (fun _ _ _ h => h) (Or.inl ⟨by rfl, ?_⟩) ?_ ?_
    rotate_left
    · intro w'
      go_simp
      with_reducible rfl
    rotate_left
    · simp only [Act.put, List.setIfInBounds_toArray, List.set_cons_zero, List.set_cons_succ, i64_w, i32_w]
      rfl
    refine pure_ (i := 3) (N := some 60) (v := ?_) (a' := ?_) #[true, true, true, true, false, false, false, false, false, false, false, false, false] rfl rfl (by kernel_rfl) (fun _ _ _ h => h) (Or.inl ⟨by rfl, ?_⟩) ?_ ?_
    rotate_left
    · intro w'
      go_simp
      with_reducible rfl
    rotate_left
    · simp only [Act.put, List.setIfInBounds_toArray, List.set_cons_zero, List.set_cons_succ, i64_w, i32_w]
      rfl
    refine pure_ (i := 4) (N := some 61) (v := ?_) (a' := ?_) #[true, true, true, true, true, false, false, false, false, false, false, false, false] rfl rfl (by kernel_rfl) (fun _ _ _ h => h) (Or.inl ⟨by rfl, ?_⟩) ?_ ?_
    rotate_left
    · intro w'
      go_simp
      with_reducible rfl
    rotate_left
    · simp only [Act.put, List.setIfInBounds_toArray, List.set_cons_zero, List.set_cons_succ, i64_w, i32_w]
      rfl
    refine pure_ (i := 5) (N := some 62) (v := ?_) (a' := ?_) #[true, true, true, true, true, true, false, false, false, false, false, false, false] rfl rfl (by kernel_rfl) (fun _ _ _ h => h) (Or.inl ⟨by rfl, ?_⟩) ?_ ?_
    rotate_left
    · intro w'
      go_simp
      with_reducible rfl
    rotate_left
    · simp only [Act.put, List.setIfInBounds_toArray, List.set_cons_zero, List.set_cons_succ, i64_w, i32_w]
      rfl
    refine take_ (i := 6) (N := some 63) (v := ?_) (a' := ?_) #[true, true, true, true, true, true, true, false, false, false, false, false, false] rfl rfl (by kernel_rfl) (fun _ _ _ h => h) (Or.inl ⟨by rfl, ?_⟩) hHeld ?_ ?_
    rotate_left
    · rintro w' ⟨s0, s1⟩
      go_simp
      with_reducible rfl
    rotate_left
    · simp only [Act.put, List.setIfInBounds_toArray, List.set_cons_zero, List.set_cons_succ, i64_w, i32_w]
      rfl
    refine take_ (i := 7) (N := some 64) (v := ?_) (a' := ?_) #[true, true, true, true, true, true, true, true, false, false, false, false, false] rfl rfl (by kernel_rfl) (fun _ _ _ h => h) (Or.inl ⟨by rfl, ?_⟩) hHeld ?_ ?_
    rotate_left
    · rintro w' ⟨s0, s1⟩
      go_simp
      with_reducible rfl
    rotate_left
    · simp only [Act.put, List.setIfInBounds_toArray, List.set_cons_zero, List.set_cons_succ, i64_w, i32_w]
      rfl
    refine take_ (i := 8) (N := some 65) (v := ?_) (a' := ?_) #[true, true, true, true, true, true, true, true, true, false, false, false, false] rfl rfl (by kernel_rfl) (fun _ _ _ h => h) (Or.inl ⟨by rfl, ?_⟩) hHeld ?_ ?_
    rotate_left
    · rintro w' ⟨s0, s1⟩
      go_simp
      with_reducible rfl
    rotate_left
    · simp only [Act.put, List.setIfInBounds_toArray, List.set_cons_zero, List.set_cons_succ, i64_w, i32_w]
      rfl
    refine pure_ (i := 9) (N := some 66) (v := ?_) (a' := ?_) #[true, true, true, true, true, true, true, true, true, true, false, false, false] rfl rfl (by kernel_rfl) (fun _ _ _ h => h) (Or.inl ⟨by rfl, ?_⟩) ?_ ?_
    rotate_left
    · intro w'
      go_simp
      with_reducible rfl
    rotate_left
    · simp only [Act.put, List.setIfInBounds_toArray, List.set_cons_zero, List.set_cons_succ, i64_w, i32_w]
      rfl
    refine take_ (i := 10) (N := some 67) (v := ?_) (a' := ?_) #[true, true, true, true, true, true, true, true, true, true, true, false, false] rfl rfl (by kernel_rfl) (fun _ _ _ h => h) (Or.inl ⟨by rfl, ?_⟩) hHeld ?_ ?_
    rotate_left
    · rintro w' ⟨s0, s1⟩
      go_simp
      with_reducible rfl
    rotate_left
    · simp only [Act.put, List.setIfInBounds_toArray, List.set_cons_zero, List.set_cons_succ, i64_w, i32_w]
      rfl
    refine pure_ (i := 11) (N := some 68) (v := ?_) (a' := ?_) #[true, true, true, true, true, true, true, true, true, true, true, true, false] rfl rfl (by kernel_rfl) (fun _ _ _ h => h) (Or.inl ⟨by rfl, ?_⟩) ?_ ?_
    rotate_left
    · intro w'
      go_simp
      with_reducible rfl
    rotate_left
    · simp only [Act.put, List.setIfInBounds_toArray, List.set_cons_zero, List.set_cons_succ, i64_w, i32_w]
      rfl
    refine pure_ (i := 12) (N := some 69) (v := ?_) (a' := ?_) #[true, true, true, true, true, true, true, true, true, true, true, true, true] rfl rfl (by kernel_rfl) (fun _ _ _ h => h) (Or.inl ⟨by rfl, ?_⟩) ?_ ?_
    rotate_left
    · intro w'
      go_simp
      with_reducible rfl
    rotate_left
    · simp only [Act.put, List.setIfInBounds_toArray, List.set_cons_zero, List.set_cons_succ, i64_w, i32_w]
      rfl
    refine done_ (by kernel_rfl) ?_
    go_upto_region 23 with (first | (go_at_call 36; refine (pdu_AnswerBytes.calls K fn a1 a2 A0 c0 l a4 a5 a6 A1 c1 al code z 0 _ (Kd.C_below HV_l.out (by repeat (first | (with_reducible first | exact HB0.out | apply below_alloc | apply pw_below_drewN | apply below_drew1 | refine below_set ?_ GE0_gb2.out | refine below_set ?_ GE0_gb3.out) | exact HB0.out))) HC_l.out (Kd.C_below HV_al.out (by repeat (first | (with_reducible first | exact HB0.out | apply below_alloc | apply pw_below_drewN | apply below_drew1 | refine below_set ?_ GE0_gb2.out | refine below_set ?_ GE0_gb3.out) | exact HB0.out))) HC_al.out fab.out).mono ?_; rintro e w20 ⟨v, rfl, HR_z, HBc⟩; have BKn_gb2 : Aside0 (w20.heap[gb2]? = some (.cells #[.int .i64 fn, .int .i64 a1, .int .i64 a2, .slice A0 l.length c0, .int .i64 a4, .int .i64 a5, .int .i64 a6] 24 (0, 0))) := Aside0.mk (blk_below (g := gb2) (by (with_reducible repeat (first | refine blk_drewN ?_ _ | refine blk_drew ?_ | refine blk_alloc ?_ _)); exact BK_gb2.out) HBc); have BKn_gb3 : Aside0 (w20.heap[gb3]? = some (.cells #[.slice A1 al.length c1, .int .i64 code] 30 (0, 0))) := Aside0.mk (blk_below (g := gb3) (by (with_reducible repeat (first | refine blk_drewN ?_ _ | refine blk_drew ?_ | refine blk_alloc ?_ _)); exact BK_gb3.out) HBc); have HB0n := Aside0.mk (below_step (by repeat (first | (with_reducible first | exact HB0.out | apply below_alloc | apply pw_below_drewN | apply below_drew1 | refine below_set ?_ GE0_gb2.out | refine below_set ?_ GE0_gb3.out) | exact HB0.out)) HBc); have HB_qn := Aside0.mk (below_step (by repeat (first | (with_reducible first | exact HB_q.out | apply below_alloc | apply pw_below_drewN | apply below_drew1) | exact HB_q.out)) HBc); clear HBc BK_gb2 BK_gb3 HB0 HB_q hczq11_0 hfzq11_0 hczq11_1 hfzq11_1 hczq11_2 hfzq11_2 hczq11_3 hfzq11_3 hczq11_4 hfzq11_4 hczq11_5 hfzq11_5 hczq11_6 hfzq11_6 hczq12_0 hfzq12_0 hczq12_1 hfzq12_1 hnq13 hmq13; have BK_gb2 := BKn_gb2; have BK_gb3 := BKn_gb3; have HB0 := HB0n; have HB_q := HB_qn; clear BKn_gb2 BKn_gb3 HB0n HB_qn; have HB_z := Aside0.mk (Below.refl w20.heap.size w20); obtain ⟨A_z, c_z, rfl⟩ := Kd.R_slice HR_z; have HV_z := Aside0.mk (Kd.R_reads' HR_z).2.2; have HC_z := Aside0.mk (Kd.R_reads' HR_z).2.1; clear HR_z; have hczq14_0 : w20.cell? ⟨gb2, 0, none⟩ = some (.int .i64 fn) := (blk_cell BK_gb2.out 0).trans rfl; have hfzq14_0 := blk_frozen BK_gb2.out 0; have hczq14_1 : w20.cell? ⟨gb2, 1, none⟩ = some (.int .i64 a1) := (blk_cell BK_gb2.out 1).trans rfl; have hfzq14_1 := blk_frozen BK_gb2.out 1; have hczq14_2 : w20.cell? ⟨gb2, 2, none⟩ = some (.int .i64 a2) := (blk_cell BK_gb2.out 2).trans rfl; have hfzq14_2 := blk_frozen BK_gb2.out 2; have hczq14_3 : w20.cell? ⟨gb2, 3, none⟩ = some (.slice A0 l.length c0) := (blk_cell BK_gb2.out 3).trans rfl; have hfzq14_3 := blk_frozen BK_gb2.out 3; have hczq14_4 : w20.cell? ⟨gb2, 4, none⟩ = some (.int .i64 a4) := (blk_cell BK_gb2.out 4).trans rfl; have hfzq14_4 := blk_frozen BK_gb2.out 4; have hczq14_5 : w20.cell? ⟨gb2, 5, none⟩ = some (.int .i64 a5) := (blk_cell BK_gb2.out 5).trans rfl; have hfzq14_5 := blk_frozen BK_gb2.out 5; have hczq14_6 : w20.cell? ⟨gb2, 6, none⟩ = some (.int .i64 a6) := (blk_cell BK_gb2.out 6).trans rfl; have hfzq14_6 := blk_frozen BK_gb2.out 6; have hczq15_0 : w20.cell? ⟨gb3, 0, none⟩ = some (.slice A1 al.length c1) := (blk_cell BK_gb3.out 0).trans rfl; have hfzq15_0 := blk_frozen BK_gb3.out 0; have hczq15_1 : w20.cell? ⟨gb3, 1, none⟩ = some (.int .i64 code) := (blk_cell BK_gb3.out 1).trans rfl; have hfzq15_1 := blk_frozen BK_gb3.out 1; have hnq16 := NB_gb2_gb3.out; have hmq16 := NB_gb3_gb2.out))
    obtain ⟨adz, ead, hx⟩ := Kd.at_int HV_z.out 0 (by omega) (by have := hzl.out; omega)
    subst ead
    rw [show ((0 : Int)).toNat = 0 from rfl, Addr.add_zero', hz0.out] at hx
    have HXz_0 := Aside0.mk hx
    clear hx
    obtain ⟨ad2, ead, hx⟩ := Kd.at_int HV_z.out 1 (by omega) (by have := hzl.out; omega)
    obtain rfl := Option.some.inj ead
    rw [hz1.out] at hx; simp only [show (1 : Int).toNat = 1 from rfl, Nat.reduceMul, Nat.reduceEqDiff, Go.Addr.add, ↓reduceIte] at hx
    have HXz_1 := Aside0.mk hx
    clear hx
    have hzb : ((z.length : Int) == 2) = true := (by have := hzl.out; simp; omega)
    have hw1 : (wrap64 (fn + 128) == fn + 128) = true := by (rw [wrap64_id (fn + 128) (by omega) (by omega)]; simp)
    have hw2 : (wrap64 code == code) = true := by (rw [wrap64_id code (by omega) (by omega)]; simp)
    have hzp0 : (0 : Int) < (z.length : Int) := (by have := hzl.out; omega)
    have hzp1 : (1 : Int) < (z.length : Int) := (by have := hzl.out; omega)
    have hzq0 : (0 < z.length) = True := eq_true (by have := hzl.out; omega)
    have hzq1 : (1 < z.length) = True := eq_true (by have := hzl.out; omega)
    refine start_ (n := 26) (S := fun W => W.cell? adz = some (.int .u8 (fn + 128)) ∧ W.cell? ⟨adz.block, adz.off + 1, none⟩ = some (.int .u8 code) ∧ W.cell? ⟨gb2, 0, none⟩ = some (.int .i64 fn) ∧ W.cell? ⟨gb3, 1, none⟩ = some (.int .i64 code)) (ds := []) #[false, false, false, false, false, false, false, false, false, false, false, false, false, false, false, false, false, false, false, false, false, false, false, false, false, false] (by kernel_rfl) rfl rfl ?_ (fun hHeld => ?_)
    · exact ⟨cell_now (by repeat (first | (with_reducible first | exact HB_z.out | apply below_alloc | apply pw_below_drewN | apply below_drew1) | exact HB_z.out)) HXz_0.out, cell_now (by repeat (first | (with_reducible first | exact HB_z.out | apply below_alloc | apply pw_below_drewN | apply below_drew1) | exact HB_z.out)) HXz_1.out, (blk_cell (by (with_reducible repeat (first | refine blk_drewN ?_ _ | refine blk_drew ?_ | refine blk_alloc ?_ _)); exact BK_gb2.out) 0).trans rfl, (blk_cell (by (with_reducible repeat (first | refine blk_drewN ?_ _ | refine blk_drew ?_ | refine blk_alloc ?_ _)); exact BK_gb3.out) 1).trans rfl⟩
    refine one_ (i := 0) (N := some 87) #[true, false, false, false, false, false, false, false, false, false, false, false, false, false, false, false, false, false, false, false, false, false, false, false, false, false] rfl rfl (by kernel_rfl) (by decide) (fun K hK => ?_)
    refine goes_ Try.func32 (by kernel_rfl) rfl #[] (by rfl) rfl rfl (by (try simp only [List.map_toArray, List.map_cons, List.map_nil]); first | done | rfl) ?_
    refine (awake_true _).mono ?_
    rintro e w21 ⟨rfl, HBc⟩
    refine ⟨_, rfl, ?_⟩
    have BKn_gb2 : Aside0 (w21.heap[gb2]? = some (.cells #[.int .i64 fn, .int .i64 a1, .int .i64 a2, .slice A0 l.length c0, .int .i64 a4, .int .i64 a5, .int .i64 a6] 24 (0, 0))) := Aside0.mk (blk_below (g := gb2) (by (with_reducible repeat (first | refine blk_drewN ?_ _ | refine blk_drew ?_ | refine blk_alloc ?_ _)); exact BK_gb2.out) HBc)
    have BKn_gb3 : Aside0 (w21.heap[gb3]? = some (.cells #[.slice A1 al.length c1, .int .i64 code] 30 (0, 0))) := Aside0.mk (blk_below (g := gb3) (by (with_reducible repeat (first | refine blk_drewN ?_ _ | refine blk_drew ?_ | refine blk_alloc ?_ _)); exact BK_gb3.out) HBc)
    have HB0n := Aside0.mk (below_step (by repeat (first | (with_reducible first | exact HB0.out | apply below_alloc | apply pw_below_drewN | apply below_drew1 | refine below_set ?_ GE0_gb2.out | refine below_set ?_ GE0_gb3.out) | exact HB0.out)) HBc)
    have HB_qn := Aside0.mk (below_step (by repeat (first | (with_reducible first | exact HB_q.out | apply below_alloc | apply pw_below_drewN | apply below_drew1) | exact HB_q.out)) HBc)
    have HB_zn := Aside0.mk (below_step (by repeat (first | (with_reducible first | exact HB_z.out | apply below_alloc | apply pw_below_drewN | apply below_drew1) | exact HB_z.out)) HBc)
    clear HBc BK_gb2 BK_gb3 HB0 HB_q HB_z hczq14_0 hfzq14_0 hczq14_1 hfzq14_1 hczq14_2 hfzq14_2 hczq14_3 hfzq14_3 hczq14_4 hfzq14_4 hczq14_5 hfzq14_5 hczq14_6 hfzq14_6 hczq15_0 hfzq15_0 hczq15_1 hfzq15_1 hnq16 hmq16
    have BK_gb2 := BKn_gb2
    have BK_gb3 := BKn_gb3
    have HB0 := HB0n
    have HB_q := HB_qn
    have HB_z := HB_zn
    clear BKn_gb2 BKn_gb3 HB0n HB_qn HB_zn
    refine hK.out _ _ ?_ (fun hHeld => ?_)
    · exact ⟨cell_now (by repeat (first | (with_reducible first | exact HB_z.out | apply below_alloc | apply pw_below_drewN | apply below_drew1) | exact HB_z.out)) HXz_0.out, cell_now (by repeat (first | (with_reducible first | exact HB_z.out | apply below_alloc | apply pw_below_drewN | apply below_drew1) | exact HB_z.out)) HXz_1.out, (blk_cell (by (with_reducible repeat (first | refine blk_drewN ?_ _ | refine blk_drew ?_ | refine blk_alloc ?_ _)); exact BK_gb2.out) 0).trans rfl, (blk_cell (by (with_reducible repeat (first | refine blk_drewN ?_ _ | refine blk_drew ?_ | refine blk_alloc ?_ _)); exact BK_gb3.out) 1).trans rfl⟩
    clear hK K
    refine norm_ (a' := ?_) ?_ ?_
    rotate_left
    · show Act.put _ (some 87) _ = _
      simp only [Act.put, List.setIfInBounds_toArray, List.set_cons_zero, List.set_cons_succ, i64_w, i32_w]
      rfl
    refine pure_ (i := 1) (N := some 88) (v := ?_) (a' := ?_) #[true, true, false, false, false, false, false, false, false, false, false, false, false, false, false, false, false, false, false, false, false, false, false, false, false, false] rfl rfl (by kernel_rfl) (fun _ _ _ h => h) (Or.inl ⟨by rfl, ?_⟩) ?_ ?_
    rotate_left
    · intro w'
      go_simp
      with_reducible rfl
    rotate_left
    · simp only [Act.put, List.setIfInBounds_toArray, List.set_cons_zero, List.set_cons_succ, i64_w, i32_w]
      rfl
    refine pure_ (i := 2) (N := some 89) (v := ?_) (a' := ?_) #[true, true, true, false, false, false, false, false, false, false, false, false, false, false, false, false, false, false, false, false, false, false, false, false, false, false] rfl rfl (by kernel_rfl) (fun _ _ _ h => h) (Or.inl ⟨by rfl, ?_⟩) ?_ ?_
    rotate_left
    · intro w'
      go_simp
      with_reducible rfl
    rotate_left
    · simp only [Act.put, List.setIfInBounds_toArray, List.set_cons_zero, List.set_cons_succ, i64_w, i32_w]
      rfl
    refine pure_ (i := 3) (N := some 90) (v := ?_) (a' := ?_) #[true, true, true, true, false, false, false, false, false, false, false, false, false, false, false, false, false, false, false, false, false, false, false, false, false, false] rfl rfl (by kernel_rfl) (fun _ _ _ h => h) (Or.inl ⟨by rfl, ?_⟩) ?_ ?_
    rotate_left
    · intro w'
      go_simp
      with_reducible rfl
    rotate_left
    · simp only [Act.put, List.setIfInBounds_toArray, List.set_cons_zero, List.set_cons_succ, i64_w, i32_w]
      rfl
    refine pure_ (i := 4) (N := some 91) (v := ?_) (a' := ?_) #[true, true, true, true, true, false, false, false, false, false, false, false, false, false, false, false, false, false, false, false, false, false, false, false, false, false] rfl rfl (by kernel_rfl) (fun _ _ _ h => h) (Or.inl ⟨by rfl, ?_⟩) ?_ ?_
    rotate_left
    · intro w'
      go_simp
      with_reducible rfl
    rotate_left
    · simp only [Act.put, List.setIfInBounds_toArray, List.set_cons_zero, List.set_cons_succ, i64_w, i32_w]
      rfl
    refine pure_ (i := 5) (N := some 92) (v := ?_) (a' := ?_) #[true, true, true, true, true, true, false, false, false, false, false, false, false, false, false, false, false, false, false, false, false, false, false, false, false, false] rfl rfl (by kernel_rfl) (fun _ _ _ h => h) (Or.inl ⟨by rfl, ?_⟩) ?_ ?_
    rotate_left
    · intro w'
      go_simp
      with_reducible rfl
    rotate_left
    · simp only [Act.put, List.setIfInBounds_toArray, List.set_cons_zero, List.set_cons_succ, i64_w, i32_w]
      rfl
    refine pure_ (i := 6) (N := some 93) (v := ?_) (a' := ?_) #[true, true, true, true, true, true, true, false, false, false, false, false, false, false, false, false, false, false, false, false, false, false, false, false, false, false] rfl rfl (by kernel_rfl) (fun _ _ _ h => h) (Or.inl ⟨by rfl, ?_⟩) ?_ ?_
    rotate_left
    · intro w'
      go_simp
      with_reducible rfl
    rotate_left
    · simp only [Act.put, List.setIfInBounds_toArray, List.set_cons_zero, List.set_cons_succ, i64_w, i32_w]
      rfl
    refine pure_ (i := 7) (N := some 94) (v := ?_) (a' := ?_) #[true, true, true, true, true, true, true, true, false, false, false, false, false, false, false, false, false, false, false, false, false, false, false, false, false, false] rfl rfl (by kernel_rfl) (fun _ _ _ h => h) (Or.inl ⟨by rfl, ?_⟩) ?_ ?_
    rotate_left
    · intro w'
      go_simp
      with_reducible rfl
    rotate_left
    · simp only [Act.put, List.setIfInBounds_toArray, List.set_cons_zero, List.set_cons_succ, i64_w, i32_w]
      rfl
    refine take_ (i := 8) (N := some 95) (v := ?_) (a' := ?_) #[true, true, true, true, true, true, true, true, true, false, false, false, false, false, false, false, false, false, false, false, false, false, false, false, false, false] rfl rfl (by kernel_rfl) (fun _ _ _ h => h) (Or.inl ⟨by rfl, ?_⟩) hHeld ?_ ?_
    rotate_left
    · rintro w' ⟨s0, s1, s2, s3⟩
      go_simp
      with_reducible rfl
    rotate_left
    · simp only [Act.put, List.setIfInBounds_toArray, List.set_cons_zero, List.set_cons_succ, i64_w, i32_w]
      rfl
    refine take_ (i := 9) (N := some 96) (v := ?_) (a' := ?_) #[true, true, true, true, true, true, true, true, true, true, false, false, false, false, false, false, false, false, false, false, false, false, false, false, false, false] rfl rfl (by kernel_rfl) (fun _ _ _ h => h) (Or.inl ⟨by rfl, ?_⟩) hHeld ?_ ?_
    rotate_left
    · rintro w' ⟨s0, s1, s2, s3⟩
      go_simp
      with_reducible rfl
    rotate_left
    · simp only [Act.put, List.setIfInBounds_toArray, List.set_cons_zero, List.set_cons_succ, i64_w, i32_w]
      rfl
    refine take_ (i := 10) (N := some 97) (v := ?_) (a' := ?_) #[true, true, true, true, true, true, true, true, true, true, true, false, false, false, false, false, false, false, false, false, false, false, false, false, false, false] rfl rfl (by kernel_rfl) (fun _ _ _ h => h) (Or.inl ⟨by rfl, ?_⟩) hHeld ?_ ?_
    rotate_left
    · rintro w' ⟨s0, s1, s2, s3⟩
      go_simp
      with_reducible rfl
    rotate_left
    · simp only [Act.put, List.setIfInBounds_toArray, List.set_cons_zero, List.set_cons_succ, i64_w, i32_w]
      rfl
    refine pure_ (i := 11) (N := some 98) (v := ?_) (a' := ?_) #[true, true, true, true, true, true, true, true, true, true, true, true, false, false, false, false, false, false, false, false, false, false, false, false, false, false] rfl rfl (by kernel_rfl) (fun _ _ _ h => h) (Or.inl ⟨by rfl, ?_⟩) ?_ ?_
    rotate_left
    · intro w'
      go_simp
      with_reducible rfl
    rotate_left
    · simp only [Act.put, List.setIfInBounds_toArray, List.set_cons_zero, List.set_cons_succ, i64_w, i32_w]
      rfl
    refine take_ (i := 12) (N := some 99) (v := ?_) (a' := ?_) #[true, true, true, true, true, true, true, true, true, true, true, true, true, false, false, false, false, false, false, false, false, false, false, false, false, false] rfl rfl (by kernel_rfl) (fun _ _ _ h => h) (Or.inl ⟨by rfl, ?_⟩) hHeld ?_ ?_
    rotate_left
    · rintro w' ⟨s0, s1, s2, s3⟩
      go_simp
      with_reducible rfl
    rotate_left
    · simp only [Act.put, List.setIfInBounds_toArray, List.set_cons_zero, List.set_cons_succ, i64_w, i32_w]
      rfl
    refine pure_ (i := 13) (N := some 100) (v := ?_) (a' := ?_) #[true, true, true, true, true, true, true, true, true, true, true, true, true, true, false, false, false, false, false, false, false, false, false, false, false, false] rfl rfl (by kernel_rfl) (fun _ _ _ h => h) (Or.inl ⟨by rfl, ?_⟩) ?_ ?_
    rotate_left
    · intro w'
      go_simp
      with_reducible rfl
    rotate_left
    · simp only [Act.put, List.setIfInBounds_toArray, List.set_cons_zero, List.set_cons_succ, i64_w, i32_w]
      rfl
    refine pure_ (i := 14) (N := some 101) (v := ?_) (a' := ?_) #[true, true, true, true, true, true, true, true, true, true, true, true, true, true, true, false, false, false, false, false, false, false, false, false, false, false] rfl rfl (by kernel_rfl) (fun _ _ _ h => h) (Or.inl ⟨by rfl, ?_⟩) ?_ ?_
    rotate_left
    · intro w'
      go_simp
      with_reducible rfl
    rotate_left
    · simp only [Act.put, List.setIfInBounds_toArray, List.set_cons_zero, List.set_cons_succ, i64_w, i32_w]
      rfl
    refine pure_ (i := 15) (N := some 102) (v := ?_) (a' := ?_) #[true, true, true, true, true, true, true, true, true, true, true, true, true, true, true, true, false, false, false, false, false, false, false, false, false, false] rfl rfl (by kernel_rfl) (fun _ _ _ h => h) (Or.inl ⟨by rfl, ?_⟩) ?_ ?_
    rotate_left
    · intro w'
      go_simp
      with_reducible rfl
    rotate_left
    · simp only [Act.put, List.setIfInBounds_toArray, List.set_cons_zero, List.set_cons_succ, i64_w, i32_w]
      rfl
    refine pure_ (i := 16) (N := some 103) (v := ?_) (a' := ?_) #[true, true, true, true, true, true, true, true, true, true, true, true, true, true, true, true, true, false, false, false, false, false, false, false, false, false] rfl rfl (by kernel_rfl) (fun _ _ _ h => h) (Or.inl ⟨by rfl, ?_⟩) ?_ ?_
    rotate_left
    · intro w'
      go_simp
      with_reducible rfl
    rotate_left
    · simp only [Act.put, List.setIfInBounds_toArray, List.set_cons_zero, List.set_cons_succ, i64_w, i32_w]
      rfl
    refine pure_ (i := 17) (N := some 104) (v := ?_) (a' := ?_) #[true, true, true, true, true, true, true, true, true, true, true, true, true, true, true, true, true, true, false, false, false, false, false, false, false, false] rfl rfl (by kernel_rfl) (fun _ _ _ h => h) (Or.inl ⟨by rfl, ?_⟩) ?_ ?_
    rotate_left
    · intro w'
      go_simp
      with_reducible rfl
    rotate_left
    · simp only [Act.put, List.setIfInBounds_toArray, List.set_cons_zero, List.set_cons_succ, i64_w, i32_w]
      rfl
    refine take_ (i := 18) (N := some 105) (v := ?_) (a' := ?_) #[true, true, true, true, true, true, true, true, true, true, true, true, true, true, true, true, true, true, true, false, false, false, false, false, false, false] rfl rfl (by kernel_rfl) (fun _ _ _ h => h) (Or.inl ⟨by rfl, ?_⟩) hHeld ?_ ?_
    rotate_left
    · rintro w' ⟨s0, s1, s2, s3⟩
      go_simp
      with_reducible rfl
    rotate_left
    · simp only [Act.put, List.setIfInBounds_toArray, List.set_cons_zero, List.set_cons_succ, i64_w, i32_w]
      rfl
    refine take_ (i := 19) (N := some 106) (v := ?_) (a' := ?_) #[true, true, true, true, true, true, true, true, true, true, true, true, true, true, true, true, true, true, true, true, false, false, false, false, false, false] rfl rfl (by kernel_rfl) (fun _ _ _ h => h) (Or.inl ⟨by rfl, ?_⟩) hHeld ?_ ?_
    rotate_left
    · rintro w' ⟨s0, s1, s2, s3⟩
      go_simp
      with_reducible rfl
    rotate_left
    · simp only [Act.put, List.setIfInBounds_toArray, List.set_cons_zero, List.set_cons_succ, i64_w, i32_w]
      rfl
    refine take_ (i := 20) (N := some 107) (v := ?_) (a' := ?_) #[true, true, true, true, true, true, true, true, true, true, true, true, true, true, true, true, true, true, true, true, true, false, false, false, false, false] rfl rfl (by kernel_rfl) (fun _ _ _ h => h) (Or.inl ⟨by rfl, ?_⟩) hHeld ?_ ?_
    rotate_left
    · rintro w' ⟨s0, s1, s2, s3⟩
      go_simp
      with_reducible rfl
    rotate_left
    · simp only [Act.put, List.setIfInBounds_toArray, List.set_cons_zero, List.set_cons_succ, i64_w, i32_w]
      rfl
    refine pure_ (i := 21) (N := some 108) (v := ?_) (a' := ?_) #[true, true, true, true, true, true, true, true, true, true, true, true, true, true, true, true, true, true, true, true, true, true, false, false, false, false] rfl rfl (by kernel_rfl) (fun _ _ _ h => h) (Or.inl ⟨by rfl, ?_⟩) ?_ ?_
    rotate_left
    · intro w'
      go_simp
      with_reducible rfl
    rotate_left
    · simp only [Act.put, List.setIfInBounds_toArray, List.set_cons_zero, List.set_cons_succ, i64_w, i32_w]
      rfl
    refine take_ (i := 22) (N := some 109) (v := ?_) (a' := ?_) #[true, true, true, true, true, true, true, true, true, true, true, true, true, true, true, true, true, true, true, true, true, true, true, false, false, false] rfl rfl (by kernel_rfl) (fun _ _ _ h => h) (Or.inl ⟨by rfl, ?_⟩) hHeld ?_ ?_
    rotate_left
    · rintro w' ⟨s0, s1, s2, s3⟩
      go_simp
      with_reducible rfl
    rotate_left
    · simp only [Act.put, List.setIfInBounds_toArray, List.set_cons_zero, List.set_cons_succ, i64_w, i32_w]
      rfl
    refine pure_ (i := 23) (N := some 110) (v := ?_) (a' := ?_) #[true, true, true, true, true, true, true, true, true, true, true, true, true, true, true, true, true, true, true, true, true, true, true, true, false, false] rfl rfl (by kernel_rfl) (fun _ _ _ h => h) (Or.inl ⟨by rfl, ?_⟩) ?_ ?_
    rotate_left
    · intro w'
      go_simp
      with_reducible rfl
    rotate_left
    · simp only [Act.put, List.setIfInBounds_toArray, List.set_cons_zero, List.set_cons_succ, i64_w, i32_w]
      rfl
    refine pure_ (i := 24) (N := some 111) (v := ?_) (a' := ?_) #[true, true, true, true, true, true, true, true, true, true, true, true, true, true, true, true, true, true, true, true, true, true, true, true, true, false] rfl rfl (by kernel_rfl) (fun _ _ _ h => h) (Or.inl ⟨by rfl, ?_⟩) ?_ ?_
    rotate_left
    · intro w'
      go_simp
      with_reducible rfl
    rotate_left
    · simp only [Act.put, List.setIfInBounds_toArray, List.set_cons_zero, List.set_cons_succ, i64_w, i32_w]
      rfl
    refine pure_ (i := 25) (N := some 4) (v := ?_) (a' := ?_) #[true, true, true, true, true, true, true, true, true, true, true, true, true, true, true, true, true, true, true, true, true, true, true, true, true, true] rfl rfl (by kernel_rfl) (fun _ _ _ h => h) (Or.inl ⟨by rfl, ?_⟩) ?_ ?_
    rotate_left
    · intro w'
      go_simp
      with_reducible rfl
    rotate_left
    · simp only [Act.put, List.setIfInBounds_toArray, List.set_cons_zero, List.set_cons_succ, i64_w, i32_w]
      rfl
    refine done_ (by kernel_rfl) ?_
    go_wp2
    go_ret
    exact ⟨rfl, (by repeat (first | (with_reducible first | exact HB0.out | apply below_alloc | apply pw_below_drewN | apply below_drew1 | refine below_set ?_ GE0_gb2.out | refine below_set ?_ GE0_gb3.out) | exact HB0.out))⟩

set_option maxHeartbeats 8000000 in
set_option maxRecDepth 100000 in
theorem sizes_all (K : Nat) (q z : List Int) (fn a1 a2 : Int) (A0 : Option Addr) (c0 : Nat) (l : List Int) (a4 a5 a6 : Int) (A1 : Option Addr) (c1 : Nat) (al : List Int) (code : Int) (w : World) (HV_l : Aside0 (Kd.C (Kd.int .i64) w A0 l.length l)) (HC_l : Aside0 (l.length ≤ c0)) (HV_al : Aside0 (Kd.C (Kd.int .i64) w A1 al.length al)) (HC_al : Aside0 (al.length ≤ c1)) (fsm : Aside0 (PR.basculelaw03_small.f fn a1 a2 l a4 a5 a6 = some true)) (h2 : decide ((2100 : Int) < (al.length : Int)) = false) (fby : Aside0 (pdu_Bytes.f K fn a1 a2 l a4 a5 a6 = some (q, 0))) (hl0 : (l.length : Int) ≤ 2100) (hq : Aside0 (0 < q.length)) (hq0 : Aside0 (rd q 0 = fn)) (hfn0 : 0 ≤ fn) (hfn1 : fn < 128) (HQL : Aside0 (q.length = if fn = 15 then 6 + (l.length + 7) / 8 else if fn = 16 then 6 + 2 * l.length else if fn = 22 then 7 else if fn = 23 then 10 + 2 * l.length else 5)) (fab : Aside0 (pdu_AnswerBytes.f K fn a1 a2 l a4 a5 a6 al code = some (z, 0))) (hzl : Aside0 (0 < z.length)) (hz0 : Aside0 (rd z 0 = fn)) (hce : (code == 0) = true) (hcn : (code != 0) = false) (HZL : Aside0 (z.length = if fn = 1 ∨ fn = 2 then 2 + (al.length + 7) / 8 else if fn = 3 ∨ fn = 4 ∨ fn = 23 then 2 + 2 * al.length else if fn = 15 ∨ fn = 16 then 5 else q.length)) (hal0 : (al.length : Int) ≤ 2100) : Calls Try.prog 13 #[.agg #[.int .i64 fn, .int .i64 a1, .int .i64 a2, .slice A0 l.length c0, .int .i64 a4, .int .i64 a5, .int .i64 a6], .agg #[.slice A1 al.length c1, .int .i64 code]] w fun e w' => e = .returned (.bool true) ∧ Below w.heap.size w w' := by
  have hu24 := Try.underlying24
  have hu30 := Try.underlying30
  have HB0 := Aside0.mk (Below.refl w.heap.size w)
  go_enter Try.func13, Try.ntmps13
  go_upto_block 0 with (first | ((with_reducible refine gate_dst (N := 2) rfl ?_); refine box_event ?hg (N := 2) ?hd (cs := #[.int .i64 fn, .int .i64 a1, .int .i64 a2, .slice A0 l.length c0, .int .i64 a4, .int .i64 a5, .int .i64 a6]) (t := 24) ?hr ?_; (case hd => rfl); (case hg => rfl); (case hr => first | (go_simp; done) | (go_simp; rfl)); intro gb2 hg w1 hbox HBc; have GE0_gb2 : Aside0 (w.heap.size ≤ gb2) := Aside0.mk (by rw [hg]; exact (below_size (by repeat (first | (with_reducible first | exact HB0.out | apply below_alloc | apply pw_below_drewN | apply below_drew1) | exact HB0.out)))); clear hg; have HB0n := Aside0.mk (below_step (by repeat (first | (with_reducible first | exact HB0.out | apply below_alloc | apply pw_below_drewN | apply below_drew1 | refine below_set ?_ GE0_gb2.out) | exact HB0.out)) HBc); clear HBc HB0; have HB0 := HB0n; clear HB0n; have BK_gb2 := Aside0.mk hbox; clear hbox; have hczq1_0 : w1.cell? ⟨gb2, 0, none⟩ = some (.int .i64 fn) := (blk_cell BK_gb2.out 0).trans rfl; have hfzq1_0 := blk_frozen BK_gb2.out 0; have hczq1_1 : w1.cell? ⟨gb2, 1, none⟩ = some (.int .i64 a1) := (blk_cell BK_gb2.out 1).trans rfl; have hfzq1_1 := blk_frozen BK_gb2.out 1; have hczq1_2 : w1.cell? ⟨gb2, 2, none⟩ = some (.int .i64 a2) := (blk_cell BK_gb2.out 2).trans rfl; have hfzq1_2 := blk_frozen BK_gb2.out 2; have hczq1_3 : w1.cell? ⟨gb2, 3, none⟩ = some (.slice A0 l.length c0) := (blk_cell BK_gb2.out 3).trans rfl; have hfzq1_3 := blk_frozen BK_gb2.out 3; have hczq1_4 : w1.cell? ⟨gb2, 4, none⟩ = some (.int .i64 a4) := (blk_cell BK_gb2.out 4).trans rfl; have hfzq1_4 := blk_frozen BK_gb2.out 4; have hczq1_5 : w1.cell? ⟨gb2, 5, none⟩ = some (.int .i64 a5) := (blk_cell BK_gb2.out 5).trans rfl; have hfzq1_5 := blk_frozen BK_gb2.out 5; have hczq1_6 : w1.cell? ⟨gb2, 6, none⟩ = some (.int .i64 a6) := (blk_cell BK_gb2.out 6).trans rfl; have hfzq1_6 := blk_frozen BK_gb2.out 6) | ((with_reducible refine gate_dst (N := 3) rfl ?_); refine box_event ?hg (N := 3) ?hd (cs := #[.slice A1 al.length c1, .int .i64 code]) (t := 30) ?hr ?_; (case hd => rfl); (case hg => rfl); (case hr => first | (go_simp; done) | (go_simp; rfl)); intro gb3 hg w2 hbox HBc; have GE0_gb3 : Aside0 (w.heap.size ≤ gb3) := Aside0.mk (by rw [hg]; exact (below_size (by repeat (first | (with_reducible first | exact HB0.out | apply below_alloc | apply pw_below_drewN | apply below_drew1 | refine below_set ?_ GE0_gb2.out) | exact HB0.out)))); have NB_gb2_gb3 : Aside0 (gb2 ≠ gb3) := Aside0.mk (ne_new (by (with_reducible repeat (first | refine blk_drewN ?_ _ | refine blk_drew ?_ | refine blk_alloc ?_ _)); exact BK_gb2.out) hg); have NB_gb3_gb2 : Aside0 (gb3 ≠ gb2) := Aside0.mk (fun e => NB_gb2_gb3.out e.symm); clear hg; have BKn_gb2 : Aside0 (w2.heap[gb2]? = some (.cells #[.int .i64 fn, .int .i64 a1, .int .i64 a2, .slice A0 l.length c0, .int .i64 a4, .int .i64 a5, .int .i64 a6] 24 (0, 0))) := Aside0.mk (blk_below (g := gb2) (by (with_reducible repeat (first | refine blk_drewN ?_ _ | refine blk_drew ?_ | refine blk_alloc ?_ _)); exact BK_gb2.out) HBc); have HB0n := Aside0.mk (below_step (by repeat (first | (with_reducible first | exact HB0.out | apply below_alloc | apply pw_below_drewN | apply below_drew1 | refine below_set ?_ GE0_gb2.out | refine below_set ?_ GE0_gb3.out) | exact HB0.out)) HBc); clear HBc BK_gb2 HB0 hczq1_0 hfzq1_0 hczq1_1 hfzq1_1 hczq1_2 hfzq1_2 hczq1_3 hfzq1_3 hczq1_4 hfzq1_4 hczq1_5 hfzq1_5 hczq1_6 hfzq1_6; have BK_gb2 := BKn_gb2; have HB0 := HB0n; clear BKn_gb2 HB0n; have BK_gb3 := Aside0.mk hbox; clear hbox; have hczq2_0 : w2.cell? ⟨gb2, 0, none⟩ = some (.int .i64 fn) := (blk_cell BK_gb2.out 0).trans rfl; have hfzq2_0 := blk_frozen BK_gb2.out 0; have hczq2_1 : w2.cell? ⟨gb2, 1, none⟩ = some (.int .i64 a1) := (blk_cell BK_gb2.out 1).trans rfl; have hfzq2_1 := blk_frozen BK_gb2.out 1; have hczq2_2 : w2.cell? ⟨gb2, 2, none⟩ = some (.int .i64 a2) := (blk_cell BK_gb2.out 2).trans rfl; have hfzq2_2 := blk_frozen BK_gb2.out 2; have hczq2_3 : w2.cell? ⟨gb2, 3, none⟩ = some (.slice A0 l.length c0) := (blk_cell BK_gb2.out 3).trans rfl; have hfzq2_3 := blk_frozen BK_gb2.out 3; have hczq2_4 : w2.cell? ⟨gb2, 4, none⟩ = some (.int .i64 a4) := (blk_cell BK_gb2.out 4).trans rfl; have hfzq2_4 := blk_frozen BK_gb2.out 4; have hczq2_5 : w2.cell? ⟨gb2, 5, none⟩ = some (.int .i64 a5) := (blk_cell BK_gb2.out 5).trans rfl; have hfzq2_5 := blk_frozen BK_gb2.out 5; have hczq2_6 : w2.cell? ⟨gb2, 6, none⟩ = some (.int .i64 a6) := (blk_cell BK_gb2.out 6).trans rfl; have hfzq2_6 := blk_frozen BK_gb2.out 6; have hczq3_0 : w2.cell? ⟨gb3, 0, none⟩ = some (.slice A1 al.length c1) := (blk_cell BK_gb3.out 0).trans rfl; have hfzq3_0 := blk_frozen BK_gb3.out 0; have hczq3_1 : w2.cell? ⟨gb3, 1, none⟩ = some (.int .i64 code) := (blk_cell BK_gb3.out 1).trans rfl; have hfzq3_1 := blk_frozen BK_gb3.out 1; have hnq4 := NB_gb2_gb3.out; have hmq4 := NB_gb3_gb2.out) | (go_at_call 28; refine (PR.basculelaw03_small.calls fn a1 a2 A0 c0 l a4 a5 a6 true _ (Kd.C_below HV_l.out (by repeat (first | (with_reducible first | exact HB0.out | apply below_alloc | apply pw_below_drewN | apply below_drew1 | refine below_set ?_ GE0_gb2.out | refine below_set ?_ GE0_gb3.out) | exact HB0.out))) HC_l.out fsm.out).mono ?_; rintro e w3 ⟨rfl, HBc⟩; have BKn_gb2 : Aside0 (w3.heap[gb2]? = some (.cells #[.int .i64 fn, .int .i64 a1, .int .i64 a2, .slice A0 l.length c0, .int .i64 a4, .int .i64 a5, .int .i64 a6] 24 (0, 0))) := Aside0.mk (blk_below (g := gb2) (by (with_reducible repeat (first | refine blk_drewN ?_ _ | refine blk_drew ?_ | refine blk_alloc ?_ _)); exact BK_gb2.out) HBc); have BKn_gb3 : Aside0 (w3.heap[gb3]? = some (.cells #[.slice A1 al.length c1, .int .i64 code] 30 (0, 0))) := Aside0.mk (blk_below (g := gb3) (by (with_reducible repeat (first | refine blk_drewN ?_ _ | refine blk_drew ?_ | refine blk_alloc ?_ _)); exact BK_gb3.out) HBc); have HB0n := Aside0.mk (below_step (by repeat (first | (with_reducible first | exact HB0.out | apply below_alloc | apply pw_below_drewN | apply below_drew1 | refine below_set ?_ GE0_gb2.out | refine below_set ?_ GE0_gb3.out) | exact HB0.out)) HBc); clear HBc BK_gb2 BK_gb3 HB0 hczq2_0 hfzq2_0 hczq2_1 hfzq2_1 hczq2_2 hfzq2_2 hczq2_3 hfzq2_3 hczq2_4 hfzq2_4 hczq2_5 hfzq2_5 hczq2_6 hfzq2_6 hczq3_0 hfzq3_0 hczq3_1 hfzq3_1 hnq4 hmq4; have BK_gb2 := BKn_gb2; have BK_gb3 := BKn_gb3; have HB0 := HB0n; clear BKn_gb2 BKn_gb3 HB0n; have hczq5_0 : w3.cell? ⟨gb2, 0, none⟩ = some (.int .i64 fn) := (blk_cell BK_gb2.out 0).trans rfl; have hfzq5_0 := blk_frozen BK_gb2.out 0; have hczq5_1 : w3.cell? ⟨gb2, 1, none⟩ = some (.int .i64 a1) := (blk_cell BK_gb2.out 1).trans rfl; have hfzq5_1 := blk_frozen BK_gb2.out 1; have hczq5_2 : w3.cell? ⟨gb2, 2, none⟩ = some (.int .i64 a2) := (blk_cell BK_gb2.out 2).trans rfl; have hfzq5_2 := blk_frozen BK_gb2.out 2; have hczq5_3 : w3.cell? ⟨gb2, 3, none⟩ = some (.slice A0 l.length c0) := (blk_cell BK_gb2.out 3).trans rfl; have hfzq5_3 := blk_frozen BK_gb2.out 3; have hczq5_4 : w3.cell? ⟨gb2, 4, none⟩ = some (.int .i64 a4) := (blk_cell BK_gb2.out 4).trans rfl; have hfzq5_4 := blk_frozen BK_gb2.out 4; have hczq5_5 : w3.cell? ⟨gb2, 5, none⟩ = some (.int .i64 a5) := (blk_cell BK_gb2.out 5).trans rfl; have hfzq5_5 := blk_frozen BK_gb2.out 5; have hczq5_6 : w3.cell? ⟨gb2, 6, none⟩ = some (.int .i64 a6) := (blk_cell BK_gb2.out 6).trans rfl; have hfzq5_6 := blk_frozen BK_gb2.out 6; have hczq6_0 : w3.cell? ⟨gb3, 0, none⟩ = some (.slice A1 al.length c1) := (blk_cell BK_gb3.out 0).trans rfl; have hfzq6_0 := blk_frozen BK_gb3.out 0; have hczq6_1 : w3.cell? ⟨gb3, 1, none⟩ = some (.int .i64 code) := (blk_cell BK_gb3.out 1).trans rfl; have hfzq6_1 := blk_frozen BK_gb3.out 1; have hnq7 := NB_gb2_gb3.out; have hmq7 := NB_gb3_gb2.out) | (go_at_call 30; refine (pdu_Bytes.calls K fn a1 a2 A0 c0 l a4 a5 a6 q 0 _ (Kd.C_below HV_l.out (by repeat (first | (with_reducible first | exact HB0.out | apply below_alloc | apply pw_below_drewN | apply below_drew1 | refine below_set ?_ GE0_gb2.out | refine below_set ?_ GE0_gb3.out) | exact HB0.out))) HC_l.out fby.out).mono ?_; rintro e w4 ⟨v, rfl, HR_q, HBc⟩; have BKn_gb2 : Aside0 (w4.heap[gb2]? = some (.cells #[.int .i64 fn, .int .i64 a1, .int .i64 a2, .slice A0 l.length c0, .int .i64 a4, .int .i64 a5, .int .i64 a6] 24 (0, 0))) := Aside0.mk (blk_below (g := gb2) (by (with_reducible repeat (first | refine blk_drewN ?_ _ | refine blk_drew ?_ | refine blk_alloc ?_ _)); exact BK_gb2.out) HBc); have BKn_gb3 : Aside0 (w4.heap[gb3]? = some (.cells #[.slice A1 al.length c1, .int .i64 code] 30 (0, 0))) := Aside0.mk (blk_below (g := gb3) (by (with_reducible repeat (first | refine blk_drewN ?_ _ | refine blk_drew ?_ | refine blk_alloc ?_ _)); exact BK_gb3.out) HBc); have HB0n := Aside0.mk (below_step (by repeat (first | (with_reducible first | exact HB0.out | apply below_alloc | apply pw_below_drewN | apply below_drew1 | refine below_set ?_ GE0_gb2.out | refine below_set ?_ GE0_gb3.out) | exact HB0.out)) HBc); clear HBc BK_gb2 BK_gb3 HB0 hczq5_0 hfzq5_0 hczq5_1 hfzq5_1 hczq5_2 hfzq5_2 hczq5_3 hfzq5_3 hczq5_4 hfzq5_4 hczq5_5 hfzq5_5 hczq5_6 hfzq5_6 hczq6_0 hfzq6_0 hczq6_1 hfzq6_1 hnq7 hmq7; have BK_gb2 := BKn_gb2; have BK_gb3 := BKn_gb3; have HB0 := HB0n; clear BKn_gb2 BKn_gb3 HB0n; have HB_q := Aside0.mk (Below.refl w4.heap.size w4); obtain ⟨A_q, c_q, rfl⟩ := Kd.R_slice HR_q; have HV_q := Aside0.mk (Kd.R_reads' HR_q).2.2; have HC_q := Aside0.mk (Kd.R_reads' HR_q).2.1; clear HR_q; have hczq8_0 : w4.cell? ⟨gb2, 0, none⟩ = some (.int .i64 fn) := (blk_cell BK_gb2.out 0).trans rfl; have hfzq8_0 := blk_frozen BK_gb2.out 0; have hczq8_1 : w4.cell? ⟨gb2, 1, none⟩ = some (.int .i64 a1) := (blk_cell BK_gb2.out 1).trans rfl; have hfzq8_1 := blk_frozen BK_gb2.out 1; have hczq8_2 : w4.cell? ⟨gb2, 2, none⟩ = some (.int .i64 a2) := (blk_cell BK_gb2.out 2).trans rfl; have hfzq8_2 := blk_frozen BK_gb2.out 2; have hczq8_3 : w4.cell? ⟨gb2, 3, none⟩ = some (.slice A0 l.length c0) := (blk_cell BK_gb2.out 3).trans rfl; have hfzq8_3 := blk_frozen BK_gb2.out 3; have hczq8_4 : w4.cell? ⟨gb2, 4, none⟩ = some (.int .i64 a4) := (blk_cell BK_gb2.out 4).trans rfl; have hfzq8_4 := blk_frozen BK_gb2.out 4; have hczq8_5 : w4.cell? ⟨gb2, 5, none⟩ = some (.int .i64 a5) := (blk_cell BK_gb2.out 5).trans rfl; have hfzq8_5 := blk_frozen BK_gb2.out 5; have hczq8_6 : w4.cell? ⟨gb2, 6, none⟩ = some (.int .i64 a6) := (blk_cell BK_gb2.out 6).trans rfl; have hfzq8_6 := blk_frozen BK_gb2.out 6; have hczq9_0 : w4.cell? ⟨gb3, 0, none⟩ = some (.slice A1 al.length c1) := (blk_cell BK_gb3.out 0).trans rfl; have hfzq9_0 := blk_frozen BK_gb3.out 0; have hczq9_1 : w4.cell? ⟨gb3, 1, none⟩ = some (.int .i64 code) := (blk_cell BK_gb3.out 1).trans rfl; have hfzq9_1 := blk_frozen BK_gb3.out 1; have hnq10 := NB_gb2_gb3.out; have hmq10 := NB_gb3_gb2.out))
  go_cut [8] (fun v8 wc => v8 = .int .i64 (q.length : Int) ∧ Aside0 (wc.heap[gb2]? = some (.cells #[.int .i64 fn, .int .i64 a1, .int .i64 a2, .slice A0 l.length c0, .int .i64 a4, .int .i64 a5, .int .i64 a6] 24 (0, 0))) ∧ Aside0 (wc.heap[gb3]? = some (.cells #[.slice A1 al.length c1, .int .i64 code] 30 (0, 0))) ∧ Aside0 (Below w.heap.size w wc) ∧ Aside0 (Below w4.heap.size w4 wc))
  case first =>
    by_cases c15 : fn = 15
    · subst c15
      go_wp2_with (fail)
      go_meet
      case rel => exact ⟨congrArg (Value.int .i64) (by have h := HQL.out; simp at h; omega), ⟨by (with_reducible repeat (first | refine blk_drewN ?_ _ | refine blk_drew ?_ | refine blk_alloc ?_ _)); exact BK_gb2.out⟩, ⟨by (with_reducible repeat (first | refine blk_drewN ?_ _ | refine blk_drew ?_ | refine blk_alloc ?_ _)); exact BK_gb3.out⟩, ⟨by repeat (first | (with_reducible first | exact HB0.out | apply below_alloc | apply pw_below_drewN | apply below_drew1 | refine below_set ?_ GE0_gb2.out | refine below_set ?_ GE0_gb3.out) | exact HB0.out)⟩, ⟨by repeat (first | (with_reducible first | exact HB_q.out | apply below_alloc | apply pw_below_drewN | apply below_drew1) | exact HB_q.out)⟩⟩
    have hb15 : (fn == 15) = false := beq_eq_false_iff_ne.2 c15
    by_cases c16 : fn = 16
    · subst c16
      go_wp2_with (fail)
      go_meet
      case rel => exact ⟨congrArg (Value.int .i64) (by have h := HQL.out; simp at h; omega), ⟨by (with_reducible repeat (first | refine blk_drewN ?_ _ | refine blk_drew ?_ | refine blk_alloc ?_ _)); exact BK_gb2.out⟩, ⟨by (with_reducible repeat (first | refine blk_drewN ?_ _ | refine blk_drew ?_ | refine blk_alloc ?_ _)); exact BK_gb3.out⟩, ⟨by repeat (first | (with_reducible first | exact HB0.out | apply below_alloc | apply pw_below_drewN | apply below_drew1 | refine below_set ?_ GE0_gb2.out | refine below_set ?_ GE0_gb3.out) | exact HB0.out)⟩, ⟨by repeat (first | (with_reducible first | exact HB_q.out | apply below_alloc | apply pw_below_drewN | apply below_drew1) | exact HB_q.out)⟩⟩
    have hb16 : (fn == 16) = false := beq_eq_false_iff_ne.2 c16
    by_cases c22 : fn = 22
    · subst c22
      go_wp2_with (fail)
      go_meet
      case rel => exact ⟨congrArg (Value.int .i64) (by have h := HQL.out; simp at h; omega), ⟨by (with_reducible repeat (first | refine blk_drewN ?_ _ | refine blk_drew ?_ | refine blk_alloc ?_ _)); exact BK_gb2.out⟩, ⟨by (with_reducible repeat (first | refine blk_drewN ?_ _ | refine blk_drew ?_ | refine blk_alloc ?_ _)); exact BK_gb3.out⟩, ⟨by repeat (first | (with_reducible first | exact HB0.out | apply below_alloc | apply pw_below_drewN | apply below_drew1 | refine below_set ?_ GE0_gb2.out | refine below_set ?_ GE0_gb3.out) | exact HB0.out)⟩, ⟨by repeat (first | (with_reducible first | exact HB_q.out | apply below_alloc | apply pw_below_drewN | apply below_drew1) | exact HB_q.out)⟩⟩
    have hb22 : (fn == 22) = false := beq_eq_false_iff_ne.2 c22
    by_cases c23 : fn = 23
    · subst c23
      go_wp2_with (fail)
      go_meet
      case rel => exact ⟨congrArg (Value.int .i64) (by have h := HQL.out; simp at h; omega), ⟨by (with_reducible repeat (first | refine blk_drewN ?_ _ | refine blk_drew ?_ | refine blk_alloc ?_ _)); exact BK_gb2.out⟩, ⟨by (with_reducible repeat (first | refine blk_drewN ?_ _ | refine blk_drew ?_ | refine blk_alloc ?_ _)); exact BK_gb3.out⟩, ⟨by repeat (first | (with_reducible first | exact HB0.out | apply below_alloc | apply pw_below_drewN | apply below_drew1 | refine below_set ?_ GE0_gb2.out | refine below_set ?_ GE0_gb3.out) | exact HB0.out)⟩, ⟨by repeat (first | (with_reducible first | exact HB_q.out | apply below_alloc | apply pw_below_drewN | apply below_drew1) | exact HB_q.out)⟩⟩
    have hb23 : (fn == 23) = false := beq_eq_false_iff_ne.2 c23
    go_wp2_with (fail)
    go_meet
    case rel => exact ⟨congrArg (Value.int .i64) (by rw [HQL.out, if_neg c15, if_neg c16, if_neg c22, if_neg c23]; rfl), ⟨by (with_reducible repeat (first | refine blk_drewN ?_ _ | refine blk_drew ?_ | refine blk_alloc ?_ _)); exact BK_gb2.out⟩, ⟨by (with_reducible repeat (first | refine blk_drewN ?_ _ | refine blk_drew ?_ | refine blk_alloc ?_ _)); exact BK_gb3.out⟩, ⟨by repeat (first | (with_reducible first | exact HB0.out | apply below_alloc | apply pw_below_drewN | apply below_drew1 | refine below_set ?_ GE0_gb2.out | refine below_set ?_ GE0_gb3.out) | exact HB0.out)⟩, ⟨by repeat (first | (with_reducible first | exact HB_q.out | apply below_alloc | apply pw_below_drewN | apply below_drew1) | exact HB_q.out)⟩⟩
  case rest =>
    obtain ⟨rfl, BKn_gb2, BKn_gb3, HBn, HBqn⟩ := hcut
    clear BK_gb2 BK_gb3 HB0 HB_q hczq8_0 hfzq8_0 hczq8_1 hfzq8_1 hczq8_2 hfzq8_2 hczq8_3 hfzq8_3 hczq8_4 hfzq8_4 hczq8_5 hfzq8_5 hczq8_6 hfzq8_6 hczq9_0 hfzq9_0 hczq9_1 hfzq9_1 hnq10 hmq10 HQL
    have BK_gb2 := BKn_gb2
    have BK_gb3 := BKn_gb3
    have HB0 := HBn
    have HB_q := HBqn
    clear BKn_gb2 BKn_gb3 HBn HBqn
    have hczq11_0 : wc.cell? ⟨gb2, 0, none⟩ = some (.int .i64 fn) := (blk_cell BK_gb2.out 0).trans rfl; have hfzq11_0 := blk_frozen BK_gb2.out 0; have hczq11_1 : wc.cell? ⟨gb2, 1, none⟩ = some (.int .i64 a1) := (blk_cell BK_gb2.out 1).trans rfl; have hfzq11_1 := blk_frozen BK_gb2.out 1; have hczq11_2 : wc.cell? ⟨gb2, 2, none⟩ = some (.int .i64 a2) := (blk_cell BK_gb2.out 2).trans rfl; have hfzq11_2 := blk_frozen BK_gb2.out 2; have hczq11_3 : wc.cell? ⟨gb2, 3, none⟩ = some (.slice A0 l.length c0) := (blk_cell BK_gb2.out 3).trans rfl; have hfzq11_3 := blk_frozen BK_gb2.out 3; have hczq11_4 : wc.cell? ⟨gb2, 4, none⟩ = some (.int .i64 a4) := (blk_cell BK_gb2.out 4).trans rfl; have hfzq11_4 := blk_frozen BK_gb2.out 4; have hczq11_5 : wc.cell? ⟨gb2, 5, none⟩ = some (.int .i64 a5) := (blk_cell BK_gb2.out 5).trans rfl; have hfzq11_5 := blk_frozen BK_gb2.out 5; have hczq11_6 : wc.cell? ⟨gb2, 6, none⟩ = some (.int .i64 a6) := (blk_cell BK_gb2.out 6).trans rfl; have hfzq11_6 := blk_frozen BK_gb2.out 6
    have hczq12_0 : wc.cell? ⟨gb3, 0, none⟩ = some (.slice A1 al.length c1) := (blk_cell BK_gb3.out 0).trans rfl; have hfzq12_0 := blk_frozen BK_gb3.out 0; have hczq12_1 : wc.cell? ⟨gb3, 1, none⟩ = some (.int .i64 code) := (blk_cell BK_gb3.out 1).trans rfl; have hfzq12_1 := blk_frozen BK_gb3.out 1
    have hnq13 := NB_gb2_gb3.out; have hmq13 := NB_gb3_gb2.out
    obtain ⟨adq, eadq, hxq⟩ := Kd.at_int (Kd.C_below HV_q.out (by repeat (first | (with_reducible first | exact HB_q.out | apply below_alloc | apply pw_below_drewN | apply below_drew1) | exact HB_q.out))) 0 (by omega) (by have := hq.out; omega)
    cases eadq
    rw [show ((0 : Int)).toNat = 0 from rfl, Addr.add_zero', hq0.out] at hxq
    have HXQ := Aside0.mk hxq
    clear hxq
    have hlq : (0 : Int) < (q.length : Int) := (by have := hq.out; omega)
    have hlb : decide ((0 : Int) < (q.length : Int)) = true := decide_eq_true hlq
    have hlt : (0 < q.length) = True := eq_true hq.out
    have hnq : ((q.length : Int) != (q.length : Int)) = false := by simp
    have hff : (wrap64 fn != fn) = false := by (rw [wrap64_id fn (by omega) (by omega)]; simp)
    have hfe : (wrap64 fn == fn) = true := by (rw [wrap64_id fn (by omega) (by omega)]; simp)
    go_wp2_with (fail)
    refine start_ (n := 13) (S := fun W => W.cell? adq = some (.int .u8 fn) ∧ W.cell? ⟨gb2, 0, none⟩ = some (.int .i64 fn)) (ds := []) #[false, false, false, false, false, false, false, false, false, false, false, false, false] (by kernel_rfl) rfl rfl ?_ (fun hHeld => ?_)
    · exact ⟨HXQ.out, (blk_cell (by (with_reducible repeat (first | refine blk_drewN ?_ _ | refine blk_drew ?_ | refine blk_alloc ?_ _)); exact BK_gb2.out) 0).trans rfl⟩
    refine pure_ (i := 0) (N := some 57) (v := ?_) (a' := ?_) #[true, false, false, false, false, false, false, false, false, false, false, false, false] rfl rfl (by kernel_rfl) (fun _ _ _ h => h) (Or.inl ⟨by rfl, ?_⟩) ?_ ?_
    rotate_left
    · intro w'
      go_simp
      with_reducible rfl
    rotate_left
    · simp only [Act.put, List.setIfInBounds_toArray, List.set_cons_zero, List.set_cons_succ, i64_w, i32_w]
      rfl
    refine pure_ (i := 1) (N := some 58) (v := ?_) (a' := ?_) #[true, true, false, false, false, false, false, false, false, false, false, false, false] rfl rfl (by kernel_rfl) (fun _ _ _ h => h) (Or.inl ⟨by rfl, ?_⟩) ?_ ?_
    rotate_left
    · intro w'
      go_simp
      with_reducible rfl
    rotate_left
    · simp only [Act.put, List.setIfInBounds_toArray, List.set_cons_zero, List.set_cons_succ, i64_w, i32_w]
      rfl
    refine pure_ (i := 2) (N := some 59) (v := ?_) (a' := ?_) #[true, true, true, false, false, false, false, false, false, false, false, false, false] rfl rfl (by kernel_rfl) (fun _ _ _ h => h) (Or.inl ⟨by rfl, ?_⟩) ?_ ?_
    rotate_left
    · intro w'
      go_simp
      with_reducible rfl
    rotate_left
    · simp only [Act.put, List.setIfInBounds_toArray, List.set_cons_zero, List.set_cons_succ, i64_w, i32_w]
      rfl
    refine pure_ (i := 3) (N := some 60) (v := ?_) (a' := ?_) #[true, true, true, true, false, false, false, false, false, false, false, false, false] rfl rfl (by kernel_rfl) (fun _ _ _ h => h) (Or.inl ⟨by rfl, ?_⟩) ?_ ?_
    rotate_left
    · intro w'
      go_simp
      with_reducible rfl
    rotate_left
    · simp only [Act.put, List.setIfInBounds_toArray, List.set_cons_zero, List.set_cons_succ, i64_w, i32_w]
      rfl
    refine pure_ (i := 4) (N := some 61) (v := ?_) (a' := ?_) #[true, true, true, true, true, false, false, false, false, false, false, false, false] rfl rfl (by kernel_rfl) (fun _ _ _ h => h) (Or.inl ⟨by rfl, ?_⟩) ?_ ?_
    rotate_left
    · intro w'
      go_simp
      with_reducible rfl
    rotate_left
    · simp only [Act.put, List.setIfInBounds_toArray, List.set_cons_zero, List.set_cons_succ, i64_w, i32_w]
      rfl
    refine pure_ (i := 5) (N := some 62) (v := ?_) (a' := ?_) #[true, true, true, true, true, true, false, false, false, false, false, false, false] rfl rfl (by kernel_rfl) (fun _ _ _ h => h) (Or.inl ⟨by rfl, ?_⟩) ?_ ?_
    rotate_left
    · intro w'
      go_simp
      with_reducible rfl
    rotate_left
    · simp only [Act.put, List.setIfInBounds_toArray, List.set_cons_zero, List.set_cons_succ, i64_w, i32_w]
      rfl
    refine take_ (i := 6) (N := some 63) (v := ?_) (a' := ?_) #[true, true, true, true, true, true, true, false, false, false, false, false, false] rfl rfl (by kernel_rfl) (fun _ _ _ h => h) (Or.inl ⟨by rfl, ?_⟩) hHeld ?_ ?_
    rotate_left
    · rintro w' ⟨s0, s1⟩
      go_simp
      with_reducible rfl
    rotate_left
    · simp only [Act.put, List.setIfInBounds_toArray, List.set_cons_zero, List.set_cons_succ, i64_w, i32_w]
      rfl
    refine take_ (i := 7) (N := some 64) (v := ?_) (a' := ?_) #[true, true, true, true, true, true, true, true, false, false, false, false, false] rfl rfl (by kernel_rfl) (fun _ _ _ h => h) (Or.inl ⟨by rfl, ?_⟩) hHeld ?_ ?_
    rotate_left
    · rintro w' ⟨s0, s1⟩
      go_simp
      with_reducible rfl
    rotate_left
    · simp only [Act.put, List.setIfInBounds_toArray, List.set_cons_zero, List.set_cons_succ, i64_w, i32_w]
      rfl
    refine take_ (i := 8) (N := some 65) (v := ?_) (a' := ?_) #[true, true, true, true, true, true, true, true, true, false, false, false, false] rfl rfl (by kernel_rfl) (fun _ _ _ h => h) (Or.inl ⟨by rfl, ?_⟩) hHeld ?_ ?_
    rotate_left
    · rintro w' ⟨s0, s1⟩
      go_simp
      with_reducible rfl
    rotate_left
    · simp only [Act.put, List.setIfInBounds_toArray, List.set_cons_zero, List.set_cons_succ, i64_w, i32_w]
      rfl
    refine pure_ (i := 9) (N := some 66) (v := ?_) (a' := ?_) #[true, true, true, true, true, true, true, true, true, true, false, false, false] rfl rfl (by kernel_rfl) (fun _ _ _ h => h) (Or.inl ⟨by rfl, ?_⟩) ?_ ?_
    rotate_left
    · intro w'
      go_simp
      with_reducible rfl
    rotate_left
    · simp only [Act.put, List.setIfInBounds_toArray, List.set_cons_zero, List.set_cons_succ, i64_w, i32_w]
      rfl
    refine take_ (i := 10) (N := some 67) (v := ?_) (a' := ?_) #[true, true, true, true, true, true, true, true, true, true, true, false, false] rfl rfl (by kernel_rfl) (fun _ _ _ h => h) (Or.inl ⟨by rfl, ?_⟩) hHeld ?_ ?_
    rotate_left
    · rintro w' ⟨s0, s1⟩
      go_simp
      with_reducible rfl
    rotate_left
    · simp only [Act.put, List.setIfInBounds_toArray, List.set_cons_zero, List.set_cons_succ, i64_w, i32_w]
      rfl
    refine pure_ (i := 11) (N := some 68) (v := ?_) (a' := ?_) #[true, true, true, true, true, true, true, true, true, true, true, true, false] rfl rfl (by kernel_rfl) (fun _ _ _ h => h) (Or.inl ⟨by rfl, ?_⟩) ?_ ?_
    rotate_left
    · intro w'
      go_simp
      with_reducible rfl
    rotate_left
    · simp only [Act.put, List.setIfInBounds_toArray, List.set_cons_zero, List.set_cons_succ, i64_w, i32_w]
      rfl
    refine pure_ (i := 12) (N := some 69) (v := ?_) (a' := ?_) #[true, true, true, true, true, true, true, true, true, true, true, true, true] rfl rfl (by kernel_rfl) (fun _ _ _ h => h) (Or.inl ⟨by rfl, ?_⟩) ?_ ?_
    rotate_left
    · intro w'
      go_simp
      with_reducible rfl
    rotate_left
    · simp only [Act.put, List.setIfInBounds_toArray, List.set_cons_zero, List.set_cons_succ, i64_w, i32_w]
      rfl
    refine done_ (by kernel_rfl) ?_
    go_upto_block 1 with (first | (go_at_call 36; refine (pdu_AnswerBytes.calls K fn a1 a2 A0 c0 l a4 a5 a6 A1 c1 al code z 0 _ (Kd.C_below HV_l.out (by repeat (first | (with_reducible first | exact HB0.out | apply below_alloc | apply pw_below_drewN | apply below_drew1 | refine below_set ?_ GE0_gb2.out | refine below_set ?_ GE0_gb3.out) | exact HB0.out))) HC_l.out (Kd.C_below HV_al.out (by repeat (first | (with_reducible first | exact HB0.out | apply below_alloc | apply pw_below_drewN | apply below_drew1 | refine below_set ?_ GE0_gb2.out | refine below_set ?_ GE0_gb3.out) | exact HB0.out))) HC_al.out fab.out).mono ?_; rintro e w20 ⟨v, rfl, HR_z, HBc⟩; have BKn_gb2 : Aside0 (w20.heap[gb2]? = some (.cells #[.int .i64 fn, .int .i64 a1, .int .i64 a2, .slice A0 l.length c0, .int .i64 a4, .int .i64 a5, .int .i64 a6] 24 (0, 0))) := Aside0.mk (blk_below (g := gb2) (by (with_reducible repeat (first | refine blk_drewN ?_ _ | refine blk_drew ?_ | refine blk_alloc ?_ _)); exact BK_gb2.out) HBc); have BKn_gb3 : Aside0 (w20.heap[gb3]? = some (.cells #[.slice A1 al.length c1, .int .i64 code] 30 (0, 0))) := Aside0.mk (blk_below (g := gb3) (by (with_reducible repeat (first | refine blk_drewN ?_ _ | refine blk_drew ?_ | refine blk_alloc ?_ _)); exact BK_gb3.out) HBc); have HB0n := Aside0.mk (below_step (by repeat (first | (with_reducible first | exact HB0.out | apply below_alloc | apply pw_below_drewN | apply below_drew1 | refine below_set ?_ GE0_gb2.out | refine below_set ?_ GE0_gb3.out) | exact HB0.out)) HBc); have HB_qn := Aside0.mk (below_step (by repeat (first | (with_reducible first | exact HB_q.out | apply below_alloc | apply pw_below_drewN | apply below_drew1) | exact HB_q.out)) HBc); clear HBc BK_gb2 BK_gb3 HB0 HB_q hczq11_0 hfzq11_0 hczq11_1 hfzq11_1 hczq11_2 hfzq11_2 hczq11_3 hfzq11_3 hczq11_4 hfzq11_4 hczq11_5 hfzq11_5 hczq11_6 hfzq11_6 hczq12_0 hfzq12_0 hczq12_1 hfzq12_1 hnq13 hmq13; have BK_gb2 := BKn_gb2; have BK_gb3 := BKn_gb3; have HB0 := HB0n; have HB_q := HB_qn; clear BKn_gb2 BKn_gb3 HB0n HB_qn; have HB_z := Aside0.mk (Below.refl w20.heap.size w20); obtain ⟨A_z, c_z, rfl⟩ := Kd.R_slice HR_z; have HV_z := Aside0.mk (Kd.R_reads' HR_z).2.2; have HC_z := Aside0.mk (Kd.R_reads' HR_z).2.1; clear HR_z; have hczq14_0 : w20.cell? ⟨gb2, 0, none⟩ = some (.int .i64 fn) := (blk_cell BK_gb2.out 0).trans rfl; have hfzq14_0 := blk_frozen BK_gb2.out 0; have hczq14_1 : w20.cell? ⟨gb2, 1, none⟩ = some (.int .i64 a1) := (blk_cell BK_gb2.out 1).trans rfl; have hfzq14_1 := blk_frozen BK_gb2.out 1; have hczq14_2 : w20.cell? ⟨gb2, 2, none⟩ = some (.int .i64 a2) := (blk_cell BK_gb2.out 2).trans rfl; have hfzq14_2 := blk_frozen BK_gb2.out 2; have hczq14_3 : w20.cell? ⟨gb2, 3, none⟩ = some (.slice A0 l.length c0) := (blk_cell BK_gb2.out 3).trans rfl; have hfzq14_3 := blk_frozen BK_gb2.out 3; have hczq14_4 : w20.cell? ⟨gb2, 4, none⟩ = some (.int .i64 a4) := (blk_cell BK_gb2.out 4).trans rfl; have hfzq14_4 := blk_frozen BK_gb2.out 4; have hczq14_5 : w20.cell? ⟨gb2, 5, none⟩ = some (.int .i64 a5) := (blk_cell BK_gb2.out 5).trans rfl; have hfzq14_5 := blk_frozen BK_gb2.out 5; have hczq14_6 : w20.cell? ⟨gb2, 6, none⟩ = some (.int .i64 a6) := (blk_cell BK_gb2.out 6).trans rfl; have hfzq14_6 := blk_frozen BK_gb2.out 6; have hczq15_0 : w20.cell? ⟨gb3, 0, none⟩ = some (.slice A1 al.length c1) := (blk_cell BK_gb3.out 0).trans rfl; have hfzq15_0 := blk_frozen BK_gb3.out 0; have hczq15_1 : w20.cell? ⟨gb3, 1, none⟩ = some (.int .i64 code) := (blk_cell BK_gb3.out 1).trans rfl; have hfzq15_1 := blk_frozen BK_gb3.out 1; have hnq16 := NB_gb2_gb3.out; have hmq16 := NB_gb3_gb2.out))
    go_cut [8] (fun v8 wd => v8 = .int .i64 (z.length : Int) ∧ Aside0 (wd.heap[gb2]? = some (.cells #[.int .i64 fn, .int .i64 a1, .int .i64 a2, .slice A0 l.length c0, .int .i64 a4, .int .i64 a5, .int .i64 a6] 24 (0, 0))) ∧ Aside0 (Below w.heap.size w wd) ∧ Aside0 (Below w20.heap.size w20 wd))
    case first =>
      by_cases c1 : fn = 1
      · subst c1
        go_wp2_with (fail)
        go_meet
        case rel => exact ⟨congrArg (Value.int .i64) (by have h := HZL.out; simp at h; omega), ⟨by (with_reducible repeat (first | refine blk_drewN ?_ _ | refine blk_drew ?_ | refine blk_alloc ?_ _)); exact BK_gb2.out⟩, ⟨by repeat (first | (with_reducible first | exact HB0.out | apply below_alloc | apply pw_below_drewN | apply below_drew1 | refine below_set ?_ GE0_gb2.out | refine below_set ?_ GE0_gb3.out) | exact HB0.out)⟩, ⟨by repeat (first | (with_reducible first | exact HB_z.out | apply below_alloc | apply pw_below_drewN | apply below_drew1) | exact HB_z.out)⟩⟩
      have hb1 : (fn == 1) = false := beq_eq_false_iff_ne.2 c1
      by_cases c2 : fn = 2
      · subst c2
        go_wp2_with (fail)
        go_meet
        case rel => exact ⟨congrArg (Value.int .i64) (by have h := HZL.out; simp at h; omega), ⟨by (with_reducible repeat (first | refine blk_drewN ?_ _ | refine blk_drew ?_ | refine blk_alloc ?_ _)); exact BK_gb2.out⟩, ⟨by repeat (first | (with_reducible first | exact HB0.out | apply below_alloc | apply pw_below_drewN | apply below_drew1 | refine below_set ?_ GE0_gb2.out | refine below_set ?_ GE0_gb3.out) | exact HB0.out)⟩, ⟨by repeat (first | (with_reducible first | exact HB_z.out | apply below_alloc | apply pw_below_drewN | apply below_drew1) | exact HB_z.out)⟩⟩
      have hb2 : (fn == 2) = false := beq_eq_false_iff_ne.2 c2
      by_cases c3 : fn = 3
      · subst c3
        go_wp2_with (fail)
        go_meet
        case rel => exact ⟨congrArg (Value.int .i64) (by have h := HZL.out; simp at h; omega), ⟨by (with_reducible repeat (first | refine blk_drewN ?_ _ | refine blk_drew ?_ | refine blk_alloc ?_ _)); exact BK_gb2.out⟩, ⟨by repeat (first | (with_reducible first | exact HB0.out | apply below_alloc | apply pw_below_drewN | apply below_drew1 | refine below_set ?_ GE0_gb2.out | refine below_set ?_ GE0_gb3.out) | exact HB0.out)⟩, ⟨by repeat (first | (with_reducible first | exact HB_z.out | apply below_alloc | apply pw_below_drewN | apply below_drew1) | exact HB_z.out)⟩⟩
      have hb3 : (fn == 3) = false := beq_eq_false_iff_ne.2 c3
      by_cases c4 : fn = 4
      · subst c4
        go_wp2_with (fail)
        go_meet
        case rel => exact ⟨congrArg (Value.int .i64) (by have h := HZL.out; simp at h; omega), ⟨by (with_reducible repeat (first | refine blk_drewN ?_ _ | refine blk_drew ?_ | refine blk_alloc ?_ _)); exact BK_gb2.out⟩, ⟨by repeat (first | (with_reducible first | exact HB0.out | apply below_alloc | apply pw_below_drewN | apply below_drew1 | refine below_set ?_ GE0_gb2.out | refine below_set ?_ GE0_gb3.out) | exact HB0.out)⟩, ⟨by repeat (first | (with_reducible first | exact HB_z.out | apply below_alloc | apply pw_below_drewN | apply below_drew1) | exact HB_z.out)⟩⟩
      have hb4 : (fn == 4) = false := beq_eq_false_iff_ne.2 c4
      by_cases c23 : fn = 23
      · subst c23
        go_wp2_with (fail)
        go_meet
        case rel => exact ⟨congrArg (Value.int .i64) (by have h := HZL.out; simp at h; omega), ⟨by (with_reducible repeat (first | refine blk_drewN ?_ _ | refine blk_drew ?_ | refine blk_alloc ?_ _)); exact BK_gb2.out⟩, ⟨by repeat (first | (with_reducible first | exact HB0.out | apply below_alloc | apply pw_below_drewN | apply below_drew1 | refine below_set ?_ GE0_gb2.out | refine below_set ?_ GE0_gb3.out) | exact HB0.out)⟩, ⟨by repeat (first | (with_reducible first | exact HB_z.out | apply below_alloc | apply pw_below_drewN | apply below_drew1) | exact HB_z.out)⟩⟩
      have hb23 : (fn == 23) = false := beq_eq_false_iff_ne.2 c23
      by_cases c15 : fn = 15
      · subst c15
        go_wp2_with (fail)
        go_meet
        case rel => exact ⟨congrArg (Value.int .i64) (by have h := HZL.out; simp at h; omega), ⟨by (with_reducible repeat (first | refine blk_drewN ?_ _ | refine blk_drew ?_ | refine blk_alloc ?_ _)); exact BK_gb2.out⟩, ⟨by repeat (first | (with_reducible first | exact HB0.out | apply below_alloc | apply pw_below_drewN | apply below_drew1 | refine below_set ?_ GE0_gb2.out | refine below_set ?_ GE0_gb3.out) | exact HB0.out)⟩, ⟨by repeat (first | (with_reducible first | exact HB_z.out | apply below_alloc | apply pw_below_drewN | apply below_drew1) | exact HB_z.out)⟩⟩
      have hb15 : (fn == 15) = false := beq_eq_false_iff_ne.2 c15
      by_cases c16 : fn = 16
      · subst c16
        go_wp2_with (fail)
        go_meet
        case rel => exact ⟨congrArg (Value.int .i64) (by have h := HZL.out; simp at h; omega), ⟨by (with_reducible repeat (first | refine blk_drewN ?_ _ | refine blk_drew ?_ | refine blk_alloc ?_ _)); exact BK_gb2.out⟩, ⟨by repeat (first | (with_reducible first | exact HB0.out | apply below_alloc | apply pw_below_drewN | apply below_drew1 | refine below_set ?_ GE0_gb2.out | refine below_set ?_ GE0_gb3.out) | exact HB0.out)⟩, ⟨by repeat (first | (with_reducible first | exact HB_z.out | apply below_alloc | apply pw_below_drewN | apply below_drew1) | exact HB_z.out)⟩⟩
      have hb16 : (fn == 16) = false := beq_eq_false_iff_ne.2 c16
      go_wp2_with (fail)
      go_meet
      case rel => exact ⟨congrArg (Value.int .i64) (by have h := HZL.out; rw [if_neg (by omega), if_neg (by omega), if_neg (by omega)] at h; omega), ⟨by (with_reducible repeat (first | refine blk_drewN ?_ _ | refine blk_drew ?_ | refine blk_alloc ?_ _)); exact BK_gb2.out⟩, ⟨by repeat (first | (with_reducible first | exact HB0.out | apply below_alloc | apply pw_below_drewN | apply below_drew1 | refine below_set ?_ GE0_gb2.out | refine below_set ?_ GE0_gb3.out) | exact HB0.out)⟩, ⟨by repeat (first | (with_reducible first | exact HB_z.out | apply below_alloc | apply pw_below_drewN | apply below_drew1) | exact HB_z.out)⟩⟩
    case rest =>
      obtain ⟨rfl, BKn_gb2, HBn, HBzn⟩ := hcut
      clear BK_gb2 BK_gb3 HB0 HB_q HB_z hczq14_0 hfzq14_0 hczq14_1 hfzq14_1 hczq14_2 hfzq14_2 hczq14_3 hfzq14_3 hczq14_4 hfzq14_4 hczq14_5 hfzq14_5 hczq14_6 hfzq14_6 hczq15_0 hfzq15_0 hczq15_1 hfzq15_1 hnq16 hmq16 HZL
      have BK_gb2 := BKn_gb2
      have HB0 := HBn
      have HB_z := HBzn
      clear BKn_gb2 HBn HBzn
      have hczq17_0 : wc.cell? ⟨gb2, 0, none⟩ = some (.int .i64 fn) := (blk_cell BK_gb2.out 0).trans rfl; have hfzq17_0 := blk_frozen BK_gb2.out 0; have hczq17_1 : wc.cell? ⟨gb2, 1, none⟩ = some (.int .i64 a1) := (blk_cell BK_gb2.out 1).trans rfl; have hfzq17_1 := blk_frozen BK_gb2.out 1; have hczq17_2 : wc.cell? ⟨gb2, 2, none⟩ = some (.int .i64 a2) := (blk_cell BK_gb2.out 2).trans rfl; have hfzq17_2 := blk_frozen BK_gb2.out 2; have hczq17_3 : wc.cell? ⟨gb2, 3, none⟩ = some (.slice A0 l.length c0) := (blk_cell BK_gb2.out 3).trans rfl; have hfzq17_3 := blk_frozen BK_gb2.out 3; have hczq17_4 : wc.cell? ⟨gb2, 4, none⟩ = some (.int .i64 a4) := (blk_cell BK_gb2.out 4).trans rfl; have hfzq17_4 := blk_frozen BK_gb2.out 4; have hczq17_5 : wc.cell? ⟨gb2, 5, none⟩ = some (.int .i64 a5) := (blk_cell BK_gb2.out 5).trans rfl; have hfzq17_5 := blk_frozen BK_gb2.out 5; have hczq17_6 : wc.cell? ⟨gb2, 6, none⟩ = some (.int .i64 a6) := (blk_cell BK_gb2.out 6).trans rfl; have hfzq17_6 := blk_frozen BK_gb2.out 6
      obtain ⟨adz, ead, hx⟩ := Kd.at_int HV_z.out 0 (by omega) (by have := hzl.out; omega)
      subst ead
      rw [show ((0 : Int)).toNat = 0 from rfl, Addr.add_zero', hz0.out] at hx
      have HXz_0 := Aside0.mk hx
      clear hx
      have hzp0 : (0 : Int) < (z.length : Int) := (by have := hzl.out; omega)
      have hzq0 : (0 < z.length) = True := eq_true hzl.out
      have hze : ((z.length : Int) == (z.length : Int)) = true := by simp
      go_wp2_with (fail)
      refine start_ (n := 17) (S := fun W => W.cell? adz = some (.int .u8 fn) ∧ W.cell? ⟨gb2, 0, none⟩ = some (.int .i64 fn)) (ds := []) #[false, false, false, false, false, false, false, false, false, false, false, false, false, false, false, false, false] (by kernel_rfl) rfl rfl ?_ (fun hHeld => ?_)
      · exact ⟨cell_now (by repeat (first | (with_reducible first | exact HB_z.out | apply below_alloc | apply pw_below_drewN | apply below_drew1) | exact HB_z.out)) HXz_0.out, (blk_cell (by (with_reducible repeat (first | refine blk_drewN ?_ _ | refine blk_drew ?_ | refine blk_alloc ?_ _)); exact BK_gb2.out) 0).trans rfl⟩
      refine one_ (i := 0) (N := some 134) #[true, false, false, false, false, false, false, false, false, false, false, false, false, false, false, false, false] rfl rfl (by kernel_rfl) (by decide) (fun K hK => ?_)
      refine goes_ Try.func32 (by kernel_rfl) rfl #[] (by rfl) rfl rfl (by (try simp only [List.map_toArray, List.map_cons, List.map_nil]); first | done | rfl) ?_
      refine (awake_true _).mono ?_
      rintro e w21 ⟨rfl, HBc⟩
      refine ⟨_, rfl, ?_⟩
      have BKn_gb2 : Aside0 (w21.heap[gb2]? = some (.cells #[.int .i64 fn, .int .i64 a1, .int .i64 a2, .slice A0 l.length c0, .int .i64 a4, .int .i64 a5, .int .i64 a6] 24 (0, 0))) := Aside0.mk (blk_below (g := gb2) (by (with_reducible repeat (first | refine blk_drewN ?_ _ | refine blk_drew ?_ | refine blk_alloc ?_ _)); exact BK_gb2.out) HBc)
      have HB0n := Aside0.mk (below_step (by repeat (first | (with_reducible first | exact HB0.out | apply below_alloc | apply pw_below_drewN | apply below_drew1 | refine below_set ?_ GE0_gb2.out | refine below_set ?_ GE0_gb3.out) | exact HB0.out)) HBc)
      have HB_zn := Aside0.mk (below_step (by repeat (first | (with_reducible first | exact HB_z.out | apply below_alloc | apply pw_below_drewN | apply below_drew1) | exact HB_z.out)) HBc)
      clear HBc BK_gb2 HB0 HB_z hczq17_0 hfzq17_0 hczq17_1 hfzq17_1 hczq17_2 hfzq17_2 hczq17_3 hfzq17_3 hczq17_4 hfzq17_4 hczq17_5 hfzq17_5 hczq17_6 hfzq17_6
      have BK_gb2 := BKn_gb2
      have HB0 := HB0n
      have HB_z := HB_zn
      clear BKn_gb2 HB0n HB_zn
      refine hK.out _ _ ?_ (fun hHeld => ?_)
      · exact ⟨cell_now (by repeat (first | (with_reducible first | exact HB_z.out | apply below_alloc | apply pw_below_drewN | apply below_drew1) | exact HB_z.out)) HXz_0.out, (blk_cell (by (with_reducible repeat (first | refine blk_drewN ?_ _ | refine blk_drew ?_ | refine blk_alloc ?_ _)); exact BK_gb2.out) 0).trans rfl⟩
      clear hK K
      refine norm_ (a' := ?_) ?_ ?_
      rotate_left
      · show Act.put _ (some 134) _ = _
        simp only [Act.put, List.setIfInBounds_toArray, List.set_cons_zero, List.set_cons_succ, i64_w, i32_w]
        rfl
      refine pure_ (i := 1) (N := some 135) (v := ?_) (a' := ?_) #[true, true, false, false, false, false, false, false, false, false, false, false, false, false, false, false, false] rfl rfl (by kernel_rfl) (fun _ _ _ h => h) (Or.inl ⟨by rfl, ?_⟩) ?_ ?_
      rotate_left
      · intro w'
        go_simp
        with_reducible rfl
      rotate_left
      · simp only [Act.put, List.setIfInBounds_toArray, List.set_cons_zero, List.set_cons_succ, i64_w, i32_w]
        rfl
      refine pure_ (i := 2) (N := some 136) (v := ?_) (a' := ?_) #[true, true, true, false, false, false, false, false, false, false, false, false, false, false, false, false, false] rfl rfl (by kernel_rfl) (fun _ _ _ h => h) (Or.inl ⟨by rfl, ?_⟩) ?_ ?_
      rotate_left
      · intro w'
        go_simp
        with_reducible rfl
      rotate_left
      · simp only [Act.put, List.setIfInBounds_toArray, List.set_cons_zero, List.set_cons_succ, i64_w, i32_w]
        rfl
      refine pure_ (i := 3) (N := some 137) (v := ?_) (a' := ?_) #[true, true, true, true, false, false, false, false, false, false, false, false, false, false, false, false, false] rfl rfl (by kernel_rfl) (fun _ _ _ h => h) (Or.inl ⟨by rfl, ?_⟩) ?_ ?_
      rotate_left
      · intro w'
        go_simp
        with_reducible rfl
      rotate_left
      · simp only [Act.put, List.setIfInBounds_toArray, List.set_cons_zero, List.set_cons_succ, i64_w, i32_w]
        rfl
      refine pure_ (i := 4) (N := some 138) (v := ?_) (a' := ?_) #[true, true, true, true, true, false, false, false, false, false, false, false, false, false, false, false, false] rfl rfl (by kernel_rfl) (fun _ _ _ h => h) (Or.inl ⟨by rfl, ?_⟩) ?_ ?_
      rotate_left
      · intro w'
        go_simp
        with_reducible rfl
      rotate_left
      · simp only [Act.put, List.setIfInBounds_toArray, List.set_cons_zero, List.set_cons_succ, i64_w, i32_w]
        rfl
      refine pure_ (i := 5) (N := some 139) (v := ?_) (a' := ?_) #[true, true, true, true, true, true, false, false, false, false, false, false, false, false, false, false, false] rfl rfl (by kernel_rfl) (fun _ _ _ h => h) (Or.inl ⟨by rfl, ?_⟩) ?_ ?_
      rotate_left
      · intro w'
        go_simp
        with_reducible rfl
      rotate_left
      · simp only [Act.put, List.setIfInBounds_toArray, List.set_cons_zero, List.set_cons_succ, i64_w, i32_w]
        rfl
      refine pure_ (i := 6) (N := some 140) (v := ?_) (a' := ?_) #[true, true, true, true, true, true, true, false, false, false, false, false, false, false, false, false, false] rfl rfl (by kernel_rfl) (fun _ _ _ h => h) (Or.inl ⟨by rfl, ?_⟩) ?_ ?_
      rotate_left
      · intro w'
        go_simp
        with_reducible rfl
      rotate_left
      · simp only [Act.put, List.setIfInBounds_toArray, List.set_cons_zero, List.set_cons_succ, i64_w, i32_w]
        rfl
      refine pure_ (i := 7) (N := some 141) (v := ?_) (a' := ?_) #[true, true, true, true, true, true, true, true, false, false, false, false, false, false, false, false, false] rfl rfl (by kernel_rfl) (fun _ _ _ h => h) (Or.inl ⟨by rfl, ?_⟩) ?_ ?_
      rotate_left
      · intro w'
        go_simp
        with_reducible rfl
      rotate_left
      · simp only [Act.put, List.setIfInBounds_toArray, List.set_cons_zero, List.set_cons_succ, i64_w, i32_w]
        rfl
      refine pure_ (i := 8) (N := some 142) (v := ?_) (a' := ?_) #[true, true, true, true, true, true, true, true, true, false, false, false, false, false, false, false, false] rfl rfl (by kernel_rfl) (fun _ _ _ h => h) (Or.inl ⟨by rfl, ?_⟩) ?_ ?_
      rotate_left
      · intro w'
        go_simp
        with_reducible rfl
      rotate_left
      · simp only [Act.put, List.setIfInBounds_toArray, List.set_cons_zero, List.set_cons_succ, i64_w, i32_w]
        rfl
      refine take_ (i := 9) (N := some 143) (v := ?_) (a' := ?_) #[true, true, true, true, true, true, true, true, true, true, false, false, false, false, false, false, false] rfl rfl (by kernel_rfl) (fun _ _ _ h => h) (Or.inl ⟨by rfl, ?_⟩) hHeld ?_ ?_
      rotate_left
      · rintro w' ⟨s0, s1⟩
        go_simp
        with_reducible rfl
      rotate_left
      · simp only [Act.put, List.setIfInBounds_toArray, List.set_cons_zero, List.set_cons_succ, i64_w, i32_w]
        rfl
      refine take_ (i := 10) (N := some 144) (v := ?_) (a' := ?_) #[true, true, true, true, true, true, true, true, true, true, true, false, false, false, false, false, false] rfl rfl (by kernel_rfl) (fun _ _ _ h => h) (Or.inl ⟨by rfl, ?_⟩) hHeld ?_ ?_
      rotate_left
      · rintro w' ⟨s0, s1⟩
        go_simp
        with_reducible rfl
      rotate_left
      · simp only [Act.put, List.setIfInBounds_toArray, List.set_cons_zero, List.set_cons_succ, i64_w, i32_w]
        rfl
      refine take_ (i := 11) (N := some 145) (v := ?_) (a' := ?_) #[true, true, true, true, true, true, true, true, true, true, true, true, false, false, false, false, false] rfl rfl (by kernel_rfl) (fun _ _ _ h => h) (Or.inl ⟨by rfl, ?_⟩) hHeld ?_ ?_
      rotate_left
      · rintro w' ⟨s0, s1⟩
        go_simp
        with_reducible rfl
      rotate_left
      · simp only [Act.put, List.setIfInBounds_toArray, List.set_cons_zero, List.set_cons_succ, i64_w, i32_w]
        rfl
      refine pure_ (i := 12) (N := some 146) (v := ?_) (a' := ?_) #[true, true, true, true, true, true, true, true, true, true, true, true, true, false, false, false, false] rfl rfl (by kernel_rfl) (fun _ _ _ h => h) (Or.inl ⟨by rfl, ?_⟩) ?_ ?_
      rotate_left
      · intro w'
        go_simp
        with_reducible rfl
      rotate_left
      · simp only [Act.put, List.setIfInBounds_toArray, List.set_cons_zero, List.set_cons_succ, i64_w, i32_w]
        rfl
      refine take_ (i := 13) (N := some 147) (v := ?_) (a' := ?_) #[true, true, true, true, true, true, true, true, true, true, true, true, true, true, false, false, false] rfl rfl (by kernel_rfl) (fun _ _ _ h => h) (Or.inl ⟨by rfl, ?_⟩) hHeld ?_ ?_
      rotate_left
      · rintro w' ⟨s0, s1⟩
        go_simp
        with_reducible rfl
      rotate_left
      · simp only [Act.put, List.setIfInBounds_toArray, List.set_cons_zero, List.set_cons_succ, i64_w, i32_w]
        rfl
      refine pure_ (i := 14) (N := some 148) (v := ?_) (a' := ?_) #[true, true, true, true, true, true, true, true, true, true, true, true, true, true, true, false, false] rfl rfl (by kernel_rfl) (fun _ _ _ h => h) (Or.inl ⟨by rfl, ?_⟩) ?_ ?_
      rotate_left
      · intro w'
        go_simp
        with_reducible rfl
      rotate_left
      · simp only [Act.put, List.setIfInBounds_toArray, List.set_cons_zero, List.set_cons_succ, i64_w, i32_w]
        rfl
      refine pure_ (i := 15) (N := some 149) (v := ?_) (a' := ?_) #[true, true, true, true, true, true, true, true, true, true, true, true, true, true, true, true, false] rfl rfl (by kernel_rfl) (fun _ _ _ h => h) (Or.inl ⟨by rfl, ?_⟩) ?_ ?_
      rotate_left
      · intro w'
        go_simp
        with_reducible rfl
      rotate_left
      · simp only [Act.put, List.setIfInBounds_toArray, List.set_cons_zero, List.set_cons_succ, i64_w, i32_w]
        rfl
      refine pure_ (i := 16) (N := some 4) (v := ?_) (a' := ?_) #[true, true, true, true, true, true, true, true, true, true, true, true, true, true, true, true, true] rfl rfl (by kernel_rfl) (fun _ _ _ h => h) (Or.inl ⟨by rfl, ?_⟩) ?_ ?_
      rotate_left
      · intro w'
        go_simp
        with_reducible rfl
      rotate_left
      · simp only [Act.put, List.setIfInBounds_toArray, List.set_cons_zero, List.set_cons_succ, i64_w, i32_w]
        rfl
      refine done_ (by kernel_rfl) ?_
      go_wp2
      go_ret
      exact ⟨rfl, (by repeat (first | (with_reducible first | exact HB0.out | apply below_alloc | apply pw_below_drewN | apply below_drew1 | refine below_set ?_ GE0_gb2.out | refine below_set ?_ GE0_gb3.out) | exact HB0.out))⟩
end Go.Proofs.Ytocicifgglkaeaa.HandSizes

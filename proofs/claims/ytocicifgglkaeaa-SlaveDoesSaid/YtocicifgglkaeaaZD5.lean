/- The words, contracts and walks that this claim leans on, put together by a program of this session (part 5). -/
import Derived.Test.YtocicifgglkaeaaZD4
import Derived.Maps.Own
import Derived.Maps.RangeWalk
import Derived.Carry
section
namespace Go.Proofs.Ytocicifgglkaeaa.SlvJ
open Go.RowKit Go.Proofs.YtocicifgglkaeaaW.PrintWords Go.Proofs.YtocicifgglkaeaaW.PrintLast Go.Proofs.YtocicifgglkaeaaW.PrintMore Go.Proofs.Ytocicifgglkaeaa.Core Go.Proofs.Ytocicifgglkaeaa.Wk Go.Proofs.Ytocicifgglkaeaa.Chk Go.Proofs.Ytocicifgglkaeaa.SlvA Go.Proofs.Ytocicifgglkaeaa.SlvB Go.Proofs.Ytocicifgglkaeaa.SlvE Go.Proofs.Ytocicifgglkaeaa.SlvW Go.Proofs.Ytocicifgglkaeaa.SlvF Go.Proofs.Ytocicifgglkaeaa.SlvG Go.Proofs.Ytocicifgglkaeaa.SlvM Go.Proofs.Ytocicifgglkaeaa.SlvI
set_option linter.unusedVariables false
set_option linter.unusedSimpArgs false
attribute [local go_sem] max2_int min2_int max_two min_two
set_option maxHeartbeats 4000000 in
set_option maxRecDepth 100000 in
theorem rdo_w5_no {w : World} {g : Nat} {R : Nat → Nat} {X : Nat → List Int} (h : IsSlv 51 w g R X) {A : Option Addr} {cc : Nat} {v : List Int} {nv : Nat} (hn : v.length = nv) (hV : Ever (Fp g R) w (fun W => Kd.C (Kd.int .i64) W A v.length v)) {a : Nat} {t n o : Int} (hb : a ≤ 1000000 ∧ nv ≤ 1000000 ∧ 0 < nv) (hlt : (X 0).length < a + nv) : Calls Try.prog 21 #[.pointer (some ⟨g, 0, none⟩), .agg #[.int .i64 5, .int .i64 (a : Int), .int .i64 0, .slice A nv cc, .int .i64 t, .int .i64 n, .int .i64 o]] w fun e w' => ∃ AA cA, e = .returned (.agg #[.slice AA (([] : List Int)).length cA, .int .i64 2]) ∧ (([] : List Int)).length ≤ cA ∧ IsSlv 51 w' g R (X) ∧ Ext (Fp g R) w w' ∧ IsAns w w' AA (([] : List Int)) := by
  have SL : Aside0 (IsSlv 51 w g R (X)) := ⟨h⟩; have XT : Aside0 (Ext (Fp g R) w w) := ⟨Ext.refl _ _⟩; have HV := Aside0.mk hV; have HN := Aside0.mk hn; have tA := Aside0.mk trivial
  have HB := Aside0.mk hb
  have tp : decide (0 < (nv : Int)) = true := decide_eq_true (by omega)
  have tp2 : decide (0 < nv) = true := decide_eq_true (by omega)
  have tm1 : ((nv : Int) < 1) = False := eq_false (by omega); have tm2 : (1 ≤ (nv : Int)) = True := eq_true (by omega); have tm3 : decide ((nv : Int) < 1) = false := decide_eq_false (by omega)
  have HD : Aside0 (∀ ad : Int, ad = (a : Int) + (nv : Int) - 1 → decide (has X 1 ad) = false) := ⟨fun ad e => decide_eq_false (by rw [e]; unfold has; rw [show ((1 : Int) - 1).toNat = 0 from rfl]; omega)⟩
  clear hb hlt
  clear h hV hn
  go_enter Try.func21, Try.ntmps21
  go_wp2_with (first | ((with_reducible refine gate_dst (N := 3) rfl ?_); refine box_event ?hg (N := 3) ?hd (cs := #[.int .i64 5, .int .i64 (a : Int), .int .i64 0, .slice A nv cc, .int .i64 t, .int .i64 n, .int .i64 o]) (t := 24) ?hr ?_; (case hd => rfl); (case hg => rfl); (case hr => first | (go_simp; done) | (go_simp; rfl)); intro q hg w1 hbox HBc; have NS_q : Aside0 (∀ k, Fp g R k → k ≠ q) := ⟨fun k hk e => by have := SL.out.lt k hk; omega⟩; have RG_q : Aside0 (w.heap.size ≤ q) := ⟨Nat.le_trans XT.out.size (Nat.le_of_eq hg.symm)⟩; clear hg; have SLn : Aside0 (IsSlv 51 w1 g R (X)) := ⟨SL.out.below HBc⟩; have XTn : Aside0 (Ext (Fp g R) w w1) := ⟨XT.out.stepB HBc⟩; have HVn : Aside0 (Ever (Fp g R) w1 (fun W => Kd.C (Kd.int .i64) W A v.length v)) := ⟨HV.out.step (.of_below HBc)⟩; clear SL XT HV; have SL := SLn; have XT := XTn; have HV := HVn; clear SLn XTn HVn; have BK_q : Aside0 (w1.heap[q]? = some (.cells #[.int .i64 5, .int .i64 (a : Int), .int .i64 0, .slice A nv cc, .int .i64 t, .int .i64 n, .int .i64 o] 24 (0, 0))) := ⟨hbox⟩; clear hbox HBc; have lc1_0 : w1.cell? ⟨q, 0, none⟩ = some (.int .i64 5) := (blk_cell BK_q.out 0).trans rfl; have lf1_0 := blk_frozen BK_q.out 0; have lc1_1 : w1.cell? ⟨q, 1, none⟩ = some (.int .i64 (a : Int)) := (blk_cell BK_q.out 1).trans rfl; have lf1_1 := blk_frozen BK_q.out 1; have lc1_2 : w1.cell? ⟨q, 2, none⟩ = some (.int .i64 0) := (blk_cell BK_q.out 2).trans rfl; have lf1_2 := blk_frozen BK_q.out 2; have lc1_3 : w1.cell? ⟨q, 3, none⟩ = some (.slice A nv cc) := (blk_cell BK_q.out 3).trans rfl; have lf1_3 := blk_frozen BK_q.out 3; have lc1_4 : w1.cell? ⟨q, 4, none⟩ = some (.int .i64 t) := (blk_cell BK_q.out 4).trans rfl; have lf1_4 := blk_frozen BK_q.out 4; have lc1_5 : w1.cell? ⟨q, 5, none⟩ = some (.int .i64 n) := (blk_cell BK_q.out 5).trans rfl; have lf1_5 := blk_frozen BK_q.out 5; have lc1_6 : w1.cell? ⟨q, 6, none⟩ = some (.int .i64 o) := (blk_cell BK_q.out 6).trans rfl; have lf1_6 := blk_frozen BK_q.out 6) | ((with_reducible refine gate_dst (N := 4) rfl ?_); refine box_event ?hg (N := 4) ?hd (cs := #[.slice none 0 0, .int .i64 0]) (t := 30) ?hr ?_; (case hd => rfl); (case hg => rfl); (case hr => first | (go_simp; done) | (go_simp; rfl)); intro z hg w2 hbox HBc; have NS_z : Aside0 (∀ k, Fp g R k → k ≠ z) := ⟨fun k hk e => by have := SL.out.lt k hk; omega⟩; have RG_z : Aside0 (w.heap.size ≤ z) := ⟨Nat.le_trans XT.out.size (Nat.le_of_eq hg.symm)⟩; have NE_q_z : Aside0 (q ≠ z) := ⟨ne_born (blk_lt BK_q.out) hg⟩; clear hg; have BK_qn : Aside0 (w2.heap[q]? = some (.cells #[.int .i64 5, .int .i64 (a : Int), .int .i64 0, .slice A nv cc, .int .i64 t, .int .i64 n, .int .i64 o] 24 (0, 0))) := ⟨blk_below BK_q.out HBc⟩; have SLn : Aside0 (IsSlv 51 w2 g R (X)) := ⟨SL.out.below HBc⟩; have XTn : Aside0 (Ext (Fp g R) w w2) := ⟨XT.out.stepB HBc⟩; have HVn : Aside0 (Ever (Fp g R) w2 (fun W => Kd.C (Kd.int .i64) W A v.length v)) := ⟨HV.out.step (.of_below HBc)⟩; clear BK_q SL XT HV; have BK_q := BK_qn; have SL := SLn; have XT := XTn; have HV := HVn; clear BK_qn SLn XTn HVn; have BK_z : Aside0 (w2.heap[z]? = some (.cells #[.slice none 0 0, .int .i64 0] 30 (0, 0))) := ⟨hbox⟩; clear hbox HBc; have lc2_0 : w2.cell? ⟨q, 0, none⟩ = some (.int .i64 5) := (blk_cell BK_q.out 0).trans rfl; have lf2_0 := blk_frozen BK_q.out 0; have lc2_1 : w2.cell? ⟨q, 1, none⟩ = some (.int .i64 (a : Int)) := (blk_cell BK_q.out 1).trans rfl; have lf2_1 := blk_frozen BK_q.out 1; have lc2_2 : w2.cell? ⟨q, 2, none⟩ = some (.int .i64 0) := (blk_cell BK_q.out 2).trans rfl; have lf2_2 := blk_frozen BK_q.out 2; have lc2_3 : w2.cell? ⟨q, 3, none⟩ = some (.slice A nv cc) := (blk_cell BK_q.out 3).trans rfl; have lf2_3 := blk_frozen BK_q.out 3; have lc2_4 : w2.cell? ⟨q, 4, none⟩ = some (.int .i64 t) := (blk_cell BK_q.out 4).trans rfl; have lf2_4 := blk_frozen BK_q.out 4; have lc2_5 : w2.cell? ⟨q, 5, none⟩ = some (.int .i64 n) := (blk_cell BK_q.out 5).trans rfl; have lf2_5 := blk_frozen BK_q.out 5; have lc2_6 : w2.cell? ⟨q, 6, none⟩ = some (.int .i64 o) := (blk_cell BK_q.out 6).trans rfl; have lf2_6 := blk_frozen BK_q.out 6; have lc3_0 : w2.cell? ⟨z, 0, none⟩ = some (.slice none 0 0) := (blk_cell BK_z.out 0).trans rfl; have lf3_0 := blk_frozen BK_z.out 0; have lc3_1 : w2.cell? ⟨z, 1, none⟩ = some (.int .i64 0) := (blk_cell BK_z.out 1).trans rfl; have lf3_1 := blk_frozen BK_z.out 1) | (go_at_call 25; have _t := tA; refine (rhas_c SL.out _ _ (HD.out _ ?hx)).mono ?_; (case hx => (have hB := HB.out; first | rfl | omega | (simp only [wrap64]; omega))); rintro e w' ⟨rfl, rfl⟩; clear tA _t; have tB := Aside0.mk trivial) | ((with_reducible refine gate_store (p := 4) rfl ?_); refine store_event (w1 := ?_) rfl (p := 4) rfl rfl ?hr ?_; rotate_left; (case hr => go_simp; rfl); intro w4 hw_; obtain ⟨hput, HEc⟩ := put2 hw_ BK_z.out; clear hw_; have BK_qn : Aside0 (w4.heap[q]? = some (.cells #[.int .i64 5, .int .i64 (a : Int), .int .i64 0, .slice A nv cc, .int .i64 t, .int .i64 n, .int .i64 o] 24 (0, 0))) := ⟨Ext.blk HEc BK_q.out (NE_q_z.out)⟩; have SLn : Aside0 (IsSlv 51 w4 g R (X)) := ⟨SL.out.ext HEc (fun k hk e => NS_z.out k hk e)⟩; have XTn : Aside0 (Ext (Fp g R) w w4) := ⟨XT.out.step HEc (fun k e => .inr (by rw [show k = z from e]; exact RG_z.out))⟩; clear BK_q SL XT; have BK_q := BK_qn; have SL := SLn; have XT := XTn; clear BK_qn SLn XTn; clear BK_z HV; have BK_z : Aside0 (w4.heap[z]? = some (.cells #[.slice none 0 0, .int .i64 2] 30 (0, 0))) := ⟨hput⟩; have HST := Aside0.mk HEc; clear hput HEc))
  refine bodyPost_ret (results_cell_row rfl _ _ z 30 #[.slice none 0 0, .int .i64 2] (0, 0) _ rfl BK_z.out Try.underlying30 rfl (by kernel_rfl)) rfl ?_
  exact ⟨none, 0, rfl, Nat.le_refl _, SL.out, XT.out, fun M hM => Ever.nil _⟩
set_option maxHeartbeats 4000000 in
set_option maxRecDepth 100000 in
theorem rdo_w5_yes {w : World} {g : Nat} {R : Nat → Nat} {X : Nat → List Int} (h : IsSlv 51 w g R X) {A : Option Addr} {cc : Nat} {v : List Int} {nv : Nat} (hn : v.length = nv) (hV : Ever (Fp g R) w (fun W => Kd.C (Kd.int .i64) W A v.length v)) {a : Nat} {t n o : Int} (hb : a ≤ 1000000 ∧ nv ≤ 1000000 ∧ 0 < nv) (hfit : a + nv ≤ (X 0).length) : Calls Try.prog 21 #[.pointer (some ⟨g, 0, none⟩), .agg #[.int .i64 5, .int .i64 (a : Int), .int .i64 0, .slice A nv cc, .int .i64 t, .int .i64 n, .int .i64 o]] w fun e w' => ∃ AA cA, e = .returned (.agg #[.slice AA (([] : List Int)).length cA, .int .i64 0]) ∧ (([] : List Int)).length ≤ cA ∧ IsSlv 51 w' g R (upd X 0 (wrAt (X 0) a v)) ∧ Ext (Fp g R) w w' ∧ IsAns w w' AA (([] : List Int)) := by
  have SL : Aside0 (IsSlv 51 w g R (X)) := ⟨h⟩; have XT : Aside0 (Ext (Fp g R) w w) := ⟨Ext.refl _ _⟩; have HV := Aside0.mk hV; have HN := Aside0.mk hn; have tA := Aside0.mk trivial
  have HB := Aside0.mk hb
  have tp : decide (0 < (nv : Int)) = true := decide_eq_true (by omega)
  have tp2 : decide (0 < nv) = true := decide_eq_true (by omega)
  have tm1 : ((nv : Int) < 1) = False := eq_false (by omega); have tm2 : (1 ≤ (nv : Int)) = True := eq_true (by omega); have tm3 : decide ((nv : Int) < 1) = false := decide_eq_false (by omega)
  have HFW := Aside0.mk hfit
  have HD : Aside0 (∀ ad : Int, ad = (a : Int) + (nv : Int) - 1 → decide (has X 1 ad) = true) := ⟨fun ad e => decide_eq_true (by rw [e]; unfold has; rw [show ((1 : Int) - 1).toNat = 0 from rfl]; omega)⟩
  clear hb hfit
  clear h hV hn
  go_enter Try.func21, Try.ntmps21
  go_wp2_with (first | ((with_reducible refine gate_dst (N := 3) rfl ?_); refine box_event ?hg (N := 3) ?hd (cs := #[.int .i64 5, .int .i64 (a : Int), .int .i64 0, .slice A nv cc, .int .i64 t, .int .i64 n, .int .i64 o]) (t := 24) ?hr ?_; (case hd => rfl); (case hg => rfl); (case hr => first | (go_simp; done) | (go_simp; rfl)); intro q hg w1 hbox HBc; have NS_q : Aside0 (∀ k, Fp g R k → k ≠ q) := ⟨fun k hk e => by have := SL.out.lt k hk; omega⟩; have RG_q : Aside0 (w.heap.size ≤ q) := ⟨Nat.le_trans XT.out.size (Nat.le_of_eq hg.symm)⟩; clear hg; have SLn : Aside0 (IsSlv 51 w1 g R (X)) := ⟨SL.out.below HBc⟩; have XTn : Aside0 (Ext (Fp g R) w w1) := ⟨XT.out.stepB HBc⟩; have HVn : Aside0 (Ever (Fp g R) w1 (fun W => Kd.C (Kd.int .i64) W A v.length v)) := ⟨HV.out.step (.of_below HBc)⟩; clear SL XT HV; have SL := SLn; have XT := XTn; have HV := HVn; clear SLn XTn HVn; have BK_q : Aside0 (w1.heap[q]? = some (.cells #[.int .i64 5, .int .i64 (a : Int), .int .i64 0, .slice A nv cc, .int .i64 t, .int .i64 n, .int .i64 o] 24 (0, 0))) := ⟨hbox⟩; clear hbox HBc; have lc1_0 : w1.cell? ⟨q, 0, none⟩ = some (.int .i64 5) := (blk_cell BK_q.out 0).trans rfl; have lf1_0 := blk_frozen BK_q.out 0; have lc1_1 : w1.cell? ⟨q, 1, none⟩ = some (.int .i64 (a : Int)) := (blk_cell BK_q.out 1).trans rfl; have lf1_1 := blk_frozen BK_q.out 1; have lc1_2 : w1.cell? ⟨q, 2, none⟩ = some (.int .i64 0) := (blk_cell BK_q.out 2).trans rfl; have lf1_2 := blk_frozen BK_q.out 2; have lc1_3 : w1.cell? ⟨q, 3, none⟩ = some (.slice A nv cc) := (blk_cell BK_q.out 3).trans rfl; have lf1_3 := blk_frozen BK_q.out 3; have lc1_4 : w1.cell? ⟨q, 4, none⟩ = some (.int .i64 t) := (blk_cell BK_q.out 4).trans rfl; have lf1_4 := blk_frozen BK_q.out 4; have lc1_5 : w1.cell? ⟨q, 5, none⟩ = some (.int .i64 n) := (blk_cell BK_q.out 5).trans rfl; have lf1_5 := blk_frozen BK_q.out 5; have lc1_6 : w1.cell? ⟨q, 6, none⟩ = some (.int .i64 o) := (blk_cell BK_q.out 6).trans rfl; have lf1_6 := blk_frozen BK_q.out 6) | ((with_reducible refine gate_dst (N := 4) rfl ?_); refine box_event ?hg (N := 4) ?hd (cs := #[.slice none 0 0, .int .i64 0]) (t := 30) ?hr ?_; (case hd => rfl); (case hg => rfl); (case hr => first | (go_simp; done) | (go_simp; rfl)); intro z hg w2 hbox HBc; have NS_z : Aside0 (∀ k, Fp g R k → k ≠ z) := ⟨fun k hk e => by have := SL.out.lt k hk; omega⟩; have RG_z : Aside0 (w.heap.size ≤ z) := ⟨Nat.le_trans XT.out.size (Nat.le_of_eq hg.symm)⟩; have NE_q_z : Aside0 (q ≠ z) := ⟨ne_born (blk_lt BK_q.out) hg⟩; clear hg; have BK_qn : Aside0 (w2.heap[q]? = some (.cells #[.int .i64 5, .int .i64 (a : Int), .int .i64 0, .slice A nv cc, .int .i64 t, .int .i64 n, .int .i64 o] 24 (0, 0))) := ⟨blk_below BK_q.out HBc⟩; have SLn : Aside0 (IsSlv 51 w2 g R (X)) := ⟨SL.out.below HBc⟩; have XTn : Aside0 (Ext (Fp g R) w w2) := ⟨XT.out.stepB HBc⟩; have HVn : Aside0 (Ever (Fp g R) w2 (fun W => Kd.C (Kd.int .i64) W A v.length v)) := ⟨HV.out.step (.of_below HBc)⟩; clear BK_q SL XT HV; have BK_q := BK_qn; have SL := SLn; have XT := XTn; have HV := HVn; clear BK_qn SLn XTn HVn; have BK_z : Aside0 (w2.heap[z]? = some (.cells #[.slice none 0 0, .int .i64 0] 30 (0, 0))) := ⟨hbox⟩; clear hbox HBc; have lc2_0 : w2.cell? ⟨q, 0, none⟩ = some (.int .i64 5) := (blk_cell BK_q.out 0).trans rfl; have lf2_0 := blk_frozen BK_q.out 0; have lc2_1 : w2.cell? ⟨q, 1, none⟩ = some (.int .i64 (a : Int)) := (blk_cell BK_q.out 1).trans rfl; have lf2_1 := blk_frozen BK_q.out 1; have lc2_2 : w2.cell? ⟨q, 2, none⟩ = some (.int .i64 0) := (blk_cell BK_q.out 2).trans rfl; have lf2_2 := blk_frozen BK_q.out 2; have lc2_3 : w2.cell? ⟨q, 3, none⟩ = some (.slice A nv cc) := (blk_cell BK_q.out 3).trans rfl; have lf2_3 := blk_frozen BK_q.out 3; have lc2_4 : w2.cell? ⟨q, 4, none⟩ = some (.int .i64 t) := (blk_cell BK_q.out 4).trans rfl; have lf2_4 := blk_frozen BK_q.out 4; have lc2_5 : w2.cell? ⟨q, 5, none⟩ = some (.int .i64 n) := (blk_cell BK_q.out 5).trans rfl; have lf2_5 := blk_frozen BK_q.out 5; have lc2_6 : w2.cell? ⟨q, 6, none⟩ = some (.int .i64 o) := (blk_cell BK_q.out 6).trans rfl; have lf2_6 := blk_frozen BK_q.out 6; have lc3_0 : w2.cell? ⟨z, 0, none⟩ = some (.slice none 0 0) := (blk_cell BK_z.out 0).trans rfl; have lf3_0 := blk_frozen BK_z.out 0; have lc3_1 : w2.cell? ⟨z, 1, none⟩ = some (.int .i64 0) := (blk_cell BK_z.out 1).trans rfl; have lf3_1 := blk_frozen BK_z.out 1) | (go_at_call 25; have _t := tA; refine (rhas_c SL.out _ _ (HD.out _ ?hx)).mono ?_; (case hx => (have hB := HB.out; first | rfl | omega | (simp only [wrap64]; omega))); rintro e w' ⟨rfl, rfl⟩; clear tA _t; have tB := Aside0.mk trivial) | (go_at_call 47; refine (write_c SL.out (K := 0) (by omega) HN.out HFW.out (by decide) (HV.out.grow (Ext.refl _ _) (fun k e => .inl (.inr ⟨0, by omega, e⟩)))).mono ?_; rintro e w3 ⟨rfl, hsl, HEc⟩; have BK_qn : Aside0 (w3.heap[q]? = some (.cells #[.int .i64 5, .int .i64 (a : Int), .int .i64 0, .slice A nv cc, .int .i64 t, .int .i64 n, .int .i64 o] 24 (0, 0))) := ⟨Ext.blk HEc BK_q.out (fun e => NS_q.out _ (.inr ⟨0, by omega, rfl⟩) e.symm)⟩; have BK_zn : Aside0 (w3.heap[z]? = some (.cells #[.slice none 0 0, .int .i64 0] 30 (0, 0))) := ⟨Ext.blk HEc BK_z.out (fun e => NS_z.out _ (.inr ⟨0, by omega, rfl⟩) e.symm)⟩; have SLn : Aside0 (IsSlv 51 w3 g R (upd X 0 (wrAt (X 0) a v))) := ⟨hsl⟩; have XTn : Aside0 (Ext (Fp g R) w w3) := ⟨XT.out.step HEc (fun k e => .inl (.inr ⟨0, by omega, e⟩))⟩; have HVn : Aside0 (Ever (Fp g R) w3 (fun W => Kd.C (Kd.int .i64) W A v.length v)) := ⟨HV.out.step (HEc.sub (fun k e => .inr ⟨0, by omega, e⟩))⟩; clear BK_q BK_z SL XT HV; have BK_q := BK_qn; have BK_z := BK_zn; have SL := SLn; have XT := XTn; have HV := HVn; clear BK_qn BK_zn SLn XTn HVn; clear hsl HEc; have lc4_0 : w3.cell? ⟨q, 0, none⟩ = some (.int .i64 5) := (blk_cell BK_q.out 0).trans rfl; have lf4_0 := blk_frozen BK_q.out 0; have lc4_1 : w3.cell? ⟨q, 1, none⟩ = some (.int .i64 (a : Int)) := (blk_cell BK_q.out 1).trans rfl; have lf4_1 := blk_frozen BK_q.out 1; have lc4_2 : w3.cell? ⟨q, 2, none⟩ = some (.int .i64 0) := (blk_cell BK_q.out 2).trans rfl; have lf4_2 := blk_frozen BK_q.out 2; have lc4_3 : w3.cell? ⟨q, 3, none⟩ = some (.slice A nv cc) := (blk_cell BK_q.out 3).trans rfl; have lf4_3 := blk_frozen BK_q.out 3; have lc4_4 : w3.cell? ⟨q, 4, none⟩ = some (.int .i64 t) := (blk_cell BK_q.out 4).trans rfl; have lf4_4 := blk_frozen BK_q.out 4; have lc4_5 : w3.cell? ⟨q, 5, none⟩ = some (.int .i64 n) := (blk_cell BK_q.out 5).trans rfl; have lf4_5 := blk_frozen BK_q.out 5; have lc4_6 : w3.cell? ⟨q, 6, none⟩ = some (.int .i64 o) := (blk_cell BK_q.out 6).trans rfl; have lf4_6 := blk_frozen BK_q.out 6; have lc5_0 : w3.cell? ⟨z, 0, none⟩ = some (.slice none 0 0) := (blk_cell BK_z.out 0).trans rfl; have lf5_0 := blk_frozen BK_z.out 0; have lc5_1 : w3.cell? ⟨z, 1, none⟩ = some (.int .i64 0) := (blk_cell BK_z.out 1).trans rfl; have lf5_1 := blk_frozen BK_z.out 1) | ((with_reducible refine gate_dst (N := 9) rfl ?_); refine box_event ?hg (N := 9) ?hd (cs := #[.slice none 0 0, .int .i64 0]) (t := 30) ?hr ?_; (case hd => rfl); (case hg => rfl); (case hr => first | (go_simp; done) | (go_simp; rfl)); intro y hg w4 hbox HBc; have NS_y : Aside0 (∀ k, Fp g R k → k ≠ y) := ⟨fun k hk e => by have := SL.out.lt k hk; omega⟩; have RG_y : Aside0 (w.heap.size ≤ y) := ⟨Nat.le_trans XT.out.size (Nat.le_of_eq hg.symm)⟩; have NE_q_y : Aside0 (q ≠ y) := ⟨ne_born (blk_lt BK_q.out) hg⟩; have NE_z_y : Aside0 (z ≠ y) := ⟨ne_born (blk_lt BK_z.out) hg⟩; clear hg; have BK_qn : Aside0 (w4.heap[q]? = some (.cells #[.int .i64 5, .int .i64 (a : Int), .int .i64 0, .slice A nv cc, .int .i64 t, .int .i64 n, .int .i64 o] 24 (0, 0))) := ⟨blk_below BK_q.out HBc⟩; have BK_zn : Aside0 (w4.heap[z]? = some (.cells #[.slice none 0 0, .int .i64 0] 30 (0, 0))) := ⟨blk_below BK_z.out HBc⟩; have SLn : Aside0 (IsSlv 51 w4 g R (upd X 0 (wrAt (X 0) a v))) := ⟨SL.out.below HBc⟩; have XTn : Aside0 (Ext (Fp g R) w w4) := ⟨XT.out.stepB HBc⟩; have HVn : Aside0 (Ever (Fp g R) w4 (fun W => Kd.C (Kd.int .i64) W A v.length v)) := ⟨HV.out.step (.of_below HBc)⟩; clear BK_q BK_z SL XT HV; have BK_q := BK_qn; have BK_z := BK_zn; have SL := SLn; have XT := XTn; have HV := HVn; clear BK_qn BK_zn SLn XTn HVn; have BK_y : Aside0 (w4.heap[y]? = some (.cells #[.slice none 0 0, .int .i64 0] 30 (0, 0))) := ⟨hbox⟩; clear hbox HBc; have lc6_0 : w4.cell? ⟨q, 0, none⟩ = some (.int .i64 5) := (blk_cell BK_q.out 0).trans rfl; have lf6_0 := blk_frozen BK_q.out 0; have lc6_1 : w4.cell? ⟨q, 1, none⟩ = some (.int .i64 (a : Int)) := (blk_cell BK_q.out 1).trans rfl; have lf6_1 := blk_frozen BK_q.out 1; have lc6_2 : w4.cell? ⟨q, 2, none⟩ = some (.int .i64 0) := (blk_cell BK_q.out 2).trans rfl; have lf6_2 := blk_frozen BK_q.out 2; have lc6_3 : w4.cell? ⟨q, 3, none⟩ = some (.slice A nv cc) := (blk_cell BK_q.out 3).trans rfl; have lf6_3 := blk_frozen BK_q.out 3; have lc6_4 : w4.cell? ⟨q, 4, none⟩ = some (.int .i64 t) := (blk_cell BK_q.out 4).trans rfl; have lf6_4 := blk_frozen BK_q.out 4; have lc6_5 : w4.cell? ⟨q, 5, none⟩ = some (.int .i64 n) := (blk_cell BK_q.out 5).trans rfl; have lf6_5 := blk_frozen BK_q.out 5; have lc6_6 : w4.cell? ⟨q, 6, none⟩ = some (.int .i64 o) := (blk_cell BK_q.out 6).trans rfl; have lf6_6 := blk_frozen BK_q.out 6; have lc7_0 : w4.cell? ⟨z, 0, none⟩ = some (.slice none 0 0) := (blk_cell BK_z.out 0).trans rfl; have lf7_0 := blk_frozen BK_z.out 0; have lc7_1 : w4.cell? ⟨z, 1, none⟩ = some (.int .i64 0) := (blk_cell BK_z.out 1).trans rfl; have lf7_1 := blk_frozen BK_z.out 1; have lc8_0 : w4.cell? ⟨y, 0, none⟩ = some (.slice none 0 0) := (blk_cell BK_y.out 0).trans rfl; have lf8_0 := blk_frozen BK_y.out 0; have lc8_1 : w4.cell? ⟨y, 1, none⟩ = some (.int .i64 0) := (blk_cell BK_y.out 1).trans rfl; have lf8_1 := blk_frozen BK_y.out 1))
  go_loopw [10] (fun u wr => u = .int .i64 0 ∧ w4 = wr) (fun _ _ => 0)
  case atStart => exact ⟨rfl, rfl⟩
  case round =>
    obtain ⟨rfl, rfl⟩ := hrel
    have lc9_0 : w4.cell? ⟨q, 0, none⟩ = some (.int .i64 5) := (blk_cell BK_q.out 0).trans rfl; have lf9_0 := blk_frozen BK_q.out 0
    have lc9_1 : w4.cell? ⟨q, 1, none⟩ = some (.int .i64 (a : Int)) := (blk_cell BK_q.out 1).trans rfl; have lf9_1 := blk_frozen BK_q.out 1
    have lc9_2 : w4.cell? ⟨q, 2, none⟩ = some (.int .i64 0) := (blk_cell BK_q.out 2).trans rfl; have lf9_2 := blk_frozen BK_q.out 2
    have lc9_3 : w4.cell? ⟨q, 3, none⟩ = some (.slice A nv cc) := (blk_cell BK_q.out 3).trans rfl; have lf9_3 := blk_frozen BK_q.out 3
    have lc9_4 : w4.cell? ⟨q, 4, none⟩ = some (.int .i64 t) := (blk_cell BK_q.out 4).trans rfl; have lf9_4 := blk_frozen BK_q.out 4
    have lc9_5 : w4.cell? ⟨q, 5, none⟩ = some (.int .i64 n) := (blk_cell BK_q.out 5).trans rfl; have lf9_5 := blk_frozen BK_q.out 5
    have lc9_6 : w4.cell? ⟨q, 6, none⟩ = some (.int .i64 o) := (blk_cell BK_q.out 6).trans rfl; have lf9_6 := blk_frozen BK_q.out 6
    have lc10_0 : w4.cell? ⟨z, 0, none⟩ = some (.slice none 0 0) := (blk_cell BK_z.out 0).trans rfl; have lf10_0 := blk_frozen BK_z.out 0
    have lc10_1 : w4.cell? ⟨z, 1, none⟩ = some (.int .i64 0) := (blk_cell BK_z.out 1).trans rfl; have lf10_1 := blk_frozen BK_z.out 1
    have lc11_0 : w4.cell? ⟨y, 0, none⟩ = some (.slice none 0 0) := (blk_cell BK_y.out 0).trans rfl; have lf11_0 := blk_frozen BK_y.out 0
    have lc11_1 : w4.cell? ⟨y, 1, none⟩ = some (.int .i64 0) := (blk_cell BK_y.out 1).trans rfl; have lf11_1 := blk_frozen BK_y.out 1
    go_wp2_with (first | ((with_reducible refine gate_store (p := 4) rfl ?_); refine store_event (w1 := ?_) rfl (p := 4) rfl rfl ?hr ?_; rotate_left; (case hr => go_simp; rfl); intro w5 hw_; obtain ⟨hput, HEc⟩ := put2 hw_ BK_z.out; clear hw_; have BK_qn : Aside0 (w5.heap[q]? = some (.cells #[.int .i64 5, .int .i64 (a : Int), .int .i64 0, .slice A nv cc, .int .i64 t, .int .i64 n, .int .i64 o] 24 (0, 0))) := ⟨Ext.blk HEc BK_q.out (NE_q_z.out)⟩; have BK_yn : Aside0 (w5.heap[y]? = some (.cells #[.slice none 0 0, .int .i64 0] 30 (0, 0))) := ⟨Ext.blk HEc BK_y.out (fun e => NE_z_y.out e.symm)⟩; have SLn : Aside0 (IsSlv 51 w5 g R (upd X 0 (wrAt (X 0) a v))) := ⟨SL.out.ext HEc (fun k hk e => NS_z.out k hk e)⟩; have XTn : Aside0 (Ext (Fp g R) w w5) := ⟨XT.out.step HEc (fun k e => .inr (by rw [show k = z from e]; exact RG_z.out))⟩; clear BK_q BK_y SL XT; have BK_q := BK_qn; have BK_y := BK_yn; have SL := SLn; have XT := XTn; clear BK_qn BK_yn SLn XTn; clear BK_z HV; have BK_z : Aside0 (w5.heap[z]? = some (.cells #[.slice none 0 0, .int .i64 0] 30 (0, 0))) := ⟨hput⟩; have HST := Aside0.mk HEc; clear hput HEc))
    refine bodyPost_ret (results_cell_row rfl _ _ z 30 #[.slice none 0 0, .int .i64 0] (0, 0) _ rfl BK_z.out Try.underlying30 rfl (by kernel_rfl)) rfl ?_
    exact ⟨none, 0, rfl, Nat.le_refl _, SL.out, XT.out, fun M hM => Ever.nil _⟩
set_option maxHeartbeats 4000000 in
set_option maxRecDepth 100000 in
theorem rdo_w6_no {w : World} {g : Nat} {R : Nat → Nat} {X : Nat → List Int} (h : IsSlv 51 w g R X) {A : Option Addr} {cc : Nat} {v : List Int} {nv : Nat} (hn : v.length = nv) (hV : Ever (Fp g R) w (fun W => Kd.C (Kd.int .i64) W A v.length v)) {a : Nat} {t n o : Int} (hb : a ≤ 1000000 ∧ nv ≤ 1000000 ∧ 0 < nv) (hlt : (X 2).length < a + nv) : Calls Try.prog 21 #[.pointer (some ⟨g, 0, none⟩), .agg #[.int .i64 6, .int .i64 (a : Int), .int .i64 0, .slice A nv cc, .int .i64 t, .int .i64 n, .int .i64 o]] w fun e w' => ∃ AA cA, e = .returned (.agg #[.slice AA (([] : List Int)).length cA, .int .i64 2]) ∧ (([] : List Int)).length ≤ cA ∧ IsSlv 51 w' g R (X) ∧ Ext (Fp g R) w w' ∧ IsAns w w' AA (([] : List Int)) := by
  have SL : Aside0 (IsSlv 51 w g R (X)) := ⟨h⟩; have XT : Aside0 (Ext (Fp g R) w w) := ⟨Ext.refl _ _⟩; have HV := Aside0.mk hV; have HN := Aside0.mk hn; have tA := Aside0.mk trivial
  have HB := Aside0.mk hb
  have tp : decide (0 < (nv : Int)) = true := decide_eq_true (by omega)
  have tp2 : decide (0 < nv) = true := decide_eq_true (by omega)
  have tm1 : ((nv : Int) < 1) = False := eq_false (by omega); have tm2 : (1 ≤ (nv : Int)) = True := eq_true (by omega); have tm3 : decide ((nv : Int) < 1) = false := decide_eq_false (by omega)
  have HD : Aside0 (∀ ad : Int, ad = (a : Int) + (nv : Int) - 1 → decide (has X 3 ad) = false) := ⟨fun ad e => decide_eq_false (by rw [e]; unfold has; rw [show ((3 : Int) - 1).toNat = 2 from rfl]; omega)⟩
  clear hb hlt
  clear h hV hn
  go_enter Try.func21, Try.ntmps21
  go_wp2_with (first | ((with_reducible refine gate_dst (N := 3) rfl ?_); refine box_event ?hg (N := 3) ?hd (cs := #[.int .i64 6, .int .i64 (a : Int), .int .i64 0, .slice A nv cc, .int .i64 t, .int .i64 n, .int .i64 o]) (t := 24) ?hr ?_; (case hd => rfl); (case hg => rfl); (case hr => first | (go_simp; done) | (go_simp; rfl)); intro q hg w1 hbox HBc; have NS_q : Aside0 (∀ k, Fp g R k → k ≠ q) := ⟨fun k hk e => by have := SL.out.lt k hk; omega⟩; have RG_q : Aside0 (w.heap.size ≤ q) := ⟨Nat.le_trans XT.out.size (Nat.le_of_eq hg.symm)⟩; clear hg; have SLn : Aside0 (IsSlv 51 w1 g R (X)) := ⟨SL.out.below HBc⟩; have XTn : Aside0 (Ext (Fp g R) w w1) := ⟨XT.out.stepB HBc⟩; have HVn : Aside0 (Ever (Fp g R) w1 (fun W => Kd.C (Kd.int .i64) W A v.length v)) := ⟨HV.out.step (.of_below HBc)⟩; clear SL XT HV; have SL := SLn; have XT := XTn; have HV := HVn; clear SLn XTn HVn; have BK_q : Aside0 (w1.heap[q]? = some (.cells #[.int .i64 6, .int .i64 (a : Int), .int .i64 0, .slice A nv cc, .int .i64 t, .int .i64 n, .int .i64 o] 24 (0, 0))) := ⟨hbox⟩; clear hbox HBc; have lc1_0 : w1.cell? ⟨q, 0, none⟩ = some (.int .i64 6) := (blk_cell BK_q.out 0).trans rfl; have lf1_0 := blk_frozen BK_q.out 0; have lc1_1 : w1.cell? ⟨q, 1, none⟩ = some (.int .i64 (a : Int)) := (blk_cell BK_q.out 1).trans rfl; have lf1_1 := blk_frozen BK_q.out 1; have lc1_2 : w1.cell? ⟨q, 2, none⟩ = some (.int .i64 0) := (blk_cell BK_q.out 2).trans rfl; have lf1_2 := blk_frozen BK_q.out 2; have lc1_3 : w1.cell? ⟨q, 3, none⟩ = some (.slice A nv cc) := (blk_cell BK_q.out 3).trans rfl; have lf1_3 := blk_frozen BK_q.out 3; have lc1_4 : w1.cell? ⟨q, 4, none⟩ = some (.int .i64 t) := (blk_cell BK_q.out 4).trans rfl; have lf1_4 := blk_frozen BK_q.out 4; have lc1_5 : w1.cell? ⟨q, 5, none⟩ = some (.int .i64 n) := (blk_cell BK_q.out 5).trans rfl; have lf1_5 := blk_frozen BK_q.out 5; have lc1_6 : w1.cell? ⟨q, 6, none⟩ = some (.int .i64 o) := (blk_cell BK_q.out 6).trans rfl; have lf1_6 := blk_frozen BK_q.out 6) | ((with_reducible refine gate_dst (N := 4) rfl ?_); refine box_event ?hg (N := 4) ?hd (cs := #[.slice none 0 0, .int .i64 0]) (t := 30) ?hr ?_; (case hd => rfl); (case hg => rfl); (case hr => first | (go_simp; done) | (go_simp; rfl)); intro z hg w2 hbox HBc; have NS_z : Aside0 (∀ k, Fp g R k → k ≠ z) := ⟨fun k hk e => by have := SL.out.lt k hk; omega⟩; have RG_z : Aside0 (w.heap.size ≤ z) := ⟨Nat.le_trans XT.out.size (Nat.le_of_eq hg.symm)⟩; have NE_q_z : Aside0 (q ≠ z) := ⟨ne_born (blk_lt BK_q.out) hg⟩; clear hg; have BK_qn : Aside0 (w2.heap[q]? = some (.cells #[.int .i64 6, .int .i64 (a : Int), .int .i64 0, .slice A nv cc, .int .i64 t, .int .i64 n, .int .i64 o] 24 (0, 0))) := ⟨blk_below BK_q.out HBc⟩; have SLn : Aside0 (IsSlv 51 w2 g R (X)) := ⟨SL.out.below HBc⟩; have XTn : Aside0 (Ext (Fp g R) w w2) := ⟨XT.out.stepB HBc⟩; have HVn : Aside0 (Ever (Fp g R) w2 (fun W => Kd.C (Kd.int .i64) W A v.length v)) := ⟨HV.out.step (.of_below HBc)⟩; clear BK_q SL XT HV; have BK_q := BK_qn; have SL := SLn; have XT := XTn; have HV := HVn; clear BK_qn SLn XTn HVn; have BK_z : Aside0 (w2.heap[z]? = some (.cells #[.slice none 0 0, .int .i64 0] 30 (0, 0))) := ⟨hbox⟩; clear hbox HBc; have lc2_0 : w2.cell? ⟨q, 0, none⟩ = some (.int .i64 6) := (blk_cell BK_q.out 0).trans rfl; have lf2_0 := blk_frozen BK_q.out 0; have lc2_1 : w2.cell? ⟨q, 1, none⟩ = some (.int .i64 (a : Int)) := (blk_cell BK_q.out 1).trans rfl; have lf2_1 := blk_frozen BK_q.out 1; have lc2_2 : w2.cell? ⟨q, 2, none⟩ = some (.int .i64 0) := (blk_cell BK_q.out 2).trans rfl; have lf2_2 := blk_frozen BK_q.out 2; have lc2_3 : w2.cell? ⟨q, 3, none⟩ = some (.slice A nv cc) := (blk_cell BK_q.out 3).trans rfl; have lf2_3 := blk_frozen BK_q.out 3; have lc2_4 : w2.cell? ⟨q, 4, none⟩ = some (.int .i64 t) := (blk_cell BK_q.out 4).trans rfl; have lf2_4 := blk_frozen BK_q.out 4; have lc2_5 : w2.cell? ⟨q, 5, none⟩ = some (.int .i64 n) := (blk_cell BK_q.out 5).trans rfl; have lf2_5 := blk_frozen BK_q.out 5; have lc2_6 : w2.cell? ⟨q, 6, none⟩ = some (.int .i64 o) := (blk_cell BK_q.out 6).trans rfl; have lf2_6 := blk_frozen BK_q.out 6; have lc3_0 : w2.cell? ⟨z, 0, none⟩ = some (.slice none 0 0) := (blk_cell BK_z.out 0).trans rfl; have lf3_0 := blk_frozen BK_z.out 0; have lc3_1 : w2.cell? ⟨z, 1, none⟩ = some (.int .i64 0) := (blk_cell BK_z.out 1).trans rfl; have lf3_1 := blk_frozen BK_z.out 1) | (go_at_call 25; have _t := tA; refine (rhas_c SL.out _ _ (HD.out _ ?hx)).mono ?_; (case hx => (have hB := HB.out; first | rfl | omega | (simp only [wrap64]; omega))); rintro e w' ⟨rfl, rfl⟩; clear tA _t; have tB := Aside0.mk trivial) | ((with_reducible refine gate_store (p := 4) rfl ?_); refine store_event (w1 := ?_) rfl (p := 4) rfl rfl ?hr ?_; rotate_left; (case hr => go_simp; rfl); intro w4 hw_; obtain ⟨hput, HEc⟩ := put2 hw_ BK_z.out; clear hw_; have BK_qn : Aside0 (w4.heap[q]? = some (.cells #[.int .i64 6, .int .i64 (a : Int), .int .i64 0, .slice A nv cc, .int .i64 t, .int .i64 n, .int .i64 o] 24 (0, 0))) := ⟨Ext.blk HEc BK_q.out (NE_q_z.out)⟩; have SLn : Aside0 (IsSlv 51 w4 g R (X)) := ⟨SL.out.ext HEc (fun k hk e => NS_z.out k hk e)⟩; have XTn : Aside0 (Ext (Fp g R) w w4) := ⟨XT.out.step HEc (fun k e => .inr (by rw [show k = z from e]; exact RG_z.out))⟩; clear BK_q SL XT; have BK_q := BK_qn; have SL := SLn; have XT := XTn; clear BK_qn SLn XTn; clear BK_z HV; have BK_z : Aside0 (w4.heap[z]? = some (.cells #[.slice none 0 0, .int .i64 2] 30 (0, 0))) := ⟨hput⟩; have HST := Aside0.mk HEc; clear hput HEc))
  refine bodyPost_ret (results_cell_row rfl _ _ z 30 #[.slice none 0 0, .int .i64 2] (0, 0) _ rfl BK_z.out Try.underlying30 rfl (by kernel_rfl)) rfl ?_
  exact ⟨none, 0, rfl, Nat.le_refl _, SL.out, XT.out, fun M hM => Ever.nil _⟩
set_option maxHeartbeats 4000000 in
set_option maxRecDepth 100000 in
theorem rdo_w6_yes {w : World} {g : Nat} {R : Nat → Nat} {X : Nat → List Int} (h : IsSlv 51 w g R X) {A : Option Addr} {cc : Nat} {v : List Int} {nv : Nat} (hn : v.length = nv) (hV : Ever (Fp g R) w (fun W => Kd.C (Kd.int .i64) W A v.length v)) {a : Nat} {t n o : Int} (hb : a ≤ 1000000 ∧ nv ≤ 1000000 ∧ 0 < nv) (hfit : a + nv ≤ (X 2).length) : Calls Try.prog 21 #[.pointer (some ⟨g, 0, none⟩), .agg #[.int .i64 6, .int .i64 (a : Int), .int .i64 0, .slice A nv cc, .int .i64 t, .int .i64 n, .int .i64 o]] w fun e w' => ∃ AA cA, e = .returned (.agg #[.slice AA (([] : List Int)).length cA, .int .i64 0]) ∧ (([] : List Int)).length ≤ cA ∧ IsSlv 51 w' g R (upd X 2 (wrAt (X 2) a v)) ∧ Ext (Fp g R) w w' ∧ IsAns w w' AA (([] : List Int)) := by
  have SL : Aside0 (IsSlv 51 w g R (X)) := ⟨h⟩; have XT : Aside0 (Ext (Fp g R) w w) := ⟨Ext.refl _ _⟩; have HV := Aside0.mk hV; have HN := Aside0.mk hn; have tA := Aside0.mk trivial
  have HB := Aside0.mk hb
  have tp : decide (0 < (nv : Int)) = true := decide_eq_true (by omega)
  have tp2 : decide (0 < nv) = true := decide_eq_true (by omega)
  have tm1 : ((nv : Int) < 1) = False := eq_false (by omega); have tm2 : (1 ≤ (nv : Int)) = True := eq_true (by omega); have tm3 : decide ((nv : Int) < 1) = false := decide_eq_false (by omega)
  have HFW := Aside0.mk hfit
  have HD : Aside0 (∀ ad : Int, ad = (a : Int) + (nv : Int) - 1 → decide (has X 3 ad) = true) := ⟨fun ad e => decide_eq_true (by rw [e]; unfold has; rw [show ((3 : Int) - 1).toNat = 2 from rfl]; omega)⟩
  clear hb hfit
  clear h hV hn
  go_enter Try.func21, Try.ntmps21
  go_wp2_with (first | ((with_reducible refine gate_dst (N := 3) rfl ?_); refine box_event ?hg (N := 3) ?hd (cs := #[.int .i64 6, .int .i64 (a : Int), .int .i64 0, .slice A nv cc, .int .i64 t, .int .i64 n, .int .i64 o]) (t := 24) ?hr ?_; (case hd => rfl); (case hg => rfl); (case hr => first | (go_simp; done) | (go_simp; rfl)); intro q hg w1 hbox HBc; have NS_q : Aside0 (∀ k, Fp g R k → k ≠ q) := ⟨fun k hk e => by have := SL.out.lt k hk; omega⟩; have RG_q : Aside0 (w.heap.size ≤ q) := ⟨Nat.le_trans XT.out.size (Nat.le_of_eq hg.symm)⟩; clear hg; have SLn : Aside0 (IsSlv 51 w1 g R (X)) := ⟨SL.out.below HBc⟩; have XTn : Aside0 (Ext (Fp g R) w w1) := ⟨XT.out.stepB HBc⟩; have HVn : Aside0 (Ever (Fp g R) w1 (fun W => Kd.C (Kd.int .i64) W A v.length v)) := ⟨HV.out.step (.of_below HBc)⟩; clear SL XT HV; have SL := SLn; have XT := XTn; have HV := HVn; clear SLn XTn HVn; have BK_q : Aside0 (w1.heap[q]? = some (.cells #[.int .i64 6, .int .i64 (a : Int), .int .i64 0, .slice A nv cc, .int .i64 t, .int .i64 n, .int .i64 o] 24 (0, 0))) := ⟨hbox⟩; clear hbox HBc; have lc1_0 : w1.cell? ⟨q, 0, none⟩ = some (.int .i64 6) := (blk_cell BK_q.out 0).trans rfl; have lf1_0 := blk_frozen BK_q.out 0; have lc1_1 : w1.cell? ⟨q, 1, none⟩ = some (.int .i64 (a : Int)) := (blk_cell BK_q.out 1).trans rfl; have lf1_1 := blk_frozen BK_q.out 1; have lc1_2 : w1.cell? ⟨q, 2, none⟩ = some (.int .i64 0) := (blk_cell BK_q.out 2).trans rfl; have lf1_2 := blk_frozen BK_q.out 2; have lc1_3 : w1.cell? ⟨q, 3, none⟩ = some (.slice A nv cc) := (blk_cell BK_q.out 3).trans rfl; have lf1_3 := blk_frozen BK_q.out 3; have lc1_4 : w1.cell? ⟨q, 4, none⟩ = some (.int .i64 t) := (blk_cell BK_q.out 4).trans rfl; have lf1_4 := blk_frozen BK_q.out 4; have lc1_5 : w1.cell? ⟨q, 5, none⟩ = some (.int .i64 n) := (blk_cell BK_q.out 5).trans rfl; have lf1_5 := blk_frozen BK_q.out 5; have lc1_6 : w1.cell? ⟨q, 6, none⟩ = some (.int .i64 o) := (blk_cell BK_q.out 6).trans rfl; have lf1_6 := blk_frozen BK_q.out 6) | ((with_reducible refine gate_dst (N := 4) rfl ?_); refine box_event ?hg (N := 4) ?hd (cs := #[.slice none 0 0, .int .i64 0]) (t := 30) ?hr ?_; (case hd => rfl); (case hg => rfl); (case hr => first | (go_simp; done) | (go_simp; rfl)); intro z hg w2 hbox HBc; have NS_z : Aside0 (∀ k, Fp g R k → k ≠ z) := ⟨fun k hk e => by have := SL.out.lt k hk; omega⟩; have RG_z : Aside0 (w.heap.size ≤ z) := ⟨Nat.le_trans XT.out.size (Nat.le_of_eq hg.symm)⟩; have NE_q_z : Aside0 (q ≠ z) := ⟨ne_born (blk_lt BK_q.out) hg⟩; clear hg; have BK_qn : Aside0 (w2.heap[q]? = some (.cells #[.int .i64 6, .int .i64 (a : Int), .int .i64 0, .slice A nv cc, .int .i64 t, .int .i64 n, .int .i64 o] 24 (0, 0))) := ⟨blk_below BK_q.out HBc⟩; have SLn : Aside0 (IsSlv 51 w2 g R (X)) := ⟨SL.out.below HBc⟩; have XTn : Aside0 (Ext (Fp g R) w w2) := ⟨XT.out.stepB HBc⟩; have HVn : Aside0 (Ever (Fp g R) w2 (fun W => Kd.C (Kd.int .i64) W A v.length v)) := ⟨HV.out.step (.of_below HBc)⟩; clear BK_q SL XT HV; have BK_q := BK_qn; have SL := SLn; have XT := XTn; have HV := HVn; clear BK_qn SLn XTn HVn; have BK_z : Aside0 (w2.heap[z]? = some (.cells #[.slice none 0 0, .int .i64 0] 30 (0, 0))) := ⟨hbox⟩; clear hbox HBc; have lc2_0 : w2.cell? ⟨q, 0, none⟩ = some (.int .i64 6) := (blk_cell BK_q.out 0).trans rfl; have lf2_0 := blk_frozen BK_q.out 0; have lc2_1 : w2.cell? ⟨q, 1, none⟩ = some (.int .i64 (a : Int)) := (blk_cell BK_q.out 1).trans rfl; have lf2_1 := blk_frozen BK_q.out 1; have lc2_2 : w2.cell? ⟨q, 2, none⟩ = some (.int .i64 0) := (blk_cell BK_q.out 2).trans rfl; have lf2_2 := blk_frozen BK_q.out 2; have lc2_3 : w2.cell? ⟨q, 3, none⟩ = some (.slice A nv cc) := (blk_cell BK_q.out 3).trans rfl; have lf2_3 := blk_frozen BK_q.out 3; have lc2_4 : w2.cell? ⟨q, 4, none⟩ = some (.int .i64 t) := (blk_cell BK_q.out 4).trans rfl; have lf2_4 := blk_frozen BK_q.out 4; have lc2_5 : w2.cell? ⟨q, 5, none⟩ = some (.int .i64 n) := (blk_cell BK_q.out 5).trans rfl; have lf2_5 := blk_frozen BK_q.out 5; have lc2_6 : w2.cell? ⟨q, 6, none⟩ = some (.int .i64 o) := (blk_cell BK_q.out 6).trans rfl; have lf2_6 := blk_frozen BK_q.out 6; have lc3_0 : w2.cell? ⟨z, 0, none⟩ = some (.slice none 0 0) := (blk_cell BK_z.out 0).trans rfl; have lf3_0 := blk_frozen BK_z.out 0; have lc3_1 : w2.cell? ⟨z, 1, none⟩ = some (.int .i64 0) := (blk_cell BK_z.out 1).trans rfl; have lf3_1 := blk_frozen BK_z.out 1) | (go_at_call 25; have _t := tA; refine (rhas_c SL.out _ _ (HD.out _ ?hx)).mono ?_; (case hx => (have hB := HB.out; first | rfl | omega | (simp only [wrap64]; omega))); rintro e w' ⟨rfl, rfl⟩; clear tA _t; have tB := Aside0.mk trivial) | (go_at_call 47; refine (write_c SL.out (K := 2) (by omega) HN.out HFW.out (by decide) (HV.out.grow (Ext.refl _ _) (fun k e => .inl (.inr ⟨2, by omega, e⟩)))).mono ?_; rintro e w3 ⟨rfl, hsl, HEc⟩; have BK_qn : Aside0 (w3.heap[q]? = some (.cells #[.int .i64 6, .int .i64 (a : Int), .int .i64 0, .slice A nv cc, .int .i64 t, .int .i64 n, .int .i64 o] 24 (0, 0))) := ⟨Ext.blk HEc BK_q.out (fun e => NS_q.out _ (.inr ⟨2, by omega, rfl⟩) e.symm)⟩; have BK_zn : Aside0 (w3.heap[z]? = some (.cells #[.slice none 0 0, .int .i64 0] 30 (0, 0))) := ⟨Ext.blk HEc BK_z.out (fun e => NS_z.out _ (.inr ⟨2, by omega, rfl⟩) e.symm)⟩; have SLn : Aside0 (IsSlv 51 w3 g R (upd X 2 (wrAt (X 2) a v))) := ⟨hsl⟩; have XTn : Aside0 (Ext (Fp g R) w w3) := ⟨XT.out.step HEc (fun k e => .inl (.inr ⟨2, by omega, e⟩))⟩; have HVn : Aside0 (Ever (Fp g R) w3 (fun W => Kd.C (Kd.int .i64) W A v.length v)) := ⟨HV.out.step (HEc.sub (fun k e => .inr ⟨2, by omega, e⟩))⟩; clear BK_q BK_z SL XT HV; have BK_q := BK_qn; have BK_z := BK_zn; have SL := SLn; have XT := XTn; have HV := HVn; clear BK_qn BK_zn SLn XTn HVn; clear hsl HEc; have lc4_0 : w3.cell? ⟨q, 0, none⟩ = some (.int .i64 6) := (blk_cell BK_q.out 0).trans rfl; have lf4_0 := blk_frozen BK_q.out 0; have lc4_1 : w3.cell? ⟨q, 1, none⟩ = some (.int .i64 (a : Int)) := (blk_cell BK_q.out 1).trans rfl; have lf4_1 := blk_frozen BK_q.out 1; have lc4_2 : w3.cell? ⟨q, 2, none⟩ = some (.int .i64 0) := (blk_cell BK_q.out 2).trans rfl; have lf4_2 := blk_frozen BK_q.out 2; have lc4_3 : w3.cell? ⟨q, 3, none⟩ = some (.slice A nv cc) := (blk_cell BK_q.out 3).trans rfl; have lf4_3 := blk_frozen BK_q.out 3; have lc4_4 : w3.cell? ⟨q, 4, none⟩ = some (.int .i64 t) := (blk_cell BK_q.out 4).trans rfl; have lf4_4 := blk_frozen BK_q.out 4; have lc4_5 : w3.cell? ⟨q, 5, none⟩ = some (.int .i64 n) := (blk_cell BK_q.out 5).trans rfl; have lf4_5 := blk_frozen BK_q.out 5; have lc4_6 : w3.cell? ⟨q, 6, none⟩ = some (.int .i64 o) := (blk_cell BK_q.out 6).trans rfl; have lf4_6 := blk_frozen BK_q.out 6; have lc5_0 : w3.cell? ⟨z, 0, none⟩ = some (.slice none 0 0) := (blk_cell BK_z.out 0).trans rfl; have lf5_0 := blk_frozen BK_z.out 0; have lc5_1 : w3.cell? ⟨z, 1, none⟩ = some (.int .i64 0) := (blk_cell BK_z.out 1).trans rfl; have lf5_1 := blk_frozen BK_z.out 1) | ((with_reducible refine gate_dst (N := 9) rfl ?_); refine box_event ?hg (N := 9) ?hd (cs := #[.slice none 0 0, .int .i64 0]) (t := 30) ?hr ?_; (case hd => rfl); (case hg => rfl); (case hr => first | (go_simp; done) | (go_simp; rfl)); intro y hg w4 hbox HBc; have NS_y : Aside0 (∀ k, Fp g R k → k ≠ y) := ⟨fun k hk e => by have := SL.out.lt k hk; omega⟩; have RG_y : Aside0 (w.heap.size ≤ y) := ⟨Nat.le_trans XT.out.size (Nat.le_of_eq hg.symm)⟩; have NE_q_y : Aside0 (q ≠ y) := ⟨ne_born (blk_lt BK_q.out) hg⟩; have NE_z_y : Aside0 (z ≠ y) := ⟨ne_born (blk_lt BK_z.out) hg⟩; clear hg; have BK_qn : Aside0 (w4.heap[q]? = some (.cells #[.int .i64 6, .int .i64 (a : Int), .int .i64 0, .slice A nv cc, .int .i64 t, .int .i64 n, .int .i64 o] 24 (0, 0))) := ⟨blk_below BK_q.out HBc⟩; have BK_zn : Aside0 (w4.heap[z]? = some (.cells #[.slice none 0 0, .int .i64 0] 30 (0, 0))) := ⟨blk_below BK_z.out HBc⟩; have SLn : Aside0 (IsSlv 51 w4 g R (upd X 2 (wrAt (X 2) a v))) := ⟨SL.out.below HBc⟩; have XTn : Aside0 (Ext (Fp g R) w w4) := ⟨XT.out.stepB HBc⟩; have HVn : Aside0 (Ever (Fp g R) w4 (fun W => Kd.C (Kd.int .i64) W A v.length v)) := ⟨HV.out.step (.of_below HBc)⟩; clear BK_q BK_z SL XT HV; have BK_q := BK_qn; have BK_z := BK_zn; have SL := SLn; have XT := XTn; have HV := HVn; clear BK_qn BK_zn SLn XTn HVn; have BK_y : Aside0 (w4.heap[y]? = some (.cells #[.slice none 0 0, .int .i64 0] 30 (0, 0))) := ⟨hbox⟩; clear hbox HBc; have lc6_0 : w4.cell? ⟨q, 0, none⟩ = some (.int .i64 6) := (blk_cell BK_q.out 0).trans rfl; have lf6_0 := blk_frozen BK_q.out 0; have lc6_1 : w4.cell? ⟨q, 1, none⟩ = some (.int .i64 (a : Int)) := (blk_cell BK_q.out 1).trans rfl; have lf6_1 := blk_frozen BK_q.out 1; have lc6_2 : w4.cell? ⟨q, 2, none⟩ = some (.int .i64 0) := (blk_cell BK_q.out 2).trans rfl; have lf6_2 := blk_frozen BK_q.out 2; have lc6_3 : w4.cell? ⟨q, 3, none⟩ = some (.slice A nv cc) := (blk_cell BK_q.out 3).trans rfl; have lf6_3 := blk_frozen BK_q.out 3; have lc6_4 : w4.cell? ⟨q, 4, none⟩ = some (.int .i64 t) := (blk_cell BK_q.out 4).trans rfl; have lf6_4 := blk_frozen BK_q.out 4; have lc6_5 : w4.cell? ⟨q, 5, none⟩ = some (.int .i64 n) := (blk_cell BK_q.out 5).trans rfl; have lf6_5 := blk_frozen BK_q.out 5; have lc6_6 : w4.cell? ⟨q, 6, none⟩ = some (.int .i64 o) := (blk_cell BK_q.out 6).trans rfl; have lf6_6 := blk_frozen BK_q.out 6; have lc7_0 : w4.cell? ⟨z, 0, none⟩ = some (.slice none 0 0) := (blk_cell BK_z.out 0).trans rfl; have lf7_0 := blk_frozen BK_z.out 0; have lc7_1 : w4.cell? ⟨z, 1, none⟩ = some (.int .i64 0) := (blk_cell BK_z.out 1).trans rfl; have lf7_1 := blk_frozen BK_z.out 1; have lc8_0 : w4.cell? ⟨y, 0, none⟩ = some (.slice none 0 0) := (blk_cell BK_y.out 0).trans rfl; have lf8_0 := blk_frozen BK_y.out 0; have lc8_1 : w4.cell? ⟨y, 1, none⟩ = some (.int .i64 0) := (blk_cell BK_y.out 1).trans rfl; have lf8_1 := blk_frozen BK_y.out 1))
  go_loopw [10] (fun u wr => u = .int .i64 0 ∧ w4 = wr) (fun _ _ => 0)
  case atStart => exact ⟨rfl, rfl⟩
  case round =>
    obtain ⟨rfl, rfl⟩ := hrel
    have lc9_0 : w4.cell? ⟨q, 0, none⟩ = some (.int .i64 6) := (blk_cell BK_q.out 0).trans rfl; have lf9_0 := blk_frozen BK_q.out 0
    have lc9_1 : w4.cell? ⟨q, 1, none⟩ = some (.int .i64 (a : Int)) := (blk_cell BK_q.out 1).trans rfl; have lf9_1 := blk_frozen BK_q.out 1
    have lc9_2 : w4.cell? ⟨q, 2, none⟩ = some (.int .i64 0) := (blk_cell BK_q.out 2).trans rfl; have lf9_2 := blk_frozen BK_q.out 2
    have lc9_3 : w4.cell? ⟨q, 3, none⟩ = some (.slice A nv cc) := (blk_cell BK_q.out 3).trans rfl; have lf9_3 := blk_frozen BK_q.out 3
    have lc9_4 : w4.cell? ⟨q, 4, none⟩ = some (.int .i64 t) := (blk_cell BK_q.out 4).trans rfl; have lf9_4 := blk_frozen BK_q.out 4
    have lc9_5 : w4.cell? ⟨q, 5, none⟩ = some (.int .i64 n) := (blk_cell BK_q.out 5).trans rfl; have lf9_5 := blk_frozen BK_q.out 5
    have lc9_6 : w4.cell? ⟨q, 6, none⟩ = some (.int .i64 o) := (blk_cell BK_q.out 6).trans rfl; have lf9_6 := blk_frozen BK_q.out 6
    have lc10_0 : w4.cell? ⟨z, 0, none⟩ = some (.slice none 0 0) := (blk_cell BK_z.out 0).trans rfl; have lf10_0 := blk_frozen BK_z.out 0
    have lc10_1 : w4.cell? ⟨z, 1, none⟩ = some (.int .i64 0) := (blk_cell BK_z.out 1).trans rfl; have lf10_1 := blk_frozen BK_z.out 1
    have lc11_0 : w4.cell? ⟨y, 0, none⟩ = some (.slice none 0 0) := (blk_cell BK_y.out 0).trans rfl; have lf11_0 := blk_frozen BK_y.out 0
    have lc11_1 : w4.cell? ⟨y, 1, none⟩ = some (.int .i64 0) := (blk_cell BK_y.out 1).trans rfl; have lf11_1 := blk_frozen BK_y.out 1
    go_wp2_with (first | ((with_reducible refine gate_store (p := 4) rfl ?_); refine store_event (w1 := ?_) rfl (p := 4) rfl rfl ?hr ?_; rotate_left; (case hr => go_simp; rfl); intro w5 hw_; obtain ⟨hput, HEc⟩ := put2 hw_ BK_z.out; clear hw_; have BK_qn : Aside0 (w5.heap[q]? = some (.cells #[.int .i64 6, .int .i64 (a : Int), .int .i64 0, .slice A nv cc, .int .i64 t, .int .i64 n, .int .i64 o] 24 (0, 0))) := ⟨Ext.blk HEc BK_q.out (NE_q_z.out)⟩; have BK_yn : Aside0 (w5.heap[y]? = some (.cells #[.slice none 0 0, .int .i64 0] 30 (0, 0))) := ⟨Ext.blk HEc BK_y.out (fun e => NE_z_y.out e.symm)⟩; have SLn : Aside0 (IsSlv 51 w5 g R (upd X 2 (wrAt (X 2) a v))) := ⟨SL.out.ext HEc (fun k hk e => NS_z.out k hk e)⟩; have XTn : Aside0 (Ext (Fp g R) w w5) := ⟨XT.out.step HEc (fun k e => .inr (by rw [show k = z from e]; exact RG_z.out))⟩; clear BK_q BK_y SL XT; have BK_q := BK_qn; have BK_y := BK_yn; have SL := SLn; have XT := XTn; clear BK_qn BK_yn SLn XTn; clear BK_z HV; have BK_z : Aside0 (w5.heap[z]? = some (.cells #[.slice none 0 0, .int .i64 0] 30 (0, 0))) := ⟨hput⟩; have HST := Aside0.mk HEc; clear hput HEc))
    refine bodyPost_ret (results_cell_row rfl _ _ z 30 #[.slice none 0 0, .int .i64 0] (0, 0) _ rfl BK_z.out Try.underlying30 rfl (by kernel_rfl)) rfl ?_
    exact ⟨none, 0, rfl, Nat.le_refl _, SL.out, XT.out, fun M hM => Ever.nil _⟩
set_option maxHeartbeats 4000000 in
set_option maxRecDepth 100000 in
theorem rdo_w15_no {w : World} {g : Nat} {R : Nat → Nat} {X : Nat → List Int} (h : IsSlv 51 w g R X) {A : Option Addr} {cc : Nat} {v : List Int} {nv : Nat} (hn : v.length = nv) (hV : Ever (Fp g R) w (fun W => Kd.C (Kd.int .i64) W A v.length v)) {a : Nat} {t n o : Int} (hb : a ≤ 1000000 ∧ nv ≤ 1000000 ∧ 0 < nv) (hlt : (X 0).length < a + nv) : Calls Try.prog 21 #[.pointer (some ⟨g, 0, none⟩), .agg #[.int .i64 15, .int .i64 (a : Int), .int .i64 (nv : Int), .slice A nv cc, .int .i64 t, .int .i64 n, .int .i64 o]] w fun e w' => ∃ AA cA, e = .returned (.agg #[.slice AA (([] : List Int)).length cA, .int .i64 2]) ∧ (([] : List Int)).length ≤ cA ∧ IsSlv 51 w' g R (X) ∧ Ext (Fp g R) w w' ∧ IsAns w w' AA (([] : List Int)) := by
  have SL : Aside0 (IsSlv 51 w g R (X)) := ⟨h⟩; have XT : Aside0 (Ext (Fp g R) w w) := ⟨Ext.refl _ _⟩; have HV := Aside0.mk hV; have HN := Aside0.mk hn; have tA := Aside0.mk trivial
  have HB := Aside0.mk hb
  have tp : decide (0 < (nv : Int)) = true := decide_eq_true (by omega)
  have tp2 : decide (0 < nv) = true := decide_eq_true (by omega)
  have tm1 : ((nv : Int) < 1) = False := eq_false (by omega); have tm2 : (1 ≤ (nv : Int)) = True := eq_true (by omega); have tm3 : decide ((nv : Int) < 1) = false := decide_eq_false (by omega)
  have HD : Aside0 (∀ ad : Int, ad = (a : Int) + (nv : Int) - 1 → decide (has X 1 ad) = false) := ⟨fun ad e => decide_eq_false (by rw [e]; unfold has; rw [show ((1 : Int) - 1).toNat = 0 from rfl]; omega)⟩
  clear hb hlt
  clear h hV hn
  go_enter Try.func21, Try.ntmps21
  go_wp2_with (first | ((with_reducible refine gate_dst (N := 3) rfl ?_); refine box_event ?hg (N := 3) ?hd (cs := #[.int .i64 15, .int .i64 (a : Int), .int .i64 (nv : Int), .slice A nv cc, .int .i64 t, .int .i64 n, .int .i64 o]) (t := 24) ?hr ?_; (case hd => rfl); (case hg => rfl); (case hr => first | (go_simp; done) | (go_simp; rfl)); intro q hg w1 hbox HBc; have NS_q : Aside0 (∀ k, Fp g R k → k ≠ q) := ⟨fun k hk e => by have := SL.out.lt k hk; omega⟩; have RG_q : Aside0 (w.heap.size ≤ q) := ⟨Nat.le_trans XT.out.size (Nat.le_of_eq hg.symm)⟩; clear hg; have SLn : Aside0 (IsSlv 51 w1 g R (X)) := ⟨SL.out.below HBc⟩; have XTn : Aside0 (Ext (Fp g R) w w1) := ⟨XT.out.stepB HBc⟩; have HVn : Aside0 (Ever (Fp g R) w1 (fun W => Kd.C (Kd.int .i64) W A v.length v)) := ⟨HV.out.step (.of_below HBc)⟩; clear SL XT HV; have SL := SLn; have XT := XTn; have HV := HVn; clear SLn XTn HVn; have BK_q : Aside0 (w1.heap[q]? = some (.cells #[.int .i64 15, .int .i64 (a : Int), .int .i64 (nv : Int), .slice A nv cc, .int .i64 t, .int .i64 n, .int .i64 o] 24 (0, 0))) := ⟨hbox⟩; clear hbox HBc; have lc1_0 : w1.cell? ⟨q, 0, none⟩ = some (.int .i64 15) := (blk_cell BK_q.out 0).trans rfl; have lf1_0 := blk_frozen BK_q.out 0; have lc1_1 : w1.cell? ⟨q, 1, none⟩ = some (.int .i64 (a : Int)) := (blk_cell BK_q.out 1).trans rfl; have lf1_1 := blk_frozen BK_q.out 1; have lc1_2 : w1.cell? ⟨q, 2, none⟩ = some (.int .i64 (nv : Int)) := (blk_cell BK_q.out 2).trans rfl; have lf1_2 := blk_frozen BK_q.out 2; have lc1_3 : w1.cell? ⟨q, 3, none⟩ = some (.slice A nv cc) := (blk_cell BK_q.out 3).trans rfl; have lf1_3 := blk_frozen BK_q.out 3; have lc1_4 : w1.cell? ⟨q, 4, none⟩ = some (.int .i64 t) := (blk_cell BK_q.out 4).trans rfl; have lf1_4 := blk_frozen BK_q.out 4; have lc1_5 : w1.cell? ⟨q, 5, none⟩ = some (.int .i64 n) := (blk_cell BK_q.out 5).trans rfl; have lf1_5 := blk_frozen BK_q.out 5; have lc1_6 : w1.cell? ⟨q, 6, none⟩ = some (.int .i64 o) := (blk_cell BK_q.out 6).trans rfl; have lf1_6 := blk_frozen BK_q.out 6) | ((with_reducible refine gate_dst (N := 4) rfl ?_); refine box_event ?hg (N := 4) ?hd (cs := #[.slice none 0 0, .int .i64 0]) (t := 30) ?hr ?_; (case hd => rfl); (case hg => rfl); (case hr => first | (go_simp; done) | (go_simp; rfl)); intro z hg w2 hbox HBc; have NS_z : Aside0 (∀ k, Fp g R k → k ≠ z) := ⟨fun k hk e => by have := SL.out.lt k hk; omega⟩; have RG_z : Aside0 (w.heap.size ≤ z) := ⟨Nat.le_trans XT.out.size (Nat.le_of_eq hg.symm)⟩; have NE_q_z : Aside0 (q ≠ z) := ⟨ne_born (blk_lt BK_q.out) hg⟩; clear hg; have BK_qn : Aside0 (w2.heap[q]? = some (.cells #[.int .i64 15, .int .i64 (a : Int), .int .i64 (nv : Int), .slice A nv cc, .int .i64 t, .int .i64 n, .int .i64 o] 24 (0, 0))) := ⟨blk_below BK_q.out HBc⟩; have SLn : Aside0 (IsSlv 51 w2 g R (X)) := ⟨SL.out.below HBc⟩; have XTn : Aside0 (Ext (Fp g R) w w2) := ⟨XT.out.stepB HBc⟩; have HVn : Aside0 (Ever (Fp g R) w2 (fun W => Kd.C (Kd.int .i64) W A v.length v)) := ⟨HV.out.step (.of_below HBc)⟩; clear BK_q SL XT HV; have BK_q := BK_qn; have SL := SLn; have XT := XTn; have HV := HVn; clear BK_qn SLn XTn HVn; have BK_z : Aside0 (w2.heap[z]? = some (.cells #[.slice none 0 0, .int .i64 0] 30 (0, 0))) := ⟨hbox⟩; clear hbox HBc; have lc2_0 : w2.cell? ⟨q, 0, none⟩ = some (.int .i64 15) := (blk_cell BK_q.out 0).trans rfl; have lf2_0 := blk_frozen BK_q.out 0; have lc2_1 : w2.cell? ⟨q, 1, none⟩ = some (.int .i64 (a : Int)) := (blk_cell BK_q.out 1).trans rfl; have lf2_1 := blk_frozen BK_q.out 1; have lc2_2 : w2.cell? ⟨q, 2, none⟩ = some (.int .i64 (nv : Int)) := (blk_cell BK_q.out 2).trans rfl; have lf2_2 := blk_frozen BK_q.out 2; have lc2_3 : w2.cell? ⟨q, 3, none⟩ = some (.slice A nv cc) := (blk_cell BK_q.out 3).trans rfl; have lf2_3 := blk_frozen BK_q.out 3; have lc2_4 : w2.cell? ⟨q, 4, none⟩ = some (.int .i64 t) := (blk_cell BK_q.out 4).trans rfl; have lf2_4 := blk_frozen BK_q.out 4; have lc2_5 : w2.cell? ⟨q, 5, none⟩ = some (.int .i64 n) := (blk_cell BK_q.out 5).trans rfl; have lf2_5 := blk_frozen BK_q.out 5; have lc2_6 : w2.cell? ⟨q, 6, none⟩ = some (.int .i64 o) := (blk_cell BK_q.out 6).trans rfl; have lf2_6 := blk_frozen BK_q.out 6; have lc3_0 : w2.cell? ⟨z, 0, none⟩ = some (.slice none 0 0) := (blk_cell BK_z.out 0).trans rfl; have lf3_0 := blk_frozen BK_z.out 0; have lc3_1 : w2.cell? ⟨z, 1, none⟩ = some (.int .i64 0) := (blk_cell BK_z.out 1).trans rfl; have lf3_1 := blk_frozen BK_z.out 1) | (go_at_call 25; have _t := tA; refine (rhas_c SL.out _ _ (HD.out _ ?hx)).mono ?_; (case hx => (have hB := HB.out; first | rfl | omega | (simp only [wrap64]; omega))); rintro e w' ⟨rfl, rfl⟩; clear tA _t; have tB := Aside0.mk trivial) | ((with_reducible refine gate_store (p := 4) rfl ?_); refine store_event (w1 := ?_) rfl (p := 4) rfl rfl ?hr ?_; rotate_left; (case hr => go_simp; rfl); intro w4 hw_; obtain ⟨hput, HEc⟩ := put2 hw_ BK_z.out; clear hw_; have BK_qn : Aside0 (w4.heap[q]? = some (.cells #[.int .i64 15, .int .i64 (a : Int), .int .i64 (nv : Int), .slice A nv cc, .int .i64 t, .int .i64 n, .int .i64 o] 24 (0, 0))) := ⟨Ext.blk HEc BK_q.out (NE_q_z.out)⟩; have SLn : Aside0 (IsSlv 51 w4 g R (X)) := ⟨SL.out.ext HEc (fun k hk e => NS_z.out k hk e)⟩; have XTn : Aside0 (Ext (Fp g R) w w4) := ⟨XT.out.step HEc (fun k e => .inr (by rw [show k = z from e]; exact RG_z.out))⟩; clear BK_q SL XT; have BK_q := BK_qn; have SL := SLn; have XT := XTn; clear BK_qn SLn XTn; clear BK_z HV; have BK_z : Aside0 (w4.heap[z]? = some (.cells #[.slice none 0 0, .int .i64 2] 30 (0, 0))) := ⟨hput⟩; have HST := Aside0.mk HEc; clear hput HEc))
  refine bodyPost_ret (results_cell_row rfl _ _ z 30 #[.slice none 0 0, .int .i64 2] (0, 0) _ rfl BK_z.out Try.underlying30 rfl (by kernel_rfl)) rfl ?_
  exact ⟨none, 0, rfl, Nat.le_refl _, SL.out, XT.out, fun M hM => Ever.nil _⟩
set_option maxHeartbeats 4000000 in
set_option maxRecDepth 100000 in
theorem rdo_w15_yes {w : World} {g : Nat} {R : Nat → Nat} {X : Nat → List Int} (h : IsSlv 51 w g R X) {A : Option Addr} {cc : Nat} {v : List Int} {nv : Nat} (hn : v.length = nv) (hV : Ever (Fp g R) w (fun W => Kd.C (Kd.int .i64) W A v.length v)) {a : Nat} {t n o : Int} (hb : a ≤ 1000000 ∧ nv ≤ 1000000 ∧ 0 < nv) (hfit : a + nv ≤ (X 0).length) : Calls Try.prog 21 #[.pointer (some ⟨g, 0, none⟩), .agg #[.int .i64 15, .int .i64 (a : Int), .int .i64 (nv : Int), .slice A nv cc, .int .i64 t, .int .i64 n, .int .i64 o]] w fun e w' => ∃ AA cA, e = .returned (.agg #[.slice AA (([] : List Int)).length cA, .int .i64 0]) ∧ (([] : List Int)).length ≤ cA ∧ IsSlv 51 w' g R (upd X 0 (wrAt (X 0) a v)) ∧ Ext (Fp g R) w w' ∧ IsAns w w' AA (([] : List Int)) := by
  have SL : Aside0 (IsSlv 51 w g R (X)) := ⟨h⟩; have XT : Aside0 (Ext (Fp g R) w w) := ⟨Ext.refl _ _⟩; have HV := Aside0.mk hV; have HN := Aside0.mk hn; have tA := Aside0.mk trivial
  have HB := Aside0.mk hb
  have tp : decide (0 < (nv : Int)) = true := decide_eq_true (by omega)
  have tp2 : decide (0 < nv) = true := decide_eq_true (by omega)
  have tm1 : ((nv : Int) < 1) = False := eq_false (by omega); have tm2 : (1 ≤ (nv : Int)) = True := eq_true (by omega); have tm3 : decide ((nv : Int) < 1) = false := decide_eq_false (by omega)
  have HFW := Aside0.mk hfit
  have HD : Aside0 (∀ ad : Int, ad = (a : Int) + (nv : Int) - 1 → decide (has X 1 ad) = true) := ⟨fun ad e => decide_eq_true (by rw [e]; unfold has; rw [show ((1 : Int) - 1).toNat = 0 from rfl]; omega)⟩
  clear hb hfit
  clear h hV hn
  go_enter Try.func21, Try.ntmps21
  go_wp2_with (first | ((with_reducible refine gate_dst (N := 3) rfl ?_); refine box_event ?hg (N := 3) ?hd (cs := #[.int .i64 15, .int .i64 (a : Int), .int .i64 (nv : Int), .slice A nv cc, .int .i64 t, .int .i64 n, .int .i64 o]) (t := 24) ?hr ?_; (case hd => rfl); (case hg => rfl); (case hr => first | (go_simp; done) | (go_simp; rfl)); intro q hg w1 hbox HBc; have NS_q : Aside0 (∀ k, Fp g R k → k ≠ q) := ⟨fun k hk e => by have := SL.out.lt k hk; omega⟩; have RG_q : Aside0 (w.heap.size ≤ q) := ⟨Nat.le_trans XT.out.size (Nat.le_of_eq hg.symm)⟩; clear hg; have SLn : Aside0 (IsSlv 51 w1 g R (X)) := ⟨SL.out.below HBc⟩; have XTn : Aside0 (Ext (Fp g R) w w1) := ⟨XT.out.stepB HBc⟩; have HVn : Aside0 (Ever (Fp g R) w1 (fun W => Kd.C (Kd.int .i64) W A v.length v)) := ⟨HV.out.step (.of_below HBc)⟩; clear SL XT HV; have SL := SLn; have XT := XTn; have HV := HVn; clear SLn XTn HVn; have BK_q : Aside0 (w1.heap[q]? = some (.cells #[.int .i64 15, .int .i64 (a : Int), .int .i64 (nv : Int), .slice A nv cc, .int .i64 t, .int .i64 n, .int .i64 o] 24 (0, 0))) := ⟨hbox⟩; clear hbox HBc; have lc1_0 : w1.cell? ⟨q, 0, none⟩ = some (.int .i64 15) := (blk_cell BK_q.out 0).trans rfl; have lf1_0 := blk_frozen BK_q.out 0; have lc1_1 : w1.cell? ⟨q, 1, none⟩ = some (.int .i64 (a : Int)) := (blk_cell BK_q.out 1).trans rfl; have lf1_1 := blk_frozen BK_q.out 1; have lc1_2 : w1.cell? ⟨q, 2, none⟩ = some (.int .i64 (nv : Int)) := (blk_cell BK_q.out 2).trans rfl; have lf1_2 := blk_frozen BK_q.out 2; have lc1_3 : w1.cell? ⟨q, 3, none⟩ = some (.slice A nv cc) := (blk_cell BK_q.out 3).trans rfl; have lf1_3 := blk_frozen BK_q.out 3; have lc1_4 : w1.cell? ⟨q, 4, none⟩ = some (.int .i64 t) := (blk_cell BK_q.out 4).trans rfl; have lf1_4 := blk_frozen BK_q.out 4; have lc1_5 : w1.cell? ⟨q, 5, none⟩ = some (.int .i64 n) := (blk_cell BK_q.out 5).trans rfl; have lf1_5 := blk_frozen BK_q.out 5; have lc1_6 : w1.cell? ⟨q, 6, none⟩ = some (.int .i64 o) := (blk_cell BK_q.out 6).trans rfl; have lf1_6 := blk_frozen BK_q.out 6) | ((with_reducible refine gate_dst (N := 4) rfl ?_); refine box_event ?hg (N := 4) ?hd (cs := #[.slice none 0 0, .int .i64 0]) (t := 30) ?hr ?_; (case hd => rfl); (case hg => rfl); (case hr => first | (go_simp; done) | (go_simp; rfl)); intro z hg w2 hbox HBc; have NS_z : Aside0 (∀ k, Fp g R k → k ≠ z) := ⟨fun k hk e => by have := SL.out.lt k hk; omega⟩; have RG_z : Aside0 (w.heap.size ≤ z) := ⟨Nat.le_trans XT.out.size (Nat.le_of_eq hg.symm)⟩; have NE_q_z : Aside0 (q ≠ z) := ⟨ne_born (blk_lt BK_q.out) hg⟩; clear hg; have BK_qn : Aside0 (w2.heap[q]? = some (.cells #[.int .i64 15, .int .i64 (a : Int), .int .i64 (nv : Int), .slice A nv cc, .int .i64 t, .int .i64 n, .int .i64 o] 24 (0, 0))) := ⟨blk_below BK_q.out HBc⟩; have SLn : Aside0 (IsSlv 51 w2 g R (X)) := ⟨SL.out.below HBc⟩; have XTn : Aside0 (Ext (Fp g R) w w2) := ⟨XT.out.stepB HBc⟩; have HVn : Aside0 (Ever (Fp g R) w2 (fun W => Kd.C (Kd.int .i64) W A v.length v)) := ⟨HV.out.step (.of_below HBc)⟩; clear BK_q SL XT HV; have BK_q := BK_qn; have SL := SLn; have XT := XTn; have HV := HVn; clear BK_qn SLn XTn HVn; have BK_z : Aside0 (w2.heap[z]? = some (.cells #[.slice none 0 0, .int .i64 0] 30 (0, 0))) := ⟨hbox⟩; clear hbox HBc; have lc2_0 : w2.cell? ⟨q, 0, none⟩ = some (.int .i64 15) := (blk_cell BK_q.out 0).trans rfl; have lf2_0 := blk_frozen BK_q.out 0; have lc2_1 : w2.cell? ⟨q, 1, none⟩ = some (.int .i64 (a : Int)) := (blk_cell BK_q.out 1).trans rfl; have lf2_1 := blk_frozen BK_q.out 1; have lc2_2 : w2.cell? ⟨q, 2, none⟩ = some (.int .i64 (nv : Int)) := (blk_cell BK_q.out 2).trans rfl; have lf2_2 := blk_frozen BK_q.out 2; have lc2_3 : w2.cell? ⟨q, 3, none⟩ = some (.slice A nv cc) := (blk_cell BK_q.out 3).trans rfl; have lf2_3 := blk_frozen BK_q.out 3; have lc2_4 : w2.cell? ⟨q, 4, none⟩ = some (.int .i64 t) := (blk_cell BK_q.out 4).trans rfl; have lf2_4 := blk_frozen BK_q.out 4; have lc2_5 : w2.cell? ⟨q, 5, none⟩ = some (.int .i64 n) := (blk_cell BK_q.out 5).trans rfl; have lf2_5 := blk_frozen BK_q.out 5; have lc2_6 : w2.cell? ⟨q, 6, none⟩ = some (.int .i64 o) := (blk_cell BK_q.out 6).trans rfl; have lf2_6 := blk_frozen BK_q.out 6; have lc3_0 : w2.cell? ⟨z, 0, none⟩ = some (.slice none 0 0) := (blk_cell BK_z.out 0).trans rfl; have lf3_0 := blk_frozen BK_z.out 0; have lc3_1 : w2.cell? ⟨z, 1, none⟩ = some (.int .i64 0) := (blk_cell BK_z.out 1).trans rfl; have lf3_1 := blk_frozen BK_z.out 1) | (go_at_call 25; have _t := tA; refine (rhas_c SL.out _ _ (HD.out _ ?hx)).mono ?_; (case hx => (have hB := HB.out; first | rfl | omega | (simp only [wrap64]; omega))); rintro e w' ⟨rfl, rfl⟩; clear tA _t; have tB := Aside0.mk trivial) | (go_at_call 47; refine (write_c SL.out (K := 0) (by omega) HN.out HFW.out (by decide) (HV.out.grow (Ext.refl _ _) (fun k e => .inl (.inr ⟨0, by omega, e⟩)))).mono ?_; rintro e w3 ⟨rfl, hsl, HEc⟩; have BK_qn : Aside0 (w3.heap[q]? = some (.cells #[.int .i64 15, .int .i64 (a : Int), .int .i64 (nv : Int), .slice A nv cc, .int .i64 t, .int .i64 n, .int .i64 o] 24 (0, 0))) := ⟨Ext.blk HEc BK_q.out (fun e => NS_q.out _ (.inr ⟨0, by omega, rfl⟩) e.symm)⟩; have BK_zn : Aside0 (w3.heap[z]? = some (.cells #[.slice none 0 0, .int .i64 0] 30 (0, 0))) := ⟨Ext.blk HEc BK_z.out (fun e => NS_z.out _ (.inr ⟨0, by omega, rfl⟩) e.symm)⟩; have SLn : Aside0 (IsSlv 51 w3 g R (upd X 0 (wrAt (X 0) a v))) := ⟨hsl⟩; have XTn : Aside0 (Ext (Fp g R) w w3) := ⟨XT.out.step HEc (fun k e => .inl (.inr ⟨0, by omega, e⟩))⟩; have HVn : Aside0 (Ever (Fp g R) w3 (fun W => Kd.C (Kd.int .i64) W A v.length v)) := ⟨HV.out.step (HEc.sub (fun k e => .inr ⟨0, by omega, e⟩))⟩; clear BK_q BK_z SL XT HV; have BK_q := BK_qn; have BK_z := BK_zn; have SL := SLn; have XT := XTn; have HV := HVn; clear BK_qn BK_zn SLn XTn HVn; clear hsl HEc; have lc4_0 : w3.cell? ⟨q, 0, none⟩ = some (.int .i64 15) := (blk_cell BK_q.out 0).trans rfl; have lf4_0 := blk_frozen BK_q.out 0; have lc4_1 : w3.cell? ⟨q, 1, none⟩ = some (.int .i64 (a : Int)) := (blk_cell BK_q.out 1).trans rfl; have lf4_1 := blk_frozen BK_q.out 1; have lc4_2 : w3.cell? ⟨q, 2, none⟩ = some (.int .i64 (nv : Int)) := (blk_cell BK_q.out 2).trans rfl; have lf4_2 := blk_frozen BK_q.out 2; have lc4_3 : w3.cell? ⟨q, 3, none⟩ = some (.slice A nv cc) := (blk_cell BK_q.out 3).trans rfl; have lf4_3 := blk_frozen BK_q.out 3; have lc4_4 : w3.cell? ⟨q, 4, none⟩ = some (.int .i64 t) := (blk_cell BK_q.out 4).trans rfl; have lf4_4 := blk_frozen BK_q.out 4; have lc4_5 : w3.cell? ⟨q, 5, none⟩ = some (.int .i64 n) := (blk_cell BK_q.out 5).trans rfl; have lf4_5 := blk_frozen BK_q.out 5; have lc4_6 : w3.cell? ⟨q, 6, none⟩ = some (.int .i64 o) := (blk_cell BK_q.out 6).trans rfl; have lf4_6 := blk_frozen BK_q.out 6; have lc5_0 : w3.cell? ⟨z, 0, none⟩ = some (.slice none 0 0) := (blk_cell BK_z.out 0).trans rfl; have lf5_0 := blk_frozen BK_z.out 0; have lc5_1 : w3.cell? ⟨z, 1, none⟩ = some (.int .i64 0) := (blk_cell BK_z.out 1).trans rfl; have lf5_1 := blk_frozen BK_z.out 1) | ((with_reducible refine gate_dst (N := 9) rfl ?_); refine box_event ?hg (N := 9) ?hd (cs := #[.slice none 0 0, .int .i64 0]) (t := 30) ?hr ?_; (case hd => rfl); (case hg => rfl); (case hr => first | (go_simp; done) | (go_simp; rfl)); intro y hg w4 hbox HBc; have NS_y : Aside0 (∀ k, Fp g R k → k ≠ y) := ⟨fun k hk e => by have := SL.out.lt k hk; omega⟩; have RG_y : Aside0 (w.heap.size ≤ y) := ⟨Nat.le_trans XT.out.size (Nat.le_of_eq hg.symm)⟩; have NE_q_y : Aside0 (q ≠ y) := ⟨ne_born (blk_lt BK_q.out) hg⟩; have NE_z_y : Aside0 (z ≠ y) := ⟨ne_born (blk_lt BK_z.out) hg⟩; clear hg; have BK_qn : Aside0 (w4.heap[q]? = some (.cells #[.int .i64 15, .int .i64 (a : Int), .int .i64 (nv : Int), .slice A nv cc, .int .i64 t, .int .i64 n, .int .i64 o] 24 (0, 0))) := ⟨blk_below BK_q.out HBc⟩; have BK_zn : Aside0 (w4.heap[z]? = some (.cells #[.slice none 0 0, .int .i64 0] 30 (0, 0))) := ⟨blk_below BK_z.out HBc⟩; have SLn : Aside0 (IsSlv 51 w4 g R (upd X 0 (wrAt (X 0) a v))) := ⟨SL.out.below HBc⟩; have XTn : Aside0 (Ext (Fp g R) w w4) := ⟨XT.out.stepB HBc⟩; have HVn : Aside0 (Ever (Fp g R) w4 (fun W => Kd.C (Kd.int .i64) W A v.length v)) := ⟨HV.out.step (.of_below HBc)⟩; clear BK_q BK_z SL XT HV; have BK_q := BK_qn; have BK_z := BK_zn; have SL := SLn; have XT := XTn; have HV := HVn; clear BK_qn BK_zn SLn XTn HVn; have BK_y : Aside0 (w4.heap[y]? = some (.cells #[.slice none 0 0, .int .i64 0] 30 (0, 0))) := ⟨hbox⟩; clear hbox HBc; have lc6_0 : w4.cell? ⟨q, 0, none⟩ = some (.int .i64 15) := (blk_cell BK_q.out 0).trans rfl; have lf6_0 := blk_frozen BK_q.out 0; have lc6_1 : w4.cell? ⟨q, 1, none⟩ = some (.int .i64 (a : Int)) := (blk_cell BK_q.out 1).trans rfl; have lf6_1 := blk_frozen BK_q.out 1; have lc6_2 : w4.cell? ⟨q, 2, none⟩ = some (.int .i64 (nv : Int)) := (blk_cell BK_q.out 2).trans rfl; have lf6_2 := blk_frozen BK_q.out 2; have lc6_3 : w4.cell? ⟨q, 3, none⟩ = some (.slice A nv cc) := (blk_cell BK_q.out 3).trans rfl; have lf6_3 := blk_frozen BK_q.out 3; have lc6_4 : w4.cell? ⟨q, 4, none⟩ = some (.int .i64 t) := (blk_cell BK_q.out 4).trans rfl; have lf6_4 := blk_frozen BK_q.out 4; have lc6_5 : w4.cell? ⟨q, 5, none⟩ = some (.int .i64 n) := (blk_cell BK_q.out 5).trans rfl; have lf6_5 := blk_frozen BK_q.out 5; have lc6_6 : w4.cell? ⟨q, 6, none⟩ = some (.int .i64 o) := (blk_cell BK_q.out 6).trans rfl; have lf6_6 := blk_frozen BK_q.out 6; have lc7_0 : w4.cell? ⟨z, 0, none⟩ = some (.slice none 0 0) := (blk_cell BK_z.out 0).trans rfl; have lf7_0 := blk_frozen BK_z.out 0; have lc7_1 : w4.cell? ⟨z, 1, none⟩ = some (.int .i64 0) := (blk_cell BK_z.out 1).trans rfl; have lf7_1 := blk_frozen BK_z.out 1; have lc8_0 : w4.cell? ⟨y, 0, none⟩ = some (.slice none 0 0) := (blk_cell BK_y.out 0).trans rfl; have lf8_0 := blk_frozen BK_y.out 0; have lc8_1 : w4.cell? ⟨y, 1, none⟩ = some (.int .i64 0) := (blk_cell BK_y.out 1).trans rfl; have lf8_1 := blk_frozen BK_y.out 1))
  go_loopw [10] (fun u wr => u = .int .i64 0 ∧ w4 = wr) (fun _ _ => 0)
  case atStart => exact ⟨rfl, rfl⟩
  case round =>
    obtain ⟨rfl, rfl⟩ := hrel
    have lc9_0 : w4.cell? ⟨q, 0, none⟩ = some (.int .i64 15) := (blk_cell BK_q.out 0).trans rfl; have lf9_0 := blk_frozen BK_q.out 0
    have lc9_1 : w4.cell? ⟨q, 1, none⟩ = some (.int .i64 (a : Int)) := (blk_cell BK_q.out 1).trans rfl; have lf9_1 := blk_frozen BK_q.out 1
    have lc9_2 : w4.cell? ⟨q, 2, none⟩ = some (.int .i64 (nv : Int)) := (blk_cell BK_q.out 2).trans rfl; have lf9_2 := blk_frozen BK_q.out 2
    have lc9_3 : w4.cell? ⟨q, 3, none⟩ = some (.slice A nv cc) := (blk_cell BK_q.out 3).trans rfl; have lf9_3 := blk_frozen BK_q.out 3
    have lc9_4 : w4.cell? ⟨q, 4, none⟩ = some (.int .i64 t) := (blk_cell BK_q.out 4).trans rfl; have lf9_4 := blk_frozen BK_q.out 4
    have lc9_5 : w4.cell? ⟨q, 5, none⟩ = some (.int .i64 n) := (blk_cell BK_q.out 5).trans rfl; have lf9_5 := blk_frozen BK_q.out 5
    have lc9_6 : w4.cell? ⟨q, 6, none⟩ = some (.int .i64 o) := (blk_cell BK_q.out 6).trans rfl; have lf9_6 := blk_frozen BK_q.out 6
    have lc10_0 : w4.cell? ⟨z, 0, none⟩ = some (.slice none 0 0) := (blk_cell BK_z.out 0).trans rfl; have lf10_0 := blk_frozen BK_z.out 0
    have lc10_1 : w4.cell? ⟨z, 1, none⟩ = some (.int .i64 0) := (blk_cell BK_z.out 1).trans rfl; have lf10_1 := blk_frozen BK_z.out 1
    have lc11_0 : w4.cell? ⟨y, 0, none⟩ = some (.slice none 0 0) := (blk_cell BK_y.out 0).trans rfl; have lf11_0 := blk_frozen BK_y.out 0
    have lc11_1 : w4.cell? ⟨y, 1, none⟩ = some (.int .i64 0) := (blk_cell BK_y.out 1).trans rfl; have lf11_1 := blk_frozen BK_y.out 1
    go_wp2_with (first | ((with_reducible refine gate_store (p := 4) rfl ?_); refine store_event (w1 := ?_) rfl (p := 4) rfl rfl ?hr ?_; rotate_left; (case hr => go_simp; rfl); intro w5 hw_; obtain ⟨hput, HEc⟩ := put2 hw_ BK_z.out; clear hw_; have BK_qn : Aside0 (w5.heap[q]? = some (.cells #[.int .i64 15, .int .i64 (a : Int), .int .i64 (nv : Int), .slice A nv cc, .int .i64 t, .int .i64 n, .int .i64 o] 24 (0, 0))) := ⟨Ext.blk HEc BK_q.out (NE_q_z.out)⟩; have BK_yn : Aside0 (w5.heap[y]? = some (.cells #[.slice none 0 0, .int .i64 0] 30 (0, 0))) := ⟨Ext.blk HEc BK_y.out (fun e => NE_z_y.out e.symm)⟩; have SLn : Aside0 (IsSlv 51 w5 g R (upd X 0 (wrAt (X 0) a v))) := ⟨SL.out.ext HEc (fun k hk e => NS_z.out k hk e)⟩; have XTn : Aside0 (Ext (Fp g R) w w5) := ⟨XT.out.step HEc (fun k e => .inr (by rw [show k = z from e]; exact RG_z.out))⟩; clear BK_q BK_y SL XT; have BK_q := BK_qn; have BK_y := BK_yn; have SL := SLn; have XT := XTn; clear BK_qn BK_yn SLn XTn; clear BK_z HV; have BK_z : Aside0 (w5.heap[z]? = some (.cells #[.slice none 0 0, .int .i64 0] 30 (0, 0))) := ⟨hput⟩; have HST := Aside0.mk HEc; clear hput HEc))
    refine bodyPost_ret (results_cell_row rfl _ _ z 30 #[.slice none 0 0, .int .i64 0] (0, 0) _ rfl BK_z.out Try.underlying30 rfl (by kernel_rfl)) rfl ?_
    exact ⟨none, 0, rfl, Nat.le_refl _, SL.out, XT.out, fun M hM => Ever.nil _⟩
set_option maxHeartbeats 4000000 in
set_option maxRecDepth 100000 in
theorem rdo_w16_no {w : World} {g : Nat} {R : Nat → Nat} {X : Nat → List Int} (h : IsSlv 51 w g R X) {A : Option Addr} {cc : Nat} {v : List Int} {nv : Nat} (hn : v.length = nv) (hV : Ever (Fp g R) w (fun W => Kd.C (Kd.int .i64) W A v.length v)) {a : Nat} {t n o : Int} (hb : a ≤ 1000000 ∧ nv ≤ 1000000 ∧ 0 < nv) (hlt : (X 2).length < a + nv) : Calls Try.prog 21 #[.pointer (some ⟨g, 0, none⟩), .agg #[.int .i64 16, .int .i64 (a : Int), .int .i64 (nv : Int), .slice A nv cc, .int .i64 t, .int .i64 n, .int .i64 o]] w fun e w' => ∃ AA cA, e = .returned (.agg #[.slice AA (([] : List Int)).length cA, .int .i64 2]) ∧ (([] : List Int)).length ≤ cA ∧ IsSlv 51 w' g R (X) ∧ Ext (Fp g R) w w' ∧ IsAns w w' AA (([] : List Int)) := by
  have SL : Aside0 (IsSlv 51 w g R (X)) := ⟨h⟩; have XT : Aside0 (Ext (Fp g R) w w) := ⟨Ext.refl _ _⟩; have HV := Aside0.mk hV; have HN := Aside0.mk hn; have tA := Aside0.mk trivial
  have HB := Aside0.mk hb
  have tp : decide (0 < (nv : Int)) = true := decide_eq_true (by omega)
  have tp2 : decide (0 < nv) = true := decide_eq_true (by omega)
  have tm1 : ((nv : Int) < 1) = False := eq_false (by omega); have tm2 : (1 ≤ (nv : Int)) = True := eq_true (by omega); have tm3 : decide ((nv : Int) < 1) = false := decide_eq_false (by omega)
  have HD : Aside0 (∀ ad : Int, ad = (a : Int) + (nv : Int) - 1 → decide (has X 3 ad) = false) := ⟨fun ad e => decide_eq_false (by rw [e]; unfold has; rw [show ((3 : Int) - 1).toNat = 2 from rfl]; omega)⟩
  clear hb hlt
  clear h hV hn
  go_enter Try.func21, Try.ntmps21
  go_wp2_with (first | ((with_reducible refine gate_dst (N := 3) rfl ?_); refine box_event ?hg (N := 3) ?hd (cs := #[.int .i64 16, .int .i64 (a : Int), .int .i64 (nv : Int), .slice A nv cc, .int .i64 t, .int .i64 n, .int .i64 o]) (t := 24) ?hr ?_; (case hd => rfl); (case hg => rfl); (case hr => first | (go_simp; done) | (go_simp; rfl)); intro q hg w1 hbox HBc; have NS_q : Aside0 (∀ k, Fp g R k → k ≠ q) := ⟨fun k hk e => by have := SL.out.lt k hk; omega⟩; have RG_q : Aside0 (w.heap.size ≤ q) := ⟨Nat.le_trans XT.out.size (Nat.le_of_eq hg.symm)⟩; clear hg; have SLn : Aside0 (IsSlv 51 w1 g R (X)) := ⟨SL.out.below HBc⟩; have XTn : Aside0 (Ext (Fp g R) w w1) := ⟨XT.out.stepB HBc⟩; have HVn : Aside0 (Ever (Fp g R) w1 (fun W => Kd.C (Kd.int .i64) W A v.length v)) := ⟨HV.out.step (.of_below HBc)⟩; clear SL XT HV; have SL := SLn; have XT := XTn; have HV := HVn; clear SLn XTn HVn; have BK_q : Aside0 (w1.heap[q]? = some (.cells #[.int .i64 16, .int .i64 (a : Int), .int .i64 (nv : Int), .slice A nv cc, .int .i64 t, .int .i64 n, .int .i64 o] 24 (0, 0))) := ⟨hbox⟩; clear hbox HBc; have lc1_0 : w1.cell? ⟨q, 0, none⟩ = some (.int .i64 16) := (blk_cell BK_q.out 0).trans rfl; have lf1_0 := blk_frozen BK_q.out 0; have lc1_1 : w1.cell? ⟨q, 1, none⟩ = some (.int .i64 (a : Int)) := (blk_cell BK_q.out 1).trans rfl; have lf1_1 := blk_frozen BK_q.out 1; have lc1_2 : w1.cell? ⟨q, 2, none⟩ = some (.int .i64 (nv : Int)) := (blk_cell BK_q.out 2).trans rfl; have lf1_2 := blk_frozen BK_q.out 2; have lc1_3 : w1.cell? ⟨q, 3, none⟩ = some (.slice A nv cc) := (blk_cell BK_q.out 3).trans rfl; have lf1_3 := blk_frozen BK_q.out 3; have lc1_4 : w1.cell? ⟨q, 4, none⟩ = some (.int .i64 t) := (blk_cell BK_q.out 4).trans rfl; have lf1_4 := blk_frozen BK_q.out 4; have lc1_5 : w1.cell? ⟨q, 5, none⟩ = some (.int .i64 n) := (blk_cell BK_q.out 5).trans rfl; have lf1_5 := blk_frozen BK_q.out 5; have lc1_6 : w1.cell? ⟨q, 6, none⟩ = some (.int .i64 o) := (blk_cell BK_q.out 6).trans rfl; have lf1_6 := blk_frozen BK_q.out 6) | ((with_reducible refine gate_dst (N := 4) rfl ?_); refine box_event ?hg (N := 4) ?hd (cs := #[.slice none 0 0, .int .i64 0]) (t := 30) ?hr ?_; (case hd => rfl); (case hg => rfl); (case hr => first | (go_simp; done) | (go_simp; rfl)); intro z hg w2 hbox HBc; have NS_z : Aside0 (∀ k, Fp g R k → k ≠ z) := ⟨fun k hk e => by have := SL.out.lt k hk; omega⟩; have RG_z : Aside0 (w.heap.size ≤ z) := ⟨Nat.le_trans XT.out.size (Nat.le_of_eq hg.symm)⟩; have NE_q_z : Aside0 (q ≠ z) := ⟨ne_born (blk_lt BK_q.out) hg⟩; clear hg; have BK_qn : Aside0 (w2.heap[q]? = some (.cells #[.int .i64 16, .int .i64 (a : Int), .int .i64 (nv : Int), .slice A nv cc, .int .i64 t, .int .i64 n, .int .i64 o] 24 (0, 0))) := ⟨blk_below BK_q.out HBc⟩; have SLn : Aside0 (IsSlv 51 w2 g R (X)) := ⟨SL.out.below HBc⟩; have XTn : Aside0 (Ext (Fp g R) w w2) := ⟨XT.out.stepB HBc⟩; have HVn : Aside0 (Ever (Fp g R) w2 (fun W => Kd.C (Kd.int .i64) W A v.length v)) := ⟨HV.out.step (.of_below HBc)⟩; clear BK_q SL XT HV; have BK_q := BK_qn; have SL := SLn; have XT := XTn; have HV := HVn; clear BK_qn SLn XTn HVn; have BK_z : Aside0 (w2.heap[z]? = some (.cells #[.slice none 0 0, .int .i64 0] 30 (0, 0))) := ⟨hbox⟩; clear hbox HBc; have lc2_0 : w2.cell? ⟨q, 0, none⟩ = some (.int .i64 16) := (blk_cell BK_q.out 0).trans rfl; have lf2_0 := blk_frozen BK_q.out 0; have lc2_1 : w2.cell? ⟨q, 1, none⟩ = some (.int .i64 (a : Int)) := (blk_cell BK_q.out 1).trans rfl; have lf2_1 := blk_frozen BK_q.out 1; have lc2_2 : w2.cell? ⟨q, 2, none⟩ = some (.int .i64 (nv : Int)) := (blk_cell BK_q.out 2).trans rfl; have lf2_2 := blk_frozen BK_q.out 2; have lc2_3 : w2.cell? ⟨q, 3, none⟩ = some (.slice A nv cc) := (blk_cell BK_q.out 3).trans rfl; have lf2_3 := blk_frozen BK_q.out 3; have lc2_4 : w2.cell? ⟨q, 4, none⟩ = some (.int .i64 t) := (blk_cell BK_q.out 4).trans rfl; have lf2_4 := blk_frozen BK_q.out 4; have lc2_5 : w2.cell? ⟨q, 5, none⟩ = some (.int .i64 n) := (blk_cell BK_q.out 5).trans rfl; have lf2_5 := blk_frozen BK_q.out 5; have lc2_6 : w2.cell? ⟨q, 6, none⟩ = some (.int .i64 o) := (blk_cell BK_q.out 6).trans rfl; have lf2_6 := blk_frozen BK_q.out 6; have lc3_0 : w2.cell? ⟨z, 0, none⟩ = some (.slice none 0 0) := (blk_cell BK_z.out 0).trans rfl; have lf3_0 := blk_frozen BK_z.out 0; have lc3_1 : w2.cell? ⟨z, 1, none⟩ = some (.int .i64 0) := (blk_cell BK_z.out 1).trans rfl; have lf3_1 := blk_frozen BK_z.out 1) | (go_at_call 25; have _t := tA; refine (rhas_c SL.out _ _ (HD.out _ ?hx)).mono ?_; (case hx => (have hB := HB.out; first | rfl | omega | (simp only [wrap64]; omega))); rintro e w' ⟨rfl, rfl⟩; clear tA _t; have tB := Aside0.mk trivial) | ((with_reducible refine gate_store (p := 4) rfl ?_); refine store_event (w1 := ?_) rfl (p := 4) rfl rfl ?hr ?_; rotate_left; (case hr => go_simp; rfl); intro w4 hw_; obtain ⟨hput, HEc⟩ := put2 hw_ BK_z.out; clear hw_; have BK_qn : Aside0 (w4.heap[q]? = some (.cells #[.int .i64 16, .int .i64 (a : Int), .int .i64 (nv : Int), .slice A nv cc, .int .i64 t, .int .i64 n, .int .i64 o] 24 (0, 0))) := ⟨Ext.blk HEc BK_q.out (NE_q_z.out)⟩; have SLn : Aside0 (IsSlv 51 w4 g R (X)) := ⟨SL.out.ext HEc (fun k hk e => NS_z.out k hk e)⟩; have XTn : Aside0 (Ext (Fp g R) w w4) := ⟨XT.out.step HEc (fun k e => .inr (by rw [show k = z from e]; exact RG_z.out))⟩; clear BK_q SL XT; have BK_q := BK_qn; have SL := SLn; have XT := XTn; clear BK_qn SLn XTn; clear BK_z HV; have BK_z : Aside0 (w4.heap[z]? = some (.cells #[.slice none 0 0, .int .i64 2] 30 (0, 0))) := ⟨hput⟩; have HST := Aside0.mk HEc; clear hput HEc))
  refine bodyPost_ret (results_cell_row rfl _ _ z 30 #[.slice none 0 0, .int .i64 2] (0, 0) _ rfl BK_z.out Try.underlying30 rfl (by kernel_rfl)) rfl ?_
  exact ⟨none, 0, rfl, Nat.le_refl _, SL.out, XT.out, fun M hM => Ever.nil _⟩
set_option maxHeartbeats 4000000 in
set_option maxRecDepth 100000 in
theorem rdo_w16_yes {w : World} {g : Nat} {R : Nat → Nat} {X : Nat → List Int} (h : IsSlv 51 w g R X) {A : Option Addr} {cc : Nat} {v : List Int} {nv : Nat} (hn : v.length = nv) (hV : Ever (Fp g R) w (fun W => Kd.C (Kd.int .i64) W A v.length v)) {a : Nat} {t n o : Int} (hb : a ≤ 1000000 ∧ nv ≤ 1000000 ∧ 0 < nv) (hfit : a + nv ≤ (X 2).length) : Calls Try.prog 21 #[.pointer (some ⟨g, 0, none⟩), .agg #[.int .i64 16, .int .i64 (a : Int), .int .i64 (nv : Int), .slice A nv cc, .int .i64 t, .int .i64 n, .int .i64 o]] w fun e w' => ∃ AA cA, e = .returned (.agg #[.slice AA (([] : List Int)).length cA, .int .i64 0]) ∧ (([] : List Int)).length ≤ cA ∧ IsSlv 51 w' g R (upd X 2 (wrAt (X 2) a v)) ∧ Ext (Fp g R) w w' ∧ IsAns w w' AA (([] : List Int)) := by
  have SL : Aside0 (IsSlv 51 w g R (X)) := ⟨h⟩; have XT : Aside0 (Ext (Fp g R) w w) := ⟨Ext.refl _ _⟩; have HV := Aside0.mk hV; have HN := Aside0.mk hn; have tA := Aside0.mk trivial
  have HB := Aside0.mk hb
  have tp : decide (0 < (nv : Int)) = true := decide_eq_true (by omega)
  have tp2 : decide (0 < nv) = true := decide_eq_true (by omega)
  have tm1 : ((nv : Int) < 1) = False := eq_false (by omega); have tm2 : (1 ≤ (nv : Int)) = True := eq_true (by omega); have tm3 : decide ((nv : Int) < 1) = false := decide_eq_false (by omega)
  have HFW := Aside0.mk hfit
  have HD : Aside0 (∀ ad : Int, ad = (a : Int) + (nv : Int) - 1 → decide (has X 3 ad) = true) := ⟨fun ad e => decide_eq_true (by rw [e]; unfold has; rw [show ((3 : Int) - 1).toNat = 2 from rfl]; omega)⟩
  clear hb hfit
  clear h hV hn
  go_enter Try.func21, Try.ntmps21
  go_wp2_with (first | ((with_reducible refine gate_dst (N := 3) rfl ?_); refine box_event ?hg (N := 3) ?hd (cs := #[.int .i64 16, .int .i64 (a : Int), .int .i64 (nv : Int), .slice A nv cc, .int .i64 t, .int .i64 n, .int .i64 o]) (t := 24) ?hr ?_; (case hd => rfl); (case hg => rfl); (case hr => first | (go_simp; done) | (go_simp; rfl)); intro q hg w1 hbox HBc; have NS_q : Aside0 (∀ k, Fp g R k → k ≠ q) := ⟨fun k hk e => by have := SL.out.lt k hk; omega⟩; have RG_q : Aside0 (w.heap.size ≤ q) := ⟨Nat.le_trans XT.out.size (Nat.le_of_eq hg.symm)⟩; clear hg; have SLn : Aside0 (IsSlv 51 w1 g R (X)) := ⟨SL.out.below HBc⟩; have XTn : Aside0 (Ext (Fp g R) w w1) := ⟨XT.out.stepB HBc⟩; have HVn : Aside0 (Ever (Fp g R) w1 (fun W => Kd.C (Kd.int .i64) W A v.length v)) := ⟨HV.out.step (.of_below HBc)⟩; clear SL XT HV; have SL := SLn; have XT := XTn; have HV := HVn; clear SLn XTn HVn; have BK_q : Aside0 (w1.heap[q]? = some (.cells #[.int .i64 16, .int .i64 (a : Int), .int .i64 (nv : Int), .slice A nv cc, .int .i64 t, .int .i64 n, .int .i64 o] 24 (0, 0))) := ⟨hbox⟩; clear hbox HBc; have lc1_0 : w1.cell? ⟨q, 0, none⟩ = some (.int .i64 16) := (blk_cell BK_q.out 0).trans rfl; have lf1_0 := blk_frozen BK_q.out 0; have lc1_1 : w1.cell? ⟨q, 1, none⟩ = some (.int .i64 (a : Int)) := (blk_cell BK_q.out 1).trans rfl; have lf1_1 := blk_frozen BK_q.out 1; have lc1_2 : w1.cell? ⟨q, 2, none⟩ = some (.int .i64 (nv : Int)) := (blk_cell BK_q.out 2).trans rfl; have lf1_2 := blk_frozen BK_q.out 2; have lc1_3 : w1.cell? ⟨q, 3, none⟩ = some (.slice A nv cc) := (blk_cell BK_q.out 3).trans rfl; have lf1_3 := blk_frozen BK_q.out 3; have lc1_4 : w1.cell? ⟨q, 4, none⟩ = some (.int .i64 t) := (blk_cell BK_q.out 4).trans rfl; have lf1_4 := blk_frozen BK_q.out 4; have lc1_5 : w1.cell? ⟨q, 5, none⟩ = some (.int .i64 n) := (blk_cell BK_q.out 5).trans rfl; have lf1_5 := blk_frozen BK_q.out 5; have lc1_6 : w1.cell? ⟨q, 6, none⟩ = some (.int .i64 o) := (blk_cell BK_q.out 6).trans rfl; have lf1_6 := blk_frozen BK_q.out 6) | ((with_reducible refine gate_dst (N := 4) rfl ?_); refine box_event ?hg (N := 4) ?hd (cs := #[.slice none 0 0, .int .i64 0]) (t := 30) ?hr ?_; (case hd => rfl); (case hg => rfl); (case hr => first | (go_simp; done) | (go_simp; rfl)); intro z hg w2 hbox HBc; have NS_z : Aside0 (∀ k, Fp g R k → k ≠ z) := ⟨fun k hk e => by have := SL.out.lt k hk; omega⟩; have RG_z : Aside0 (w.heap.size ≤ z) := ⟨Nat.le_trans XT.out.size (Nat.le_of_eq hg.symm)⟩; have NE_q_z : Aside0 (q ≠ z) := ⟨ne_born (blk_lt BK_q.out) hg⟩; clear hg; have BK_qn : Aside0 (w2.heap[q]? = some (.cells #[.int .i64 16, .int .i64 (a : Int), .int .i64 (nv : Int), .slice A nv cc, .int .i64 t, .int .i64 n, .int .i64 o] 24 (0, 0))) := ⟨blk_below BK_q.out HBc⟩; have SLn : Aside0 (IsSlv 51 w2 g R (X)) := ⟨SL.out.below HBc⟩; have XTn : Aside0 (Ext (Fp g R) w w2) := ⟨XT.out.stepB HBc⟩; have HVn : Aside0 (Ever (Fp g R) w2 (fun W => Kd.C (Kd.int .i64) W A v.length v)) := ⟨HV.out.step (.of_below HBc)⟩; clear BK_q SL XT HV; have BK_q := BK_qn; have SL := SLn; have XT := XTn; have HV := HVn; clear BK_qn SLn XTn HVn; have BK_z : Aside0 (w2.heap[z]? = some (.cells #[.slice none 0 0, .int .i64 0] 30 (0, 0))) := ⟨hbox⟩; clear hbox HBc; have lc2_0 : w2.cell? ⟨q, 0, none⟩ = some (.int .i64 16) := (blk_cell BK_q.out 0).trans rfl; have lf2_0 := blk_frozen BK_q.out 0; have lc2_1 : w2.cell? ⟨q, 1, none⟩ = some (.int .i64 (a : Int)) := (blk_cell BK_q.out 1).trans rfl; have lf2_1 := blk_frozen BK_q.out 1; have lc2_2 : w2.cell? ⟨q, 2, none⟩ = some (.int .i64 (nv : Int)) := (blk_cell BK_q.out 2).trans rfl; have lf2_2 := blk_frozen BK_q.out 2; have lc2_3 : w2.cell? ⟨q, 3, none⟩ = some (.slice A nv cc) := (blk_cell BK_q.out 3).trans rfl; have lf2_3 := blk_frozen BK_q.out 3; have lc2_4 : w2.cell? ⟨q, 4, none⟩ = some (.int .i64 t) := (blk_cell BK_q.out 4).trans rfl; have lf2_4 := blk_frozen BK_q.out 4; have lc2_5 : w2.cell? ⟨q, 5, none⟩ = some (.int .i64 n) := (blk_cell BK_q.out 5).trans rfl; have lf2_5 := blk_frozen BK_q.out 5; have lc2_6 : w2.cell? ⟨q, 6, none⟩ = some (.int .i64 o) := (blk_cell BK_q.out 6).trans rfl; have lf2_6 := blk_frozen BK_q.out 6; have lc3_0 : w2.cell? ⟨z, 0, none⟩ = some (.slice none 0 0) := (blk_cell BK_z.out 0).trans rfl; have lf3_0 := blk_frozen BK_z.out 0; have lc3_1 : w2.cell? ⟨z, 1, none⟩ = some (.int .i64 0) := (blk_cell BK_z.out 1).trans rfl; have lf3_1 := blk_frozen BK_z.out 1) | (go_at_call 25; have _t := tA; refine (rhas_c SL.out _ _ (HD.out _ ?hx)).mono ?_; (case hx => (have hB := HB.out; first | rfl | omega | (simp only [wrap64]; omega))); rintro e w' ⟨rfl, rfl⟩; clear tA _t; have tB := Aside0.mk trivial) | (go_at_call 47; refine (write_c SL.out (K := 2) (by omega) HN.out HFW.out (by decide) (HV.out.grow (Ext.refl _ _) (fun k e => .inl (.inr ⟨2, by omega, e⟩)))).mono ?_; rintro e w3 ⟨rfl, hsl, HEc⟩; have BK_qn : Aside0 (w3.heap[q]? = some (.cells #[.int .i64 16, .int .i64 (a : Int), .int .i64 (nv : Int), .slice A nv cc, .int .i64 t, .int .i64 n, .int .i64 o] 24 (0, 0))) := ⟨Ext.blk HEc BK_q.out (fun e => NS_q.out _ (.inr ⟨2, by omega, rfl⟩) e.symm)⟩; have BK_zn : Aside0 (w3.heap[z]? = some (.cells #[.slice none 0 0, .int .i64 0] 30 (0, 0))) := ⟨Ext.blk HEc BK_z.out (fun e => NS_z.out _ (.inr ⟨2, by omega, rfl⟩) e.symm)⟩; have SLn : Aside0 (IsSlv 51 w3 g R (upd X 2 (wrAt (X 2) a v))) := ⟨hsl⟩; have XTn : Aside0 (Ext (Fp g R) w w3) := ⟨XT.out.step HEc (fun k e => .inl (.inr ⟨2, by omega, e⟩))⟩; have HVn : Aside0 (Ever (Fp g R) w3 (fun W => Kd.C (Kd.int .i64) W A v.length v)) := ⟨HV.out.step (HEc.sub (fun k e => .inr ⟨2, by omega, e⟩))⟩; clear BK_q BK_z SL XT HV; have BK_q := BK_qn; have BK_z := BK_zn; have SL := SLn; have XT := XTn; have HV := HVn; clear BK_qn BK_zn SLn XTn HVn; clear hsl HEc; have lc4_0 : w3.cell? ⟨q, 0, none⟩ = some (.int .i64 16) := (blk_cell BK_q.out 0).trans rfl; have lf4_0 := blk_frozen BK_q.out 0; have lc4_1 : w3.cell? ⟨q, 1, none⟩ = some (.int .i64 (a : Int)) := (blk_cell BK_q.out 1).trans rfl; have lf4_1 := blk_frozen BK_q.out 1; have lc4_2 : w3.cell? ⟨q, 2, none⟩ = some (.int .i64 (nv : Int)) := (blk_cell BK_q.out 2).trans rfl; have lf4_2 := blk_frozen BK_q.out 2; have lc4_3 : w3.cell? ⟨q, 3, none⟩ = some (.slice A nv cc) := (blk_cell BK_q.out 3).trans rfl; have lf4_3 := blk_frozen BK_q.out 3; have lc4_4 : w3.cell? ⟨q, 4, none⟩ = some (.int .i64 t) := (blk_cell BK_q.out 4).trans rfl; have lf4_4 := blk_frozen BK_q.out 4; have lc4_5 : w3.cell? ⟨q, 5, none⟩ = some (.int .i64 n) := (blk_cell BK_q.out 5).trans rfl; have lf4_5 := blk_frozen BK_q.out 5; have lc4_6 : w3.cell? ⟨q, 6, none⟩ = some (.int .i64 o) := (blk_cell BK_q.out 6).trans rfl; have lf4_6 := blk_frozen BK_q.out 6; have lc5_0 : w3.cell? ⟨z, 0, none⟩ = some (.slice none 0 0) := (blk_cell BK_z.out 0).trans rfl; have lf5_0 := blk_frozen BK_z.out 0; have lc5_1 : w3.cell? ⟨z, 1, none⟩ = some (.int .i64 0) := (blk_cell BK_z.out 1).trans rfl; have lf5_1 := blk_frozen BK_z.out 1) | ((with_reducible refine gate_dst (N := 9) rfl ?_); refine box_event ?hg (N := 9) ?hd (cs := #[.slice none 0 0, .int .i64 0]) (t := 30) ?hr ?_; (case hd => rfl); (case hg => rfl); (case hr => first | (go_simp; done) | (go_simp; rfl)); intro y hg w4 hbox HBc; have NS_y : Aside0 (∀ k, Fp g R k → k ≠ y) := ⟨fun k hk e => by have := SL.out.lt k hk; omega⟩; have RG_y : Aside0 (w.heap.size ≤ y) := ⟨Nat.le_trans XT.out.size (Nat.le_of_eq hg.symm)⟩; have NE_q_y : Aside0 (q ≠ y) := ⟨ne_born (blk_lt BK_q.out) hg⟩; have NE_z_y : Aside0 (z ≠ y) := ⟨ne_born (blk_lt BK_z.out) hg⟩; clear hg; have BK_qn : Aside0 (w4.heap[q]? = some (.cells #[.int .i64 16, .int .i64 (a : Int), .int .i64 (nv : Int), .slice A nv cc, .int .i64 t, .int .i64 n, .int .i64 o] 24 (0, 0))) := ⟨blk_below BK_q.out HBc⟩; have BK_zn : Aside0 (w4.heap[z]? = some (.cells #[.slice none 0 0, .int .i64 0] 30 (0, 0))) := ⟨blk_below BK_z.out HBc⟩; have SLn : Aside0 (IsSlv 51 w4 g R (upd X 2 (wrAt (X 2) a v))) := ⟨SL.out.below HBc⟩; have XTn : Aside0 (Ext (Fp g R) w w4) := ⟨XT.out.stepB HBc⟩; have HVn : Aside0 (Ever (Fp g R) w4 (fun W => Kd.C (Kd.int .i64) W A v.length v)) := ⟨HV.out.step (.of_below HBc)⟩; clear BK_q BK_z SL XT HV; have BK_q := BK_qn; have BK_z := BK_zn; have SL := SLn; have XT := XTn; have HV := HVn; clear BK_qn BK_zn SLn XTn HVn; have BK_y : Aside0 (w4.heap[y]? = some (.cells #[.slice none 0 0, .int .i64 0] 30 (0, 0))) := ⟨hbox⟩; clear hbox HBc; have lc6_0 : w4.cell? ⟨q, 0, none⟩ = some (.int .i64 16) := (blk_cell BK_q.out 0).trans rfl; have lf6_0 := blk_frozen BK_q.out 0; have lc6_1 : w4.cell? ⟨q, 1, none⟩ = some (.int .i64 (a : Int)) := (blk_cell BK_q.out 1).trans rfl; have lf6_1 := blk_frozen BK_q.out 1; have lc6_2 : w4.cell? ⟨q, 2, none⟩ = some (.int .i64 (nv : Int)) := (blk_cell BK_q.out 2).trans rfl; have lf6_2 := blk_frozen BK_q.out 2; have lc6_3 : w4.cell? ⟨q, 3, none⟩ = some (.slice A nv cc) := (blk_cell BK_q.out 3).trans rfl; have lf6_3 := blk_frozen BK_q.out 3; have lc6_4 : w4.cell? ⟨q, 4, none⟩ = some (.int .i64 t) := (blk_cell BK_q.out 4).trans rfl; have lf6_4 := blk_frozen BK_q.out 4; have lc6_5 : w4.cell? ⟨q, 5, none⟩ = some (.int .i64 n) := (blk_cell BK_q.out 5).trans rfl; have lf6_5 := blk_frozen BK_q.out 5; have lc6_6 : w4.cell? ⟨q, 6, none⟩ = some (.int .i64 o) := (blk_cell BK_q.out 6).trans rfl; have lf6_6 := blk_frozen BK_q.out 6; have lc7_0 : w4.cell? ⟨z, 0, none⟩ = some (.slice none 0 0) := (blk_cell BK_z.out 0).trans rfl; have lf7_0 := blk_frozen BK_z.out 0; have lc7_1 : w4.cell? ⟨z, 1, none⟩ = some (.int .i64 0) := (blk_cell BK_z.out 1).trans rfl; have lf7_1 := blk_frozen BK_z.out 1; have lc8_0 : w4.cell? ⟨y, 0, none⟩ = some (.slice none 0 0) := (blk_cell BK_y.out 0).trans rfl; have lf8_0 := blk_frozen BK_y.out 0; have lc8_1 : w4.cell? ⟨y, 1, none⟩ = some (.int .i64 0) := (blk_cell BK_y.out 1).trans rfl; have lf8_1 := blk_frozen BK_y.out 1))
  go_loopw [10] (fun u wr => u = .int .i64 0 ∧ w4 = wr) (fun _ _ => 0)
  case atStart => exact ⟨rfl, rfl⟩
  case round =>
    obtain ⟨rfl, rfl⟩ := hrel
    have lc9_0 : w4.cell? ⟨q, 0, none⟩ = some (.int .i64 16) := (blk_cell BK_q.out 0).trans rfl; have lf9_0 := blk_frozen BK_q.out 0
    have lc9_1 : w4.cell? ⟨q, 1, none⟩ = some (.int .i64 (a : Int)) := (blk_cell BK_q.out 1).trans rfl; have lf9_1 := blk_frozen BK_q.out 1
    have lc9_2 : w4.cell? ⟨q, 2, none⟩ = some (.int .i64 (nv : Int)) := (blk_cell BK_q.out 2).trans rfl; have lf9_2 := blk_frozen BK_q.out 2
    have lc9_3 : w4.cell? ⟨q, 3, none⟩ = some (.slice A nv cc) := (blk_cell BK_q.out 3).trans rfl; have lf9_3 := blk_frozen BK_q.out 3
    have lc9_4 : w4.cell? ⟨q, 4, none⟩ = some (.int .i64 t) := (blk_cell BK_q.out 4).trans rfl; have lf9_4 := blk_frozen BK_q.out 4
    have lc9_5 : w4.cell? ⟨q, 5, none⟩ = some (.int .i64 n) := (blk_cell BK_q.out 5).trans rfl; have lf9_5 := blk_frozen BK_q.out 5
    have lc9_6 : w4.cell? ⟨q, 6, none⟩ = some (.int .i64 o) := (blk_cell BK_q.out 6).trans rfl; have lf9_6 := blk_frozen BK_q.out 6
    have lc10_0 : w4.cell? ⟨z, 0, none⟩ = some (.slice none 0 0) := (blk_cell BK_z.out 0).trans rfl; have lf10_0 := blk_frozen BK_z.out 0
    have lc10_1 : w4.cell? ⟨z, 1, none⟩ = some (.int .i64 0) := (blk_cell BK_z.out 1).trans rfl; have lf10_1 := blk_frozen BK_z.out 1
    have lc11_0 : w4.cell? ⟨y, 0, none⟩ = some (.slice none 0 0) := (blk_cell BK_y.out 0).trans rfl; have lf11_0 := blk_frozen BK_y.out 0
    have lc11_1 : w4.cell? ⟨y, 1, none⟩ = some (.int .i64 0) := (blk_cell BK_y.out 1).trans rfl; have lf11_1 := blk_frozen BK_y.out 1
    go_wp2_with (first | ((with_reducible refine gate_store (p := 4) rfl ?_); refine store_event (w1 := ?_) rfl (p := 4) rfl rfl ?hr ?_; rotate_left; (case hr => go_simp; rfl); intro w5 hw_; obtain ⟨hput, HEc⟩ := put2 hw_ BK_z.out; clear hw_; have BK_qn : Aside0 (w5.heap[q]? = some (.cells #[.int .i64 16, .int .i64 (a : Int), .int .i64 (nv : Int), .slice A nv cc, .int .i64 t, .int .i64 n, .int .i64 o] 24 (0, 0))) := ⟨Ext.blk HEc BK_q.out (NE_q_z.out)⟩; have BK_yn : Aside0 (w5.heap[y]? = some (.cells #[.slice none 0 0, .int .i64 0] 30 (0, 0))) := ⟨Ext.blk HEc BK_y.out (fun e => NE_z_y.out e.symm)⟩; have SLn : Aside0 (IsSlv 51 w5 g R (upd X 2 (wrAt (X 2) a v))) := ⟨SL.out.ext HEc (fun k hk e => NS_z.out k hk e)⟩; have XTn : Aside0 (Ext (Fp g R) w w5) := ⟨XT.out.step HEc (fun k e => .inr (by rw [show k = z from e]; exact RG_z.out))⟩; clear BK_q BK_y SL XT; have BK_q := BK_qn; have BK_y := BK_yn; have SL := SLn; have XT := XTn; clear BK_qn BK_yn SLn XTn; clear BK_z HV; have BK_z : Aside0 (w5.heap[z]? = some (.cells #[.slice none 0 0, .int .i64 0] 30 (0, 0))) := ⟨hput⟩; have HST := Aside0.mk HEc; clear hput HEc))
    refine bodyPost_ret (results_cell_row rfl _ _ z 30 #[.slice none 0 0, .int .i64 0] (0, 0) _ rfl BK_z.out Try.underlying30 rfl (by kernel_rfl)) rfl ?_
    exact ⟨none, 0, rfl, Nat.le_refl _, SL.out, XT.out, fun M hM => Ever.nil _⟩
set_option maxHeartbeats 4000000 in
set_option maxRecDepth 100000 in
theorem rdo_b_n {w : World} {g : Nat} {R : Nat → Nat} {X : Nat → List Int} (h : IsSlv 51 w g R X) {A : Option Addr} {cc : Nat} {v : List Int} {nv : Nat} (hn : v.length = nv) (hV : Ever (Fp g R) w (fun W => Kd.C (Kd.int .i64) W A v.length v)) {a c t : Nat} {n o : Int} (hb : (t ≤ 1000000 ∧ nv ≤ 1000000 ∧ 0 < nv) ∧ a ≤ 1000000 ∧ c ≤ 1000000 ∧ 0 < c) (hlt : (X 2).length < a + c) : Calls Try.prog 21 #[.pointer (some ⟨g, 0, none⟩), .agg #[.int .i64 23, .int .i64 (a : Int), .int .i64 (c : Int), .slice A nv cc, .int .i64 (t : Int), .int .i64 n, .int .i64 o]] w fun e w' => ∃ AA cA, e = .returned (.agg #[.slice AA (([] : List Int)).length cA, .int .i64 2]) ∧ (([] : List Int)).length ≤ cA ∧ IsSlv 51 w' g R (X) ∧ Ext (Fp g R) w w' ∧ IsAns w w' AA (([] : List Int)) := by
  have SL : Aside0 (IsSlv 51 w g R (X)) := ⟨h⟩; have XT : Aside0 (Ext (Fp g R) w w) := ⟨Ext.refl _ _⟩; have HV := Aside0.mk hV; have HN := Aside0.mk hn; have tA := Aside0.mk trivial
  have HB := Aside0.mk hb
  have tp : decide (0 < (nv : Int)) = true := decide_eq_true (by omega)
  have tp2 : decide (0 < nv) = true := decide_eq_true (by omega)
  have tm1 : ((nv : Int) < 1) = False := eq_false (by omega); have tm2 : (1 ≤ (nv : Int)) = True := eq_true (by omega); have tm3 : decide ((nv : Int) < 1) = false := decide_eq_false (by omega)
  have HD : Aside0 (∀ ad : Int, ad = (a : Int) + (c : Int) - 1 → decide (has X 3 ad) = false) := ⟨fun ad e => decide_eq_false (by rw [e]; unfold has; rw [show ((3 : Int) - 1).toNat = 2 from rfl]; omega)⟩
  clear hb hlt
  clear h hV hn
  go_enter Try.func21, Try.ntmps21
  go_wp2_with (first | ((with_reducible refine gate_dst (N := 3) rfl ?_); refine box_event ?hg (N := 3) ?hd (cs := #[.int .i64 23, .int .i64 (a : Int), .int .i64 (c : Int), .slice A nv cc, .int .i64 (t : Int), .int .i64 n, .int .i64 o]) (t := 24) ?hr ?_; (case hd => rfl); (case hg => rfl); (case hr => first | (go_simp; done) | (go_simp; rfl)); intro q hg w1 hbox HBc; have NS_q : Aside0 (∀ k, Fp g R k → k ≠ q) := ⟨fun k hk e => by have := SL.out.lt k hk; omega⟩; have RG_q : Aside0 (w.heap.size ≤ q) := ⟨Nat.le_trans XT.out.size (Nat.le_of_eq hg.symm)⟩; clear hg; have SLn : Aside0 (IsSlv 51 w1 g R (X)) := ⟨SL.out.below HBc⟩; have XTn : Aside0 (Ext (Fp g R) w w1) := ⟨XT.out.stepB HBc⟩; have HVn : Aside0 (Ever (Fp g R) w1 (fun W => Kd.C (Kd.int .i64) W A v.length v)) := ⟨HV.out.step (.of_below HBc)⟩; clear SL XT HV; have SL := SLn; have XT := XTn; have HV := HVn; clear SLn XTn HVn; have BK_q : Aside0 (w1.heap[q]? = some (.cells #[.int .i64 23, .int .i64 (a : Int), .int .i64 (c : Int), .slice A nv cc, .int .i64 (t : Int), .int .i64 n, .int .i64 o] 24 (0, 0))) := ⟨hbox⟩; clear hbox HBc; have lc1_0 : w1.cell? ⟨q, 0, none⟩ = some (.int .i64 23) := (blk_cell BK_q.out 0).trans rfl; have lf1_0 := blk_frozen BK_q.out 0; have lc1_1 : w1.cell? ⟨q, 1, none⟩ = some (.int .i64 (a : Int)) := (blk_cell BK_q.out 1).trans rfl; have lf1_1 := blk_frozen BK_q.out 1; have lc1_2 : w1.cell? ⟨q, 2, none⟩ = some (.int .i64 (c : Int)) := (blk_cell BK_q.out 2).trans rfl; have lf1_2 := blk_frozen BK_q.out 2; have lc1_3 : w1.cell? ⟨q, 3, none⟩ = some (.slice A nv cc) := (blk_cell BK_q.out 3).trans rfl; have lf1_3 := blk_frozen BK_q.out 3; have lc1_4 : w1.cell? ⟨q, 4, none⟩ = some (.int .i64 (t : Int)) := (blk_cell BK_q.out 4).trans rfl; have lf1_4 := blk_frozen BK_q.out 4; have lc1_5 : w1.cell? ⟨q, 5, none⟩ = some (.int .i64 n) := (blk_cell BK_q.out 5).trans rfl; have lf1_5 := blk_frozen BK_q.out 5; have lc1_6 : w1.cell? ⟨q, 6, none⟩ = some (.int .i64 o) := (blk_cell BK_q.out 6).trans rfl; have lf1_6 := blk_frozen BK_q.out 6) | ((with_reducible refine gate_dst (N := 4) rfl ?_); refine box_event ?hg (N := 4) ?hd (cs := #[.slice none 0 0, .int .i64 0]) (t := 30) ?hr ?_; (case hd => rfl); (case hg => rfl); (case hr => first | (go_simp; done) | (go_simp; rfl)); intro z hg w2 hbox HBc; have NS_z : Aside0 (∀ k, Fp g R k → k ≠ z) := ⟨fun k hk e => by have := SL.out.lt k hk; omega⟩; have RG_z : Aside0 (w.heap.size ≤ z) := ⟨Nat.le_trans XT.out.size (Nat.le_of_eq hg.symm)⟩; have NE_q_z : Aside0 (q ≠ z) := ⟨ne_born (blk_lt BK_q.out) hg⟩; clear hg; have BK_qn : Aside0 (w2.heap[q]? = some (.cells #[.int .i64 23, .int .i64 (a : Int), .int .i64 (c : Int), .slice A nv cc, .int .i64 (t : Int), .int .i64 n, .int .i64 o] 24 (0, 0))) := ⟨blk_below BK_q.out HBc⟩; have SLn : Aside0 (IsSlv 51 w2 g R (X)) := ⟨SL.out.below HBc⟩; have XTn : Aside0 (Ext (Fp g R) w w2) := ⟨XT.out.stepB HBc⟩; have HVn : Aside0 (Ever (Fp g R) w2 (fun W => Kd.C (Kd.int .i64) W A v.length v)) := ⟨HV.out.step (.of_below HBc)⟩; clear BK_q SL XT HV; have BK_q := BK_qn; have SL := SLn; have XT := XTn; have HV := HVn; clear BK_qn SLn XTn HVn; have BK_z : Aside0 (w2.heap[z]? = some (.cells #[.slice none 0 0, .int .i64 0] 30 (0, 0))) := ⟨hbox⟩; clear hbox HBc; have lc2_0 : w2.cell? ⟨q, 0, none⟩ = some (.int .i64 23) := (blk_cell BK_q.out 0).trans rfl; have lf2_0 := blk_frozen BK_q.out 0; have lc2_1 : w2.cell? ⟨q, 1, none⟩ = some (.int .i64 (a : Int)) := (blk_cell BK_q.out 1).trans rfl; have lf2_1 := blk_frozen BK_q.out 1; have lc2_2 : w2.cell? ⟨q, 2, none⟩ = some (.int .i64 (c : Int)) := (blk_cell BK_q.out 2).trans rfl; have lf2_2 := blk_frozen BK_q.out 2; have lc2_3 : w2.cell? ⟨q, 3, none⟩ = some (.slice A nv cc) := (blk_cell BK_q.out 3).trans rfl; have lf2_3 := blk_frozen BK_q.out 3; have lc2_4 : w2.cell? ⟨q, 4, none⟩ = some (.int .i64 (t : Int)) := (blk_cell BK_q.out 4).trans rfl; have lf2_4 := blk_frozen BK_q.out 4; have lc2_5 : w2.cell? ⟨q, 5, none⟩ = some (.int .i64 n) := (blk_cell BK_q.out 5).trans rfl; have lf2_5 := blk_frozen BK_q.out 5; have lc2_6 : w2.cell? ⟨q, 6, none⟩ = some (.int .i64 o) := (blk_cell BK_q.out 6).trans rfl; have lf2_6 := blk_frozen BK_q.out 6; have lc3_0 : w2.cell? ⟨z, 0, none⟩ = some (.slice none 0 0) := (blk_cell BK_z.out 0).trans rfl; have lf3_0 := blk_frozen BK_z.out 0; have lc3_1 : w2.cell? ⟨z, 1, none⟩ = some (.int .i64 0) := (blk_cell BK_z.out 1).trans rfl; have lf3_1 := blk_frozen BK_z.out 1) | (go_at_call 25; have _t := tA; refine (rhas_c SL.out _ _ (HD.out _ ?hx)).mono ?_; (case hx => (have hB := HB.out; first | rfl | omega | (simp only [wrap64]; omega))); rintro e w' ⟨rfl, rfl⟩; clear tA _t; have tB := Aside0.mk trivial) | ((with_reducible refine gate_store (p := 4) rfl ?_); refine store_event (w1 := ?_) rfl (p := 4) rfl rfl ?hr ?_; rotate_left; (case hr => go_simp; rfl); intro w4 hw_; obtain ⟨hput, HEc⟩ := put2 hw_ BK_z.out; clear hw_; have BK_qn : Aside0 (w4.heap[q]? = some (.cells #[.int .i64 23, .int .i64 (a : Int), .int .i64 (c : Int), .slice A nv cc, .int .i64 (t : Int), .int .i64 n, .int .i64 o] 24 (0, 0))) := ⟨Ext.blk HEc BK_q.out (NE_q_z.out)⟩; have SLn : Aside0 (IsSlv 51 w4 g R (X)) := ⟨SL.out.ext HEc (fun k hk e => NS_z.out k hk e)⟩; have XTn : Aside0 (Ext (Fp g R) w w4) := ⟨XT.out.step HEc (fun k e => .inr (by rw [show k = z from e]; exact RG_z.out))⟩; clear BK_q SL XT; have BK_q := BK_qn; have SL := SLn; have XT := XTn; clear BK_qn SLn XTn; clear BK_z HV; have BK_z : Aside0 (w4.heap[z]? = some (.cells #[.slice none 0 0, .int .i64 2] 30 (0, 0))) := ⟨hput⟩; have HST := Aside0.mk HEc; clear hput HEc))
  refine bodyPost_ret (results_cell_row rfl _ _ z 30 #[.slice none 0 0, .int .i64 2] (0, 0) _ rfl BK_z.out Try.underlying30 rfl (by kernel_rfl)) rfl ?_
  exact ⟨none, 0, rfl, Nat.le_refl _, SL.out, XT.out, fun M hM => Ever.nil _⟩
set_option maxHeartbeats 4000000 in
set_option maxRecDepth 100000 in
theorem rdo_b_yn {w : World} {g : Nat} {R : Nat → Nat} {X : Nat → List Int} (h : IsSlv 51 w g R X) {A : Option Addr} {cc : Nat} {v : List Int} {nv : Nat} (hn : v.length = nv) (hV : Ever (Fp g R) w (fun W => Kd.C (Kd.int .i64) W A v.length v)) {a c t : Nat} {n o : Int} (hb : (t ≤ 1000000 ∧ nv ≤ 1000000 ∧ 0 < nv) ∧ a ≤ 1000000 ∧ c ≤ 1000000 ∧ 0 < c) (hfit : a + c ≤ (X 2).length) (hlt : (X 2).length < t + nv) : Calls Try.prog 21 #[.pointer (some ⟨g, 0, none⟩), .agg #[.int .i64 23, .int .i64 (a : Int), .int .i64 (c : Int), .slice A nv cc, .int .i64 (t : Int), .int .i64 n, .int .i64 o]] w fun e w' => ∃ AA cA, e = .returned (.agg #[.slice AA (([] : List Int)).length cA, .int .i64 2]) ∧ (([] : List Int)).length ≤ cA ∧ IsSlv 51 w' g R (X) ∧ Ext (Fp g R) w w' ∧ IsAns w w' AA (([] : List Int)) := by
  have SL : Aside0 (IsSlv 51 w g R (X)) := ⟨h⟩; have XT : Aside0 (Ext (Fp g R) w w) := ⟨Ext.refl _ _⟩; have HV := Aside0.mk hV; have HN := Aside0.mk hn; have tA := Aside0.mk trivial
  have HB := Aside0.mk hb
  have tp : decide (0 < (nv : Int)) = true := decide_eq_true (by omega)
  have tp2 : decide (0 < nv) = true := decide_eq_true (by omega)
  have tm1 : ((nv : Int) < 1) = False := eq_false (by omega); have tm2 : (1 ≤ (nv : Int)) = True := eq_true (by omega); have tm3 : decide ((nv : Int) < 1) = false := decide_eq_false (by omega)
  have HD : Aside0 (∀ ad : Int, ad = (a : Int) + (c : Int) - 1 → decide (has X 3 ad) = true) := ⟨fun ad e => decide_eq_true (by rw [e]; unfold has; rw [show ((3 : Int) - 1).toNat = 2 from rfl]; omega)⟩
  have HD2 : Aside0 (∀ ad : Int, ad = (t : Int) + (nv : Int) - 1 → decide (has X 3 ad) = false) := ⟨fun ad e => decide_eq_false (by rw [e]; unfold has; rw [show ((3 : Int) - 1).toNat = 2 from rfl]; omega)⟩
  clear hb hlt hfit
  clear h hV hn
  go_enter Try.func21, Try.ntmps21
  go_wp2_with (first | ((with_reducible refine gate_dst (N := 3) rfl ?_); refine box_event ?hg (N := 3) ?hd (cs := #[.int .i64 23, .int .i64 (a : Int), .int .i64 (c : Int), .slice A nv cc, .int .i64 (t : Int), .int .i64 n, .int .i64 o]) (t := 24) ?hr ?_; (case hd => rfl); (case hg => rfl); (case hr => first | (go_simp; done) | (go_simp; rfl)); intro q hg w1 hbox HBc; have NS_q : Aside0 (∀ k, Fp g R k → k ≠ q) := ⟨fun k hk e => by have := SL.out.lt k hk; omega⟩; have RG_q : Aside0 (w.heap.size ≤ q) := ⟨Nat.le_trans XT.out.size (Nat.le_of_eq hg.symm)⟩; clear hg; have SLn : Aside0 (IsSlv 51 w1 g R (X)) := ⟨SL.out.below HBc⟩; have XTn : Aside0 (Ext (Fp g R) w w1) := ⟨XT.out.stepB HBc⟩; have HVn : Aside0 (Ever (Fp g R) w1 (fun W => Kd.C (Kd.int .i64) W A v.length v)) := ⟨HV.out.step (.of_below HBc)⟩; clear SL XT HV; have SL := SLn; have XT := XTn; have HV := HVn; clear SLn XTn HVn; have BK_q : Aside0 (w1.heap[q]? = some (.cells #[.int .i64 23, .int .i64 (a : Int), .int .i64 (c : Int), .slice A nv cc, .int .i64 (t : Int), .int .i64 n, .int .i64 o] 24 (0, 0))) := ⟨hbox⟩; clear hbox HBc; have lc1_0 : w1.cell? ⟨q, 0, none⟩ = some (.int .i64 23) := (blk_cell BK_q.out 0).trans rfl; have lf1_0 := blk_frozen BK_q.out 0; have lc1_1 : w1.cell? ⟨q, 1, none⟩ = some (.int .i64 (a : Int)) := (blk_cell BK_q.out 1).trans rfl; have lf1_1 := blk_frozen BK_q.out 1; have lc1_2 : w1.cell? ⟨q, 2, none⟩ = some (.int .i64 (c : Int)) := (blk_cell BK_q.out 2).trans rfl; have lf1_2 := blk_frozen BK_q.out 2; have lc1_3 : w1.cell? ⟨q, 3, none⟩ = some (.slice A nv cc) := (blk_cell BK_q.out 3).trans rfl; have lf1_3 := blk_frozen BK_q.out 3; have lc1_4 : w1.cell? ⟨q, 4, none⟩ = some (.int .i64 (t : Int)) := (blk_cell BK_q.out 4).trans rfl; have lf1_4 := blk_frozen BK_q.out 4; have lc1_5 : w1.cell? ⟨q, 5, none⟩ = some (.int .i64 n) := (blk_cell BK_q.out 5).trans rfl; have lf1_5 := blk_frozen BK_q.out 5; have lc1_6 : w1.cell? ⟨q, 6, none⟩ = some (.int .i64 o) := (blk_cell BK_q.out 6).trans rfl; have lf1_6 := blk_frozen BK_q.out 6) | ((with_reducible refine gate_dst (N := 4) rfl ?_); refine box_event ?hg (N := 4) ?hd (cs := #[.slice none 0 0, .int .i64 0]) (t := 30) ?hr ?_; (case hd => rfl); (case hg => rfl); (case hr => first | (go_simp; done) | (go_simp; rfl)); intro z hg w2 hbox HBc; have NS_z : Aside0 (∀ k, Fp g R k → k ≠ z) := ⟨fun k hk e => by have := SL.out.lt k hk; omega⟩; have RG_z : Aside0 (w.heap.size ≤ z) := ⟨Nat.le_trans XT.out.size (Nat.le_of_eq hg.symm)⟩; have NE_q_z : Aside0 (q ≠ z) := ⟨ne_born (blk_lt BK_q.out) hg⟩; clear hg; have BK_qn : Aside0 (w2.heap[q]? = some (.cells #[.int .i64 23, .int .i64 (a : Int), .int .i64 (c : Int), .slice A nv cc, .int .i64 (t : Int), .int .i64 n, .int .i64 o] 24 (0, 0))) := ⟨blk_below BK_q.out HBc⟩; have SLn : Aside0 (IsSlv 51 w2 g R (X)) := ⟨SL.out.below HBc⟩; have XTn : Aside0 (Ext (Fp g R) w w2) := ⟨XT.out.stepB HBc⟩; have HVn : Aside0 (Ever (Fp g R) w2 (fun W => Kd.C (Kd.int .i64) W A v.length v)) := ⟨HV.out.step (.of_below HBc)⟩; clear BK_q SL XT HV; have BK_q := BK_qn; have SL := SLn; have XT := XTn; have HV := HVn; clear BK_qn SLn XTn HVn; have BK_z : Aside0 (w2.heap[z]? = some (.cells #[.slice none 0 0, .int .i64 0] 30 (0, 0))) := ⟨hbox⟩; clear hbox HBc; have lc2_0 : w2.cell? ⟨q, 0, none⟩ = some (.int .i64 23) := (blk_cell BK_q.out 0).trans rfl; have lf2_0 := blk_frozen BK_q.out 0; have lc2_1 : w2.cell? ⟨q, 1, none⟩ = some (.int .i64 (a : Int)) := (blk_cell BK_q.out 1).trans rfl; have lf2_1 := blk_frozen BK_q.out 1; have lc2_2 : w2.cell? ⟨q, 2, none⟩ = some (.int .i64 (c : Int)) := (blk_cell BK_q.out 2).trans rfl; have lf2_2 := blk_frozen BK_q.out 2; have lc2_3 : w2.cell? ⟨q, 3, none⟩ = some (.slice A nv cc) := (blk_cell BK_q.out 3).trans rfl; have lf2_3 := blk_frozen BK_q.out 3; have lc2_4 : w2.cell? ⟨q, 4, none⟩ = some (.int .i64 (t : Int)) := (blk_cell BK_q.out 4).trans rfl; have lf2_4 := blk_frozen BK_q.out 4; have lc2_5 : w2.cell? ⟨q, 5, none⟩ = some (.int .i64 n) := (blk_cell BK_q.out 5).trans rfl; have lf2_5 := blk_frozen BK_q.out 5; have lc2_6 : w2.cell? ⟨q, 6, none⟩ = some (.int .i64 o) := (blk_cell BK_q.out 6).trans rfl; have lf2_6 := blk_frozen BK_q.out 6; have lc3_0 : w2.cell? ⟨z, 0, none⟩ = some (.slice none 0 0) := (blk_cell BK_z.out 0).trans rfl; have lf3_0 := blk_frozen BK_z.out 0; have lc3_1 : w2.cell? ⟨z, 1, none⟩ = some (.int .i64 0) := (blk_cell BK_z.out 1).trans rfl; have lf3_1 := blk_frozen BK_z.out 1) | (go_at_call 25; have _t := tA; refine (rhas_c SL.out _ _ (HD.out _ ?hx)).mono ?_; (case hx => (have hB := HB.out; first | rfl | omega | (simp only [wrap64]; omega))); rintro e w' ⟨rfl, rfl⟩; clear tA _t; have tB := Aside0.mk trivial) | (go_at_call 25; have _t := tB; refine (rhas_c SL.out _ _ (HD2.out _ ?hx)).mono ?_; (case hx => (have hB := HB.out; first | rfl | omega | (simp only [wrap64]; omega))); rintro e w' ⟨rfl, rfl⟩; clear tB _t; have tC := Aside0.mk trivial) | ((with_reducible refine gate_store (p := 4) rfl ?_); refine store_event (w1 := ?_) rfl (p := 4) rfl rfl ?hr ?_; rotate_left; (case hr => go_simp; rfl); intro w4 hw_; obtain ⟨hput, HEc⟩ := put2 hw_ BK_z.out; clear hw_; have BK_qn : Aside0 (w4.heap[q]? = some (.cells #[.int .i64 23, .int .i64 (a : Int), .int .i64 (c : Int), .slice A nv cc, .int .i64 (t : Int), .int .i64 n, .int .i64 o] 24 (0, 0))) := ⟨Ext.blk HEc BK_q.out (NE_q_z.out)⟩; have SLn : Aside0 (IsSlv 51 w4 g R (X)) := ⟨SL.out.ext HEc (fun k hk e => NS_z.out k hk e)⟩; have XTn : Aside0 (Ext (Fp g R) w w4) := ⟨XT.out.step HEc (fun k e => .inr (by rw [show k = z from e]; exact RG_z.out))⟩; clear BK_q SL XT; have BK_q := BK_qn; have SL := SLn; have XT := XTn; clear BK_qn SLn XTn; clear BK_z HV; have BK_z : Aside0 (w4.heap[z]? = some (.cells #[.slice none 0 0, .int .i64 2] 30 (0, 0))) := ⟨hput⟩; have HST := Aside0.mk HEc; clear hput HEc))
  refine bodyPost_ret (results_cell_row rfl _ _ z 30 #[.slice none 0 0, .int .i64 2] (0, 0) _ rfl BK_z.out Try.underlying30 rfl (by kernel_rfl)) rfl ?_
  exact ⟨none, 0, rfl, Nat.le_refl _, SL.out, XT.out, fun M hM => Ever.nil _⟩
set_option maxHeartbeats 4000000 in
set_option maxRecDepth 100000 in
theorem rdo_b_yy {w : World} {g : Nat} {R : Nat → Nat} {X : Nat → List Int} (h : IsSlv 51 w g R X) {A : Option Addr} {cc : Nat} {v : List Int} {nv : Nat} (hn : v.length = nv) (hV : Ever (Fp g R) w (fun W => Kd.C (Kd.int .i64) W A v.length v)) {a c t : Nat} {n o : Int} (hb : (t ≤ 1000000 ∧ nv ≤ 1000000 ∧ 0 < nv) ∧ a ≤ 1000000 ∧ c ≤ 1000000 ∧ 0 < c) (hfit : a + c ≤ (X 2).length) (hft : t + nv ≤ (X 2).length) : Calls Try.prog 21 #[.pointer (some ⟨g, 0, none⟩), .agg #[.int .i64 23, .int .i64 (a : Int), .int .i64 (c : Int), .slice A nv cc, .int .i64 (t : Int), .int .i64 n, .int .i64 o]] w fun e w' => ∃ AA cA, e = .returned (.agg #[.slice AA (rdAt ((upd X 2 (wrAt (X 2) t v)) 2) a c).length cA, .int .i64 0]) ∧ (rdAt ((upd X 2 (wrAt (X 2) t v)) 2) a c).length ≤ cA ∧ IsSlv 51 w' g R (upd X 2 (wrAt (X 2) t v)) ∧ Ext (Fp g R) w w' ∧ IsAns w w' AA (rdAt ((upd X 2 (wrAt (X 2) t v)) 2) a c) := by
  have SL : Aside0 (IsSlv 51 w g R (X)) := ⟨h⟩; have XT : Aside0 (Ext (Fp g R) w w) := ⟨Ext.refl _ _⟩; have HV := Aside0.mk hV; have HN := Aside0.mk hn; have tA := Aside0.mk trivial
  have HB := Aside0.mk hb
  have tp : decide (0 < (nv : Int)) = true := decide_eq_true (by omega)
  have tp2 : decide (0 < nv) = true := decide_eq_true (by omega)
  have tm1 : ((nv : Int) < 1) = False := eq_false (by omega); have tm2 : (1 ≤ (nv : Int)) = True := eq_true (by omega); have tm3 : decide ((nv : Int) < 1) = false := decide_eq_false (by omega)
  have HFW := Aside0.mk hft
  have HFIT : Aside0 (a + c ≤ ((upd X 2 (wrAt (X 2) t v)) 2).length) := ⟨by rw [show (upd X 2 (wrAt (X 2) t v)) 2 = wrAt (X 2) t v from if_pos rfl, wrAt_len (by rw [hn]; exact hft)]; exact hfit⟩
  have HD : Aside0 (∀ ad : Int, ad = (a : Int) + (c : Int) - 1 → decide (has X 3 ad) = true) := ⟨fun ad e => decide_eq_true (by rw [e]; unfold has; rw [show ((3 : Int) - 1).toNat = 2 from rfl]; omega)⟩
  have HD2 : Aside0 (∀ ad : Int, ad = (t : Int) + (nv : Int) - 1 → decide (has X 3 ad) = true) := ⟨fun ad e => decide_eq_true (by rw [e]; unfold has; rw [show ((3 : Int) - 1).toNat = 2 from rfl]; omega)⟩
  clear hb hft hfit
  clear h hV hn
  go_enter Try.func21, Try.ntmps21
  go_wp2_with (first | ((with_reducible refine gate_dst (N := 3) rfl ?_); refine box_event ?hg (N := 3) ?hd (cs := #[.int .i64 23, .int .i64 (a : Int), .int .i64 (c : Int), .slice A nv cc, .int .i64 (t : Int), .int .i64 n, .int .i64 o]) (t := 24) ?hr ?_; (case hd => rfl); (case hg => rfl); (case hr => first | (go_simp; done) | (go_simp; rfl)); intro q hg w1 hbox HBc; have NS_q : Aside0 (∀ k, Fp g R k → k ≠ q) := ⟨fun k hk e => by have := SL.out.lt k hk; omega⟩; have RG_q : Aside0 (w.heap.size ≤ q) := ⟨Nat.le_trans XT.out.size (Nat.le_of_eq hg.symm)⟩; clear hg; have SLn : Aside0 (IsSlv 51 w1 g R (X)) := ⟨SL.out.below HBc⟩; have XTn : Aside0 (Ext (Fp g R) w w1) := ⟨XT.out.stepB HBc⟩; have HVn : Aside0 (Ever (Fp g R) w1 (fun W => Kd.C (Kd.int .i64) W A v.length v)) := ⟨HV.out.step (.of_below HBc)⟩; clear SL XT HV; have SL := SLn; have XT := XTn; have HV := HVn; clear SLn XTn HVn; have BK_q : Aside0 (w1.heap[q]? = some (.cells #[.int .i64 23, .int .i64 (a : Int), .int .i64 (c : Int), .slice A nv cc, .int .i64 (t : Int), .int .i64 n, .int .i64 o] 24 (0, 0))) := ⟨hbox⟩; clear hbox HBc; have lc1_0 : w1.cell? ⟨q, 0, none⟩ = some (.int .i64 23) := (blk_cell BK_q.out 0).trans rfl; have lf1_0 := blk_frozen BK_q.out 0; have lc1_1 : w1.cell? ⟨q, 1, none⟩ = some (.int .i64 (a : Int)) := (blk_cell BK_q.out 1).trans rfl; have lf1_1 := blk_frozen BK_q.out 1; have lc1_2 : w1.cell? ⟨q, 2, none⟩ = some (.int .i64 (c : Int)) := (blk_cell BK_q.out 2).trans rfl; have lf1_2 := blk_frozen BK_q.out 2; have lc1_3 : w1.cell? ⟨q, 3, none⟩ = some (.slice A nv cc) := (blk_cell BK_q.out 3).trans rfl; have lf1_3 := blk_frozen BK_q.out 3; have lc1_4 : w1.cell? ⟨q, 4, none⟩ = some (.int .i64 (t : Int)) := (blk_cell BK_q.out 4).trans rfl; have lf1_4 := blk_frozen BK_q.out 4; have lc1_5 : w1.cell? ⟨q, 5, none⟩ = some (.int .i64 n) := (blk_cell BK_q.out 5).trans rfl; have lf1_5 := blk_frozen BK_q.out 5; have lc1_6 : w1.cell? ⟨q, 6, none⟩ = some (.int .i64 o) := (blk_cell BK_q.out 6).trans rfl; have lf1_6 := blk_frozen BK_q.out 6) | ((with_reducible refine gate_dst (N := 4) rfl ?_); refine box_event ?hg (N := 4) ?hd (cs := #[.slice none 0 0, .int .i64 0]) (t := 30) ?hr ?_; (case hd => rfl); (case hg => rfl); (case hr => first | (go_simp; done) | (go_simp; rfl)); intro z hg w2 hbox HBc; have NS_z : Aside0 (∀ k, Fp g R k → k ≠ z) := ⟨fun k hk e => by have := SL.out.lt k hk; omega⟩; have RG_z : Aside0 (w.heap.size ≤ z) := ⟨Nat.le_trans XT.out.size (Nat.le_of_eq hg.symm)⟩; have NE_q_z : Aside0 (q ≠ z) := ⟨ne_born (blk_lt BK_q.out) hg⟩; clear hg; have BK_qn : Aside0 (w2.heap[q]? = some (.cells #[.int .i64 23, .int .i64 (a : Int), .int .i64 (c : Int), .slice A nv cc, .int .i64 (t : Int), .int .i64 n, .int .i64 o] 24 (0, 0))) := ⟨blk_below BK_q.out HBc⟩; have SLn : Aside0 (IsSlv 51 w2 g R (X)) := ⟨SL.out.below HBc⟩; have XTn : Aside0 (Ext (Fp g R) w w2) := ⟨XT.out.stepB HBc⟩; have HVn : Aside0 (Ever (Fp g R) w2 (fun W => Kd.C (Kd.int .i64) W A v.length v)) := ⟨HV.out.step (.of_below HBc)⟩; clear BK_q SL XT HV; have BK_q := BK_qn; have SL := SLn; have XT := XTn; have HV := HVn; clear BK_qn SLn XTn HVn; have BK_z : Aside0 (w2.heap[z]? = some (.cells #[.slice none 0 0, .int .i64 0] 30 (0, 0))) := ⟨hbox⟩; clear hbox HBc; have lc2_0 : w2.cell? ⟨q, 0, none⟩ = some (.int .i64 23) := (blk_cell BK_q.out 0).trans rfl; have lf2_0 := blk_frozen BK_q.out 0; have lc2_1 : w2.cell? ⟨q, 1, none⟩ = some (.int .i64 (a : Int)) := (blk_cell BK_q.out 1).trans rfl; have lf2_1 := blk_frozen BK_q.out 1; have lc2_2 : w2.cell? ⟨q, 2, none⟩ = some (.int .i64 (c : Int)) := (blk_cell BK_q.out 2).trans rfl; have lf2_2 := blk_frozen BK_q.out 2; have lc2_3 : w2.cell? ⟨q, 3, none⟩ = some (.slice A nv cc) := (blk_cell BK_q.out 3).trans rfl; have lf2_3 := blk_frozen BK_q.out 3; have lc2_4 : w2.cell? ⟨q, 4, none⟩ = some (.int .i64 (t : Int)) := (blk_cell BK_q.out 4).trans rfl; have lf2_4 := blk_frozen BK_q.out 4; have lc2_5 : w2.cell? ⟨q, 5, none⟩ = some (.int .i64 n) := (blk_cell BK_q.out 5).trans rfl; have lf2_5 := blk_frozen BK_q.out 5; have lc2_6 : w2.cell? ⟨q, 6, none⟩ = some (.int .i64 o) := (blk_cell BK_q.out 6).trans rfl; have lf2_6 := blk_frozen BK_q.out 6; have lc3_0 : w2.cell? ⟨z, 0, none⟩ = some (.slice none 0 0) := (blk_cell BK_z.out 0).trans rfl; have lf3_0 := blk_frozen BK_z.out 0; have lc3_1 : w2.cell? ⟨z, 1, none⟩ = some (.int .i64 0) := (blk_cell BK_z.out 1).trans rfl; have lf3_1 := blk_frozen BK_z.out 1) | (go_at_call 25; have _t := tA; refine (rhas_c SL.out _ _ (HD.out _ ?hx)).mono ?_; (case hx => (have hB := HB.out; first | rfl | omega | (simp only [wrap64]; omega))); rintro e w' ⟨rfl, rfl⟩; clear tA _t; have tB := Aside0.mk trivial) | (go_at_call 25; have _t := tB; refine (rhas_c SL.out _ _ (HD2.out _ ?hx)).mono ?_; (case hx => (have hB := HB.out; first | rfl | omega | (simp only [wrap64]; omega))); rintro e w' ⟨rfl, rfl⟩; clear tB _t; have tC := Aside0.mk trivial) | (go_at_call 47; refine (write_c SL.out (K := 2) (by omega) HN.out HFW.out (by decide) (HV.out.grow (Ext.refl _ _) (fun k e => .inl (.inr ⟨2, by omega, e⟩)))).mono ?_; rintro e w3 ⟨rfl, hsl, HEc⟩; have BK_qn : Aside0 (w3.heap[q]? = some (.cells #[.int .i64 23, .int .i64 (a : Int), .int .i64 (c : Int), .slice A nv cc, .int .i64 (t : Int), .int .i64 n, .int .i64 o] 24 (0, 0))) := ⟨Ext.blk HEc BK_q.out (fun e => NS_q.out _ (.inr ⟨2, by omega, rfl⟩) e.symm)⟩; have BK_zn : Aside0 (w3.heap[z]? = some (.cells #[.slice none 0 0, .int .i64 0] 30 (0, 0))) := ⟨Ext.blk HEc BK_z.out (fun e => NS_z.out _ (.inr ⟨2, by omega, rfl⟩) e.symm)⟩; have SLn : Aside0 (IsSlv 51 w3 g R (upd X 2 (wrAt (X 2) t v))) := ⟨hsl⟩; have XTn : Aside0 (Ext (Fp g R) w w3) := ⟨XT.out.step HEc (fun k e => .inl (.inr ⟨2, by omega, e⟩))⟩; have HVn : Aside0 (Ever (Fp g R) w3 (fun W => Kd.C (Kd.int .i64) W A v.length v)) := ⟨HV.out.step (HEc.sub (fun k e => .inr ⟨2, by omega, e⟩))⟩; clear BK_q BK_z SL XT HV; have BK_q := BK_qn; have BK_z := BK_zn; have SL := SLn; have XT := XTn; have HV := HVn; clear BK_qn BK_zn SLn XTn HVn; clear hsl HEc; have lc4_0 : w3.cell? ⟨q, 0, none⟩ = some (.int .i64 23) := (blk_cell BK_q.out 0).trans rfl; have lf4_0 := blk_frozen BK_q.out 0; have lc4_1 : w3.cell? ⟨q, 1, none⟩ = some (.int .i64 (a : Int)) := (blk_cell BK_q.out 1).trans rfl; have lf4_1 := blk_frozen BK_q.out 1; have lc4_2 : w3.cell? ⟨q, 2, none⟩ = some (.int .i64 (c : Int)) := (blk_cell BK_q.out 2).trans rfl; have lf4_2 := blk_frozen BK_q.out 2; have lc4_3 : w3.cell? ⟨q, 3, none⟩ = some (.slice A nv cc) := (blk_cell BK_q.out 3).trans rfl; have lf4_3 := blk_frozen BK_q.out 3; have lc4_4 : w3.cell? ⟨q, 4, none⟩ = some (.int .i64 (t : Int)) := (blk_cell BK_q.out 4).trans rfl; have lf4_4 := blk_frozen BK_q.out 4; have lc4_5 : w3.cell? ⟨q, 5, none⟩ = some (.int .i64 n) := (blk_cell BK_q.out 5).trans rfl; have lf4_5 := blk_frozen BK_q.out 5; have lc4_6 : w3.cell? ⟨q, 6, none⟩ = some (.int .i64 o) := (blk_cell BK_q.out 6).trans rfl; have lf4_6 := blk_frozen BK_q.out 6; have lc5_0 : w3.cell? ⟨z, 0, none⟩ = some (.slice none 0 0) := (blk_cell BK_z.out 0).trans rfl; have lf5_0 := blk_frozen BK_z.out 0; have lc5_1 : w3.cell? ⟨z, 1, none⟩ = some (.int .i64 0) := (blk_cell BK_z.out 1).trans rfl; have lf5_1 := blk_frozen BK_z.out 1) | ((with_reducible refine gate_dst (N := 9) rfl ?_); refine box_event ?hg (N := 9) ?hd (cs := #[.slice none 0 0, .int .i64 0]) (t := 30) ?hr ?_; (case hd => rfl); (case hg => rfl); (case hr => first | (go_simp; done) | (go_simp; rfl)); intro y hg w4 hbox HBc; have NS_y : Aside0 (∀ k, Fp g R k → k ≠ y) := ⟨fun k hk e => by have := SL.out.lt k hk; omega⟩; have RG_y : Aside0 (w.heap.size ≤ y) := ⟨Nat.le_trans XT.out.size (Nat.le_of_eq hg.symm)⟩; have NE_q_y : Aside0 (q ≠ y) := ⟨ne_born (blk_lt BK_q.out) hg⟩; have NE_z_y : Aside0 (z ≠ y) := ⟨ne_born (blk_lt BK_z.out) hg⟩; clear hg; have BK_qn : Aside0 (w4.heap[q]? = some (.cells #[.int .i64 23, .int .i64 (a : Int), .int .i64 (c : Int), .slice A nv cc, .int .i64 (t : Int), .int .i64 n, .int .i64 o] 24 (0, 0))) := ⟨blk_below BK_q.out HBc⟩; have BK_zn : Aside0 (w4.heap[z]? = some (.cells #[.slice none 0 0, .int .i64 0] 30 (0, 0))) := ⟨blk_below BK_z.out HBc⟩; have SLn : Aside0 (IsSlv 51 w4 g R (upd X 2 (wrAt (X 2) t v))) := ⟨SL.out.below HBc⟩; have XTn : Aside0 (Ext (Fp g R) w w4) := ⟨XT.out.stepB HBc⟩; have HVn : Aside0 (Ever (Fp g R) w4 (fun W => Kd.C (Kd.int .i64) W A v.length v)) := ⟨HV.out.step (.of_below HBc)⟩; clear BK_q BK_z SL XT HV; have BK_q := BK_qn; have BK_z := BK_zn; have SL := SLn; have XT := XTn; have HV := HVn; clear BK_qn BK_zn SLn XTn HVn; have BK_y : Aside0 (w4.heap[y]? = some (.cells #[.slice none 0 0, .int .i64 0] 30 (0, 0))) := ⟨hbox⟩; clear hbox HBc; have lc6_0 : w4.cell? ⟨q, 0, none⟩ = some (.int .i64 23) := (blk_cell BK_q.out 0).trans rfl; have lf6_0 := blk_frozen BK_q.out 0; have lc6_1 : w4.cell? ⟨q, 1, none⟩ = some (.int .i64 (a : Int)) := (blk_cell BK_q.out 1).trans rfl; have lf6_1 := blk_frozen BK_q.out 1; have lc6_2 : w4.cell? ⟨q, 2, none⟩ = some (.int .i64 (c : Int)) := (blk_cell BK_q.out 2).trans rfl; have lf6_2 := blk_frozen BK_q.out 2; have lc6_3 : w4.cell? ⟨q, 3, none⟩ = some (.slice A nv cc) := (blk_cell BK_q.out 3).trans rfl; have lf6_3 := blk_frozen BK_q.out 3; have lc6_4 : w4.cell? ⟨q, 4, none⟩ = some (.int .i64 (t : Int)) := (blk_cell BK_q.out 4).trans rfl; have lf6_4 := blk_frozen BK_q.out 4; have lc6_5 : w4.cell? ⟨q, 5, none⟩ = some (.int .i64 n) := (blk_cell BK_q.out 5).trans rfl; have lf6_5 := blk_frozen BK_q.out 5; have lc6_6 : w4.cell? ⟨q, 6, none⟩ = some (.int .i64 o) := (blk_cell BK_q.out 6).trans rfl; have lf6_6 := blk_frozen BK_q.out 6; have lc7_0 : w4.cell? ⟨z, 0, none⟩ = some (.slice none 0 0) := (blk_cell BK_z.out 0).trans rfl; have lf7_0 := blk_frozen BK_z.out 0; have lc7_1 : w4.cell? ⟨z, 1, none⟩ = some (.int .i64 0) := (blk_cell BK_z.out 1).trans rfl; have lf7_1 := blk_frozen BK_z.out 1; have lc8_0 : w4.cell? ⟨y, 0, none⟩ = some (.slice none 0 0) := (blk_cell BK_y.out 0).trans rfl; have lf8_0 := blk_frozen BK_y.out 0; have lc8_1 : w4.cell? ⟨y, 1, none⟩ = some (.int .i64 0) := (blk_cell BK_y.out 1).trans rfl; have lf8_1 := blk_frozen BK_y.out 1))
  have HSZ : Aside0 (w.heap.size ≤ w4.heap.size ∧ z < w4.heap.size) := ⟨⟨XT.out.size, blk_lt BK_z.out⟩⟩
  replace HB : Aside0 (a ≤ 1000000 ∧ c ≤ 1000000 ∧ 0 < c) := ⟨HB.out.2⟩
  obtain ⟨xs, hxs⟩ : ∃ xs, (upd X 2 (wrAt (X 2) t v)) 2 = xs := ⟨_, rfl⟩; have HXS := Aside0.mk hxs
  obtain ⟨r, hr⟩ : ∃ r, R 2 = r := ⟨_, rfl⟩; have HR := Aside0.mk hr
  obtain ⟨L, hL⟩ : ∃ L, xs.length = L := ⟨_, rfl⟩; have HL := Aside0.mk hL
  have HFX : Aside0 (a + c ≤ L) := ⟨by rw [← hL, ← hxs]; exact HFIT.out⟩; have HLB : Aside0 (L ≤ 65536) := ⟨by rw [← hL, ← hxs]; exact SL.out.len 2 (by omega)⟩
  have HROW : Aside0 (w4.heap[r]? = some (.cells (xs.map (Value.int .i64)).toArray 3 (0, 0))) := ⟨by have h1 := SL.out.row 2 (by omega); rw [hr, hxs] at h1; exact h1⟩
  have HGC : Aside0 (w4.cell? ⟨g, 2, none⟩ = some (.slice (some ⟨r, 0, none⟩) L L)) := ⟨by have h1 := SL.out.cell (k := 2) (by omega); unfold sl at h1; rw [hr, hxs, hL] at h1; exact h1⟩
  have HLTS : Aside0 (y < w4.heap.size ∧ q < w4.heap.size ∧ g < w4.heap.size ∧ r < w4.heap.size) := ⟨⟨blk_lt BK_y.out, blk_lt BK_q.out, blk_lt SL.out.blk, blk_lt HROW.out⟩⟩
  have NGY : Aside0 (g ≠ y ∧ r ≠ y) := ⟨⟨NS_y.out g (.inl rfl), NS_y.out r (.inr ⟨2, by omega, hr.symm⟩)⟩⟩
  clear hxs hr hL
  go_loopw [10] (fun u wr => ∃ k : Nat, k ≤ c ∧ u = .int .i64 k ∧ Aside0 (∃ vv, wr.heap[y]? = some (.cells #[vv, .int .i64 0] 30 (0, 0)) ∧ Kd.R (Kd.int .i64) 3 wr w4.heap.size (fun _ => True) vv ((rdAt xs a c).take k)) ∧ Aside0 (Ext (fun k => k = y) w4 wr)) (fun u _ => c - (intOf u).toNat)
  case atStart => exact ⟨0, by omega, rfl, ⟨_, BK_y.out, Kd.R_nil _ _ _ _ _⟩, ⟨Ext.refl _ _⟩⟩
  case round =>
    obtain ⟨k, hk, rfl, HV2, HE⟩ := hrel
    obtain ⟨vv, hby, hRv⟩ := HV2.out
    clear HV2
    have BY := Aside0.mk hby; have HRV := Aside0.mk hRv; clear hby hRv
    have BQ : Aside0 (wr.heap[q]? = some (.cells #[.int .i64 23, .int .i64 (a : Int), .int .i64 (c : Int), .slice A nv cc, .int .i64 (t : Int), .int .i64 n, .int .i64 o] 24 (0, 0))) := ⟨Ext.blk HE.out BK_q.out NE_q_y.out⟩
    have lq0 : wr.cell? ⟨q, 0, none⟩ = some (.int .i64 23) := (blk_cell BQ.out 0).trans rfl; have lqf0 := blk_frozen BQ.out 0
    have lq1 : wr.cell? ⟨q, 1, none⟩ = some (.int .i64 (a : Int)) := (blk_cell BQ.out 1).trans rfl; have lqf1 := blk_frozen BQ.out 1
    have lq2 : wr.cell? ⟨q, 2, none⟩ = some (.int .i64 (c : Int)) := (blk_cell BQ.out 2).trans rfl; have lqf2 := blk_frozen BQ.out 2
    have lq3 : wr.cell? ⟨q, 3, none⟩ = some (.slice A nv cc) := (blk_cell BQ.out 3).trans rfl; have lqf3 := blk_frozen BQ.out 3
    have lq4 : wr.cell? ⟨q, 4, none⟩ = some (.int .i64 (t : Int)) := (blk_cell BQ.out 4).trans rfl; have lqf4 := blk_frozen BQ.out 4
    have lq5 : wr.cell? ⟨q, 5, none⟩ = some (.int .i64 n) := (blk_cell BQ.out 5).trans rfl; have lqf5 := blk_frozen BQ.out 5
    have lq6 : wr.cell? ⟨q, 6, none⟩ = some (.int .i64 o) := (blk_cell BQ.out 6).trans rfl; have lqf6 := blk_frozen BQ.out 6
    by_cases hlt : k < c
    · have t1 : decide (k < c) = true := decide_eq_true hlt
      have t2 : decide ((k : Int) < (c : Int)) = true := decide_eq_true (by omega)
      have HKC : Aside0 (k < c) := ⟨hlt⟩
      obtain ⟨p, hp⟩ : ∃ p, a + k = p := ⟨_, rfl⟩; have hpL : p < L := (by have := HFX.out; omega); have HP := Aside0.mk hp
      have hp0 := eq_true (show (0 : Int) ≤ (p : Int) by omega); have hp1 := eq_true (show (p : Int) < (L : Int) by omega); have hp2 := eq_true hpL
      have HWP : Aside0 (wrap64 ((a : Int) + (k : Int)) = (p : Int)) := ⟨by have := HLB.out; rw [wrap64_of (by omega) (by omega)]; omega⟩
      have hc0 : Aside0 (w4.cell? ⟨r, p, none⟩ = some (.int .i64 (xs.getD p 0))) := ⟨row_cell HROW.out (by rw [HL.out]; exact hpL)⟩
      obtain ⟨x, hx⟩ : ∃ x, xs.getD p 0 = x := ⟨_, rfl⟩; rw [hx] at hc0; have HX := Aside0.mk hx; clear hx hp hlt
      have HK : Aside0 (∀ W, Below w4.heap.size wr W → ((W.cell? ⟨y, 0, none⟩ = some vv ∧ W.cell? ⟨q, 1, none⟩ = some (.int .i64 a)) ∧ (W.cell? ⟨g, 2, none⟩ = some (.slice (some ⟨r, 0, none⟩) L L) ∧ W.cell? ⟨r, p, none⟩ = some (.int .i64 x))) ∧ W.frozen? ⟨y, 0, none⟩ = false) := ⟨fun W hB => ⟨⟨⟨(hB.cell (p := ⟨y, 0, none⟩) HLTS.out.1).trans ((blk_cell BY.out 0).trans rfl), (hB.cell (p := ⟨q, 1, none⟩) HLTS.out.2.1).trans ((blk_cell BQ.out 1).trans rfl)⟩, (hB.cell (p := ⟨g, 2, none⟩) HLTS.out.2.2.1).trans ((HE.out.cellb HLTS.out.2.2.1 NGY.out.1).trans HGC.out), (hB.cell (p := ⟨r, p, none⟩) HLTS.out.2.2.2).trans ((HE.out.cellb HLTS.out.2.2.2 NGY.out.2).trans hc0.out)⟩, (hB.frozen (p := ⟨y, 0, none⟩) HLTS.out.1).trans (blk_frozen BY.out 0)⟩⟩
      have HSW : Aside0 (w4.heap.size ≤ wr.heap.size) := ⟨HE.out.size⟩
      have HW1 : Aside0 (wrap64 ((k : Int) + 1) = (k : Int) + 1) := ⟨wrap64_of (by omega) (by have := HB.out; omega)⟩
      have HBR : Aside0 (Below w4.heap.size wr wr) := ⟨Below.refl _ _⟩
      go_upto_region 29 with (fail)
      refine start_ (n := 19) (S := fun W => ((W.cell? ⟨y, 0, none⟩ = some vv ∧ W.cell? ⟨q, 1, none⟩ = some (.int .i64 a)) ∧ (W.cell? ⟨g, 2, none⟩ = some (.slice (some ⟨r, 0, none⟩) L L) ∧ W.cell? ⟨r, p, none⟩ = some (.int .i64 x))) ∧ W.frozen? ⟨y, 0, none⟩ = false) (ds := [18]) #[false, false, false, false, false, false, false, false, false, false, false, false, false, false, false, false, false, false, false] (by kernel_rfl) rfl rfl ?_ (fun hHeld => ?_)
      · exact HK.out _ (by repeat (first | (with_reducible first | exact HB9.out | refine below_allocb HSW.out ?_ _ | apply pw_below_drewN | apply below_drew1) | (with_reducible exact HBR.out) | exact HB9.out | exact HBR.out))
      refine pure_ (i := 0) (N := some 96) (v := ?_) (a' := ?_) #[true, false, false, false, false, false, false, false, false, false, false, false, false, false, false, false, false, false, false] rfl rfl (by kernel_rfl) (fun _ _ _ h => h) (Or.inl ⟨by rfl, ?_⟩) ?_ ?_
      rotate_left
      · intro w'
        go_simp
        with_reducible rfl
      rotate_left
      · simp only [Act.put, List.setIfInBounds_toArray, List.set_cons_zero, List.set_cons_succ, i64_w, i32_w, HWP.out, wk1, wk2, wk3, wk4]
        rfl
      refine take_ (i := 1) (N := some 97) (v := ?_) (a' := ?_) #[true, true, false, false, false, false, false, false, false, false, false, false, false, false, false, false, false, false, false] rfl rfl (by kernel_rfl) (fun _ _ _ h => h) (Or.inl ⟨by rfl, ?_⟩) hHeld ?_ ?_
      rotate_left
      · rintro w' ⟨⟨⟨s0, s1⟩, s2, s3⟩, s4⟩
        go_simp
        with_reducible rfl
      rotate_left
      · simp only [Act.put, List.setIfInBounds_toArray, List.set_cons_zero, List.set_cons_succ, i64_w, i32_w, HWP.out, wk1, wk2, wk3, wk4]
        rfl
      refine pure_ (i := 2) (N := some 98) (v := ?_) (a' := ?_) #[true, true, true, false, false, false, false, false, false, false, false, false, false, false, false, false, false, false, false] rfl rfl (by kernel_rfl) (fun _ _ _ h => h) (Or.inl ⟨by rfl, ?_⟩) ?_ ?_
      rotate_left
      · intro w'
        go_simp
        with_reducible rfl
      rotate_left
      · simp only [Act.put, List.setIfInBounds_toArray, List.set_cons_zero, List.set_cons_succ, i64_w, i32_w, HWP.out, wk1, wk2, wk3, wk4]
        rfl
      refine pure_ (i := 3) (N := some 99) (v := ?_) (a' := ?_) #[true, true, true, true, false, false, false, false, false, false, false, false, false, false, false, false, false, false, false] rfl rfl (by kernel_rfl) (fun _ _ _ h => h) (Or.inl ⟨by rfl, ?_⟩) ?_ ?_
      rotate_left
      · intro w'
        go_simp
        with_reducible rfl
      rotate_left
      · simp only [Act.put, List.setIfInBounds_toArray, List.set_cons_zero, List.set_cons_succ, i64_w, i32_w, HWP.out, wk1, wk2, wk3, wk4]
        rfl
      refine pure_ (i := 4) (N := some 100) (v := ?_) (a' := ?_) #[true, true, true, true, true, false, false, false, false, false, false, false, false, false, false, false, false, false, false] rfl rfl (by kernel_rfl) (fun _ _ _ h => h) (Or.inl ⟨by rfl, ?_⟩) ?_ ?_
      rotate_left
      · intro w'
        go_simp
        with_reducible rfl
      rotate_left
      · simp only [Act.put, List.setIfInBounds_toArray, List.set_cons_zero, List.set_cons_succ, i64_w, i32_w, HWP.out, wk1, wk2, wk3, wk4]
        rfl
      refine pure_ (i := 5) (N := some 101) (v := ?_) (a' := ?_) #[true, true, true, true, true, true, false, false, false, false, false, false, false, false, false, false, false, false, false] rfl rfl (by kernel_rfl) (fun _ _ _ h => h) (Or.inl ⟨by rfl, ?_⟩) ?_ ?_
      rotate_left
      · intro w'
        go_simp
        with_reducible rfl
      rotate_left
      · simp only [Act.put, List.setIfInBounds_toArray, List.set_cons_zero, List.set_cons_succ, i64_w, i32_w, HWP.out, wk1, wk2, wk3, wk4]
        rfl
      refine pure_ (i := 6) (N := some 102) (v := ?_) (a' := ?_) #[true, true, true, true, true, true, true, false, false, false, false, false, false, false, false, false, false, false, false] rfl rfl (by kernel_rfl) (fun _ _ _ h => h) (Or.inl ⟨by rfl, ?_⟩) ?_ ?_
      rotate_left
      · intro w'
        go_simp
        with_reducible rfl
      rotate_left
      · simp only [Act.put, List.setIfInBounds_toArray, List.set_cons_zero, List.set_cons_succ, i64_w, i32_w, HWP.out, wk1, wk2, wk3, wk4]
        rfl
      refine take_ (i := 7) (N := some 103) (v := ?_) (a' := ?_) #[true, true, true, true, true, true, true, true, false, false, false, false, false, false, false, false, false, false, false] rfl rfl (by kernel_rfl) (fun _ _ _ h => h) (Or.inl ⟨by rfl, ?_⟩) hHeld ?_ ?_
      rotate_left
      · rintro w' ⟨⟨⟨s0, s1⟩, s2, s3⟩, s4⟩
        go_simp
        with_reducible rfl
      rotate_left
      · simp only [Act.put, List.setIfInBounds_toArray, List.set_cons_zero, List.set_cons_succ, i64_w, i32_w, HWP.out, wk1, wk2, wk3, wk4]
        rfl
      refine take_ (i := 8) (N := some 104) (v := ?_) (a' := ?_) #[true, true, true, true, true, true, true, true, true, false, false, false, false, false, false, false, false, false, false] rfl rfl (by kernel_rfl) (fun _ _ _ h => h) (Or.inl ⟨by rfl, ?_⟩) hHeld ?_ ?_
      rotate_left
      · rintro w' ⟨⟨⟨s0, s1⟩, s2, s3⟩, s4⟩
        go_simp
        with_reducible rfl
      rotate_left
      · simp only [Act.put, List.setIfInBounds_toArray, List.set_cons_zero, List.set_cons_succ, i64_w, i32_w, HWP.out, wk1, wk2, wk3, wk4]
        rfl
      refine pure_ (i := 9) (N := some 105) (v := ?_) (a' := ?_) #[true, true, true, true, true, true, true, true, true, true, false, false, false, false, false, false, false, false, false] rfl rfl (by kernel_rfl) (fun _ _ _ h => h) (Or.inl ⟨by rfl, ?_⟩) ?_ ?_
      rotate_left
      · intro w'
        go_simp
        with_reducible rfl
      rotate_left
      · simp only [Act.put, List.setIfInBounds_toArray, List.set_cons_zero, List.set_cons_succ, i64_w, i32_w, HWP.out, wk1, wk2, wk3, wk4]
        rfl
      refine take_ (i := 10) (N := some 106) (v := ?_) (a' := ?_) #[true, true, true, true, true, true, true, true, true, true, true, false, false, false, false, false, false, false, false] rfl rfl (by kernel_rfl) (fun _ _ _ h => h) (Or.inl ⟨by rfl, ?_⟩) hHeld ?_ ?_
      rotate_left
      · rintro w' ⟨⟨⟨s0, s1⟩, s2, s3⟩, s4⟩
        go_simp
        with_reducible rfl
      rotate_left
      · simp only [Act.put, List.setIfInBounds_toArray, List.set_cons_zero, List.set_cons_succ, i64_w, i32_w, HWP.out, wk1, wk2, wk3, wk4]
        rfl
      refine pure_ (i := 11) (N := some 107) (v := ?_) (a' := ?_) #[true, true, true, true, true, true, true, true, true, true, true, true, false, false, false, false, false, false, false] rfl rfl (by kernel_rfl) (fun _ _ _ h => h) (Or.inl ⟨by rfl, ?_⟩) ?_ ?_
      rotate_left
      · intro w'
        go_simp
        with_reducible rfl
      rotate_left
      · simp only [Act.put, List.setIfInBounds_toArray, List.set_cons_zero, List.set_cons_succ, i64_w, i32_w, HWP.out, wk1, wk2, wk3, wk4]
        rfl
      refine pure_ (i := 12) (N := some 108) (v := ?_) (a' := ?_) #[true, true, true, true, true, true, true, true, true, true, true, true, true, false, false, false, false, false, false] rfl rfl (by kernel_rfl) (fun _ _ _ h => h) (Or.inl ⟨by rfl, ?_⟩) ?_ ?_
      rotate_left
      · intro w'
        go_simp
        with_reducible rfl
      rotate_left
      · simp only [Act.put, List.setIfInBounds_toArray, List.set_cons_zero, List.set_cons_succ, i64_w, i32_w, HWP.out, wk1, wk2, wk3, wk4]
        rfl
      refine take_ (i := 13) (N := some 109) (v := ?_) (a' := ?_) #[true, true, true, true, true, true, true, true, true, true, true, true, true, true, false, false, false, false, false] rfl rfl (by kernel_rfl) (fun _ _ _ h => h) (Or.inl ⟨by rfl, ?_⟩) hHeld ?_ ?_
      rotate_left
      · rintro w' ⟨⟨⟨s0, s1⟩, s2, s3⟩, s4⟩
        go_simp
        with_reducible rfl
      rotate_left
      · simp only [Act.put, List.setIfInBounds_toArray, List.set_cons_zero, List.set_cons_succ, i64_w, i32_w, HWP.out, wk1, wk2, wk3, wk4]
        rfl
      refine take_ (i := 14) (N := some 110) (v := ?_) (a' := ?_) #[true, true, true, true, true, true, true, true, true, true, true, true, true, true, true, false, false, false, false] rfl rfl (by kernel_rfl) (fun _ _ _ h => h) (Or.inl ⟨by rfl, ?_⟩) hHeld ?_ ?_
      rotate_left
      · rintro w' ⟨⟨⟨s0, s1⟩, s2, s3⟩, s4⟩
        go_simp
        with_reducible rfl
      rotate_left
      · simp only [Act.put, List.setIfInBounds_toArray, List.set_cons_zero, List.set_cons_succ, i64_w, i32_w, HWP.out, wk1, wk2, wk3, wk4]
        rfl
      refine one_ (i := 15) (N := some 111) #[true, true, true, true, true, true, true, true, true, true, true, true, true, true, true, true, false, false, false] rfl rfl (by kernel_rfl) (by decide) (fun K hK => ?_)
      refine value_ (v := ?vv) (w1 := ?ww) (by rfl) rfl ?hr ?kk
      case hr => (go_simp; refine And.intro ?_ ?_ <;> rfl)
      refine hK.out _ _ ?_ (fun hHeld => ?_)
      · exact HK.out _ (by repeat (first | (with_reducible first | exact HB9.out | refine below_allocb HSW.out ?_ _ | apply pw_below_drewN | apply below_drew1) | (with_reducible exact HBR.out) | exact HB9.out | exact HBR.out))
      clear hK K
      refine norm_ (a' := ?_) ?_ ?_
      rotate_left
      · show Act.put _ (some 111) _ = _
        simp only [Act.put, List.setIfInBounds_toArray, List.set_cons_zero, List.set_cons_succ, i64_w, i32_w, HWP.out, wk1, wk2, wk3, wk4]
        rfl
      refine one_ (i := 16) (N := some 112) #[true, true, true, true, true, true, true, true, true, true, true, true, true, true, true, true, true, false, false] rfl rfl (by kernel_rfl) (by decide) (fun K hK => ?_)
      refine Kd.R_append_step (Kd.int .i64) (w0 := wr) (W := wr.drew) w4.heap.size ?aW (.tmp 97) (.tmp 111) 22 3 (.int .i64 0) 8 rfl Try.underlying22 info3 rfl (by decide) (by decide) vv ((rdAt xs a c).take k) x [.int .i64 x] (fun _ => True) (fun _ => False) rfl rfl ?aP (fun _ e => e.elim) (fun _ _ => trivial) ?aO ?aB ?aS ?aL ?_
      case aW => rfl
      case aP => exact rfl
      case aO => (with_reducible repeat (first | apply Kd.R_alloc | apply Kd.R_drewN | apply Kd.R_drew)); exact HRV.out
      case aB => exact (by repeat (first | (with_reducible first | exact HB9.out | refine below_allocb HSW.out ?_ _ | apply pw_below_drewN | apply below_drew1) | (with_reducible exact HBR.out) | exact HB9.out | exact HBR.out))
      case aS => exact Nat.le_trans HE.out.size (by first | exact Nat.le_refl _ | (simp; done) | (simp; omega))
      case aL => (have := HKC.out; have := HFX.out; have := HLB.out; rw [List.length_take]; omega)
      intro v1 w9 HO9 HB9 hg9 hat9
      obtain ⟨A9, c9, e9⟩ := Kd.R_slice HO9
      obtain ⟨m9, hm9⟩ : ∃ m, ((rdAt xs a c).take k ++ [x]).length = m := ⟨_, rfl⟩
      rw [hm9] at e9; subst e9; clear hm9 hg9 hat9
      have HO9 := Aside0.mk HO9; have HB9 := Aside0.mk HB9
      have hy9 := (HK.out _ HB9.out).1.1.1; have hyf9 := (HK.out _ HB9.out).2
      refine hK.out _ _ ?_ (fun hHeld => ?_)
      · exact HK.out _ (by repeat (first | (with_reducible first | exact HB9.out | refine below_allocb HSW.out ?_ _ | apply pw_below_drewN | apply below_drew1) | (with_reducible exact HBR.out) | exact HB9.out | exact HBR.out))
      clear hK K
      refine norm_ (a' := ?_) ?_ ?_
      rotate_left
      · show Act.put _ (some 112) _ = _
        simp only [Act.put, List.setIfInBounds_toArray, List.set_cons_zero, List.set_cons_succ, i64_w, i32_w, HWP.out, wk1, wk2, wk3, wk4]
        rfl
      refine pure_ (i := 17) (N := some 113) (v := ?_) (a' := ?_) #[true, true, true, true, true, true, true, true, true, true, true, true, true, true, true, true, true, true, false] rfl rfl (by kernel_rfl) (fun _ _ _ h => h) (Or.inl ⟨by rfl, ?_⟩) ?_ ?_
      rotate_left
      · intro w'
        go_simp
        with_reducible rfl
      rotate_left
      · simp only [Act.put, List.setIfInBounds_toArray, List.set_cons_zero, List.set_cons_succ, i64_w, i32_w, HWP.out, wk1, wk2, wk3, wk4]
        rfl
      refine last_ (i := 18) (N := none) #[true, true, true, true, true, true, true, true, true, true, true, true, true, true, true, true, true, true, true] rfl rfl (by kernel_rfl) (by decide) (fun K hK => ?_)
      refine skip_ (w1 := ?_) (by rfl) rfl ?_ ?_
      rotate_left
      · go_simp
        rfl
      refine hK.out _ _ ?_
      clear hK K
      refine done_ (by kernel_rfl) ?_
      have BY2 : Aside0 ((w9.setCell ⟨y, 0, none⟩ (.slice A9 m9 c9)).heap[y]? = some (.cells #[(.slice A9 m9 c9), .int .i64 0] 30 (0, 0))) := ⟨blk_put ((HB9.out.block y HLTS.out.1).trans BY.out) 0 (.slice A9 m9 c9) rfl⟩
      have HR2 : Aside0 (Kd.R (Kd.int .i64) 3 (w9.setCell ⟨y, 0, none⟩ (.slice A9 m9 c9)) w4.heap.size (fun _ => True) (.slice A9 m9 c9) ((rdAt xs a c).take (k + 1))) := ⟨by
        have e1 : (rdAt xs a c).take (k + 1) = (rdAt xs a c).take k ++ [x] := by
          have hl : (rdAt xs a c).length = c := rdAt_len (by rw [HL.out]; exact HFX.out)
          have hkc := HKC.out
          rw [List.take_succ_eq_append_getElem (by omega)]
          congr 2
          have hx := HX.out
          have hpp := HP.out
          have hfx := HFX.out; have hll := HL.out
          rw [List.getD_eq_getElem?_getD, List.getElem?_eq_getElem (by omega), Option.getD_some] at hx
          rw [← hx]
          simp only [rdAt, List.getElem_take, List.getElem_drop]
          congr 1
        rw [e1]
        exact Kd.R_mono (Kd.R_move (Kd.R_bound HO9.out) (fun j hj => by
          refine Below.heap_setCell _ _ _ _ ?_
          have := hj.2.1; have := HLTS.out.1
          show j ≠ y
          omega)) (fun _ _ => trivial)⟩
      have HE2 : Aside0 (Ext (fun k => k = y) w4 (w9.setCell ⟨y, 0, none⟩ (.slice A9 m9 c9))) := ⟨(HE.out.grow (M' := fun k => w4.heap.size ≤ k) ⟨HB9.out.os, HB9.out.tape, HB9.out.output, HB9.out.size, fun k hk hn => HB9.out.block k (by omega)⟩ (fun k e => .inr e)).setg _⟩
      clear hy9 hyf9 HRV BY HK HBR HO9 HB9 HE BQ
      clear lq0 lqf0 lq1 lqf1 lq2 lqf2 lq3 lqf3 lq4 lqf4 lq5 lqf5 lq6 lqf6
      go_wp2_with (fail)
      go_roundw
      case rel => exact ⟨k + 1, by have := HKC.out; omega, by rw [HW1.out]; exact congrArg (Value.int .i64) (by omega), ⟨(.slice A9 m9 c9), BY2.out, HR2.out⟩, HE2⟩
      case measure => exact meas HKC.out HW1.out
    · have t1 : decide (k < c) = false := decide_eq_false hlt
      have t2 : decide ((k : Int) < (c : Int)) = false := decide_eq_false (by omega)
      have ek : (rdAt xs a c).take k = rdAt xs a c := List.take_of_length_le (by rw [rdAt_len (by rw [HL.out]; exact HFX.out)]; omega)
      have hRv := HRV.out; rw [ek] at hRv; obtain ⟨AA, cA, rfl⟩ := Kd.R_slice hRv
      have HCA : Aside0 ((rdAt xs a c).length ≤ cA) := ⟨(Kd.R_reads' hRv).2.1⟩
      have HRB := Aside0.mk hRv; clear hRv HRV ek hlt
      have BK_qn : Aside0 (wr.heap[q]? = some (.cells #[.int .i64 23, .int .i64 (a : Int), .int .i64 (c : Int), .slice A nv cc, .int .i64 (t : Int), .int .i64 n, .int .i64 o] 24 (0, 0))) := ⟨BQ.out⟩
      have BK_zn : Aside0 (wr.heap[z]? = some (.cells #[.slice none 0 0, .int .i64 0] 30 (0, 0))) := ⟨Ext.blk HE.out BK_z.out NE_z_y.out⟩
      have BK_yn : Aside0 (wr.heap[y]? = some (.cells #[.slice AA (rdAt xs a c).length cA, .int .i64 0] 30 (0, 0))) := ⟨BY.out⟩
      have SLn : Aside0 (IsSlv 51 wr g R (upd X 2 (wrAt (X 2) t v))) := ⟨SL.out.ext HE.out (fun k hk e => NS_y.out k hk e)⟩
      have XTn : Aside0 (Ext (Fp g R) w wr) := ⟨XT.out.step HE.out (fun k e => .inr (by rw [show k = y from e]; exact RG_y.out))⟩
      clear BK_y BK_q BK_z SL XT
      have BK_y := BK_yn
      have BK_q := BK_qn
      have BK_z := BK_zn
      have SL := SLn
      have XT := XTn
      clear BK_yn BK_qn BK_zn SLn XTn
      clear BY BQ HV
      clear lq0 lqf0 lq1 lqf1 lq2 lqf2 lq3 lqf3 lq4 lqf4 lq5 lqf5 lq6 lqf6
      have lc9_0 : wr.cell? ⟨q, 0, none⟩ = some (.int .i64 23) := (blk_cell BK_q.out 0).trans rfl; have lf9_0 := blk_frozen BK_q.out 0
      have lc9_1 : wr.cell? ⟨q, 1, none⟩ = some (.int .i64 (a : Int)) := (blk_cell BK_q.out 1).trans rfl; have lf9_1 := blk_frozen BK_q.out 1
      have lc9_2 : wr.cell? ⟨q, 2, none⟩ = some (.int .i64 (c : Int)) := (blk_cell BK_q.out 2).trans rfl; have lf9_2 := blk_frozen BK_q.out 2
      have lc9_3 : wr.cell? ⟨q, 3, none⟩ = some (.slice A nv cc) := (blk_cell BK_q.out 3).trans rfl; have lf9_3 := blk_frozen BK_q.out 3
      have lc9_4 : wr.cell? ⟨q, 4, none⟩ = some (.int .i64 (t : Int)) := (blk_cell BK_q.out 4).trans rfl; have lf9_4 := blk_frozen BK_q.out 4
      have lc9_5 : wr.cell? ⟨q, 5, none⟩ = some (.int .i64 n) := (blk_cell BK_q.out 5).trans rfl; have lf9_5 := blk_frozen BK_q.out 5
      have lc9_6 : wr.cell? ⟨q, 6, none⟩ = some (.int .i64 o) := (blk_cell BK_q.out 6).trans rfl; have lf9_6 := blk_frozen BK_q.out 6
      have lc10_0 : wr.cell? ⟨z, 0, none⟩ = some (.slice none 0 0) := (blk_cell BK_z.out 0).trans rfl; have lf10_0 := blk_frozen BK_z.out 0
      have lc10_1 : wr.cell? ⟨z, 1, none⟩ = some (.int .i64 0) := (blk_cell BK_z.out 1).trans rfl; have lf10_1 := blk_frozen BK_z.out 1
      have lc11_0 : wr.cell? ⟨y, 0, none⟩ = some (.slice AA (rdAt xs a c).length cA) := (blk_cell BK_y.out 0).trans rfl; have lf11_0 := blk_frozen BK_y.out 0
      have lc11_1 : wr.cell? ⟨y, 1, none⟩ = some (.int .i64 0) := (blk_cell BK_y.out 1).trans rfl; have lf11_1 := blk_frozen BK_y.out 1
      go_wp2_with (first | ((with_reducible refine gate_store (p := 4) rfl ?_); refine store_event (w1 := ?_) rfl (p := 4) rfl rfl ?hr ?_; rotate_left; (case hr => go_simp; rfl); intro w5 hw_; obtain ⟨hput, HEc⟩ := put2 hw_ BK_z.out; clear hw_; have BK_qn : Aside0 (w5.heap[q]? = some (.cells #[.int .i64 23, .int .i64 (a : Int), .int .i64 (c : Int), .slice A nv cc, .int .i64 (t : Int), .int .i64 n, .int .i64 o] 24 (0, 0))) := ⟨Ext.blk HEc BK_q.out (NE_q_z.out)⟩; have BK_yn : Aside0 (w5.heap[y]? = some (.cells #[.slice AA (rdAt xs a c).length cA, .int .i64 0] 30 (0, 0))) := ⟨Ext.blk HEc BK_y.out (fun e => NE_z_y.out e.symm)⟩; have SLn : Aside0 (IsSlv 51 w5 g R (upd X 2 (wrAt (X 2) t v))) := ⟨SL.out.ext HEc (fun k hk e => NS_z.out k hk e)⟩; have XTn : Aside0 (Ext (Fp g R) w w5) := ⟨XT.out.step HEc (fun k e => .inr (by rw [show k = z from e]; exact RG_z.out))⟩; clear BK_q BK_y SL XT; have BK_q := BK_qn; have BK_y := BK_yn; have SL := SLn; have XT := XTn; clear BK_qn BK_yn SLn XTn; clear BK_z; have BK_z : Aside0 (w5.heap[z]? = some (.cells #[.slice AA (rdAt xs a c).length cA, .int .i64 0] 30 (0, 0))) := ⟨hput⟩; have HST := Aside0.mk HEc; clear hput HEc))
      refine bodyPost_ret (results_cell_row rfl _ _ z 30 #[.slice AA (rdAt xs a c).length cA, .int .i64 0] (0, 0) _ rfl BK_z.out Try.underlying30 rfl (by kernel_rfl)) rfl ?_
      rw [HXS.out]
      refine ⟨AA, cA, rfl, HCA.out, SL.out, XT.out, fun M hM => ?_⟩
      have hEv := Ever.R (M := fun k => M k ∨ k = z) HRB.out (fun k hk => by rcases hk with hk | hk; exact Nat.lt_of_lt_of_le (hM k hk) HSZ.out.1; rw [hk]; exact HSZ.out.2)
      exact hEv.grow (HST.out.sub (fun k e => .inr e)) (fun k hk => .inl (.inl hk))
set_option maxHeartbeats 4000000 in
set_option maxRecDepth 100000 in
theorem rdo_m_no {w : World} {g : Nat} {R : Nat → Nat} {X : Nat → List Int} (h : IsSlv 51 w g R X) {A : Option Addr} {cc : Nat} {v : List Int} (hn : v.length = 0) (hV : Ever (Fp g R) w (fun W => Kd.C (Kd.int .i64) W A v.length v)) {a n o : Nat} {t : Int} (hb : a ≤ 1000000) (hlt : (X 2).length < a + 1) : Calls Try.prog 21 #[.pointer (some ⟨g, 0, none⟩), .agg #[.int .i64 22, .int .i64 (a : Int), .int .i64 0, .slice A 0 cc, .int .i64 t, .int .i64 (n : Int), .int .i64 (o : Int)]] w fun e w' => ∃ AA cA, e = .returned (.agg #[.slice AA (([] : List Int)).length cA, .int .i64 2]) ∧ (([] : List Int)).length ≤ cA ∧ IsSlv 51 w' g R (X) ∧ Ext (Fp g R) w w' ∧ IsAns w w' AA (([] : List Int)) := by
  have SL : Aside0 (IsSlv 51 w g R (X)) := ⟨h⟩; have XT : Aside0 (Ext (Fp g R) w w) := ⟨Ext.refl _ _⟩; have HV := Aside0.mk hV; have HN := Aside0.mk hn; have tA := Aside0.mk trivial
  have HB := Aside0.mk hb
  have HD : Aside0 (∀ ad : Int, ad = (a : Int) → decide (has X 3 ad) = false) := ⟨fun ad e => decide_eq_false (by rw [e]; unfold has; rw [show ((3 : Int) - 1).toNat = 2 from rfl]; omega)⟩
  clear hb hlt
  clear h hV hn
  go_enter Try.func21, Try.ntmps21
  go_wp2_with (first | ((with_reducible refine gate_dst (N := 3) rfl ?_); refine box_event ?hg (N := 3) ?hd (cs := #[.int .i64 22, .int .i64 (a : Int), .int .i64 0, .slice A 0 cc, .int .i64 t, .int .i64 (n : Int), .int .i64 (o : Int)]) (t := 24) ?hr ?_; (case hd => rfl); (case hg => rfl); (case hr => first | (go_simp; done) | (go_simp; rfl)); intro q hg w1 hbox HBc; have NS_q : Aside0 (∀ k, Fp g R k → k ≠ q) := ⟨fun k hk e => by have := SL.out.lt k hk; omega⟩; have RG_q : Aside0 (w.heap.size ≤ q) := ⟨Nat.le_trans XT.out.size (Nat.le_of_eq hg.symm)⟩; clear hg; have SLn : Aside0 (IsSlv 51 w1 g R (X)) := ⟨SL.out.below HBc⟩; have XTn : Aside0 (Ext (Fp g R) w w1) := ⟨XT.out.stepB HBc⟩; have HVn : Aside0 (Ever (Fp g R) w1 (fun W => Kd.C (Kd.int .i64) W A v.length v)) := ⟨HV.out.step (.of_below HBc)⟩; clear SL XT HV; have SL := SLn; have XT := XTn; have HV := HVn; clear SLn XTn HVn; have BK_q : Aside0 (w1.heap[q]? = some (.cells #[.int .i64 22, .int .i64 (a : Int), .int .i64 0, .slice A 0 cc, .int .i64 t, .int .i64 (n : Int), .int .i64 (o : Int)] 24 (0, 0))) := ⟨hbox⟩; clear hbox HBc; have lc1_0 : w1.cell? ⟨q, 0, none⟩ = some (.int .i64 22) := (blk_cell BK_q.out 0).trans rfl; have lf1_0 := blk_frozen BK_q.out 0; have lc1_1 : w1.cell? ⟨q, 1, none⟩ = some (.int .i64 (a : Int)) := (blk_cell BK_q.out 1).trans rfl; have lf1_1 := blk_frozen BK_q.out 1; have lc1_2 : w1.cell? ⟨q, 2, none⟩ = some (.int .i64 0) := (blk_cell BK_q.out 2).trans rfl; have lf1_2 := blk_frozen BK_q.out 2; have lc1_3 : w1.cell? ⟨q, 3, none⟩ = some (.slice A 0 cc) := (blk_cell BK_q.out 3).trans rfl; have lf1_3 := blk_frozen BK_q.out 3; have lc1_4 : w1.cell? ⟨q, 4, none⟩ = some (.int .i64 t) := (blk_cell BK_q.out 4).trans rfl; have lf1_4 := blk_frozen BK_q.out 4; have lc1_5 : w1.cell? ⟨q, 5, none⟩ = some (.int .i64 (n : Int)) := (blk_cell BK_q.out 5).trans rfl; have lf1_5 := blk_frozen BK_q.out 5; have lc1_6 : w1.cell? ⟨q, 6, none⟩ = some (.int .i64 (o : Int)) := (blk_cell BK_q.out 6).trans rfl; have lf1_6 := blk_frozen BK_q.out 6) | ((with_reducible refine gate_dst (N := 4) rfl ?_); refine box_event ?hg (N := 4) ?hd (cs := #[.slice none 0 0, .int .i64 0]) (t := 30) ?hr ?_; (case hd => rfl); (case hg => rfl); (case hr => first | (go_simp; done) | (go_simp; rfl)); intro z hg w2 hbox HBc; have NS_z : Aside0 (∀ k, Fp g R k → k ≠ z) := ⟨fun k hk e => by have := SL.out.lt k hk; omega⟩; have RG_z : Aside0 (w.heap.size ≤ z) := ⟨Nat.le_trans XT.out.size (Nat.le_of_eq hg.symm)⟩; have NE_q_z : Aside0 (q ≠ z) := ⟨ne_born (blk_lt BK_q.out) hg⟩; clear hg; have BK_qn : Aside0 (w2.heap[q]? = some (.cells #[.int .i64 22, .int .i64 (a : Int), .int .i64 0, .slice A 0 cc, .int .i64 t, .int .i64 (n : Int), .int .i64 (o : Int)] 24 (0, 0))) := ⟨blk_below BK_q.out HBc⟩; have SLn : Aside0 (IsSlv 51 w2 g R (X)) := ⟨SL.out.below HBc⟩; have XTn : Aside0 (Ext (Fp g R) w w2) := ⟨XT.out.stepB HBc⟩; have HVn : Aside0 (Ever (Fp g R) w2 (fun W => Kd.C (Kd.int .i64) W A v.length v)) := ⟨HV.out.step (.of_below HBc)⟩; clear BK_q SL XT HV; have BK_q := BK_qn; have SL := SLn; have XT := XTn; have HV := HVn; clear BK_qn SLn XTn HVn; have BK_z : Aside0 (w2.heap[z]? = some (.cells #[.slice none 0 0, .int .i64 0] 30 (0, 0))) := ⟨hbox⟩; clear hbox HBc; have lc2_0 : w2.cell? ⟨q, 0, none⟩ = some (.int .i64 22) := (blk_cell BK_q.out 0).trans rfl; have lf2_0 := blk_frozen BK_q.out 0; have lc2_1 : w2.cell? ⟨q, 1, none⟩ = some (.int .i64 (a : Int)) := (blk_cell BK_q.out 1).trans rfl; have lf2_1 := blk_frozen BK_q.out 1; have lc2_2 : w2.cell? ⟨q, 2, none⟩ = some (.int .i64 0) := (blk_cell BK_q.out 2).trans rfl; have lf2_2 := blk_frozen BK_q.out 2; have lc2_3 : w2.cell? ⟨q, 3, none⟩ = some (.slice A 0 cc) := (blk_cell BK_q.out 3).trans rfl; have lf2_3 := blk_frozen BK_q.out 3; have lc2_4 : w2.cell? ⟨q, 4, none⟩ = some (.int .i64 t) := (blk_cell BK_q.out 4).trans rfl; have lf2_4 := blk_frozen BK_q.out 4; have lc2_5 : w2.cell? ⟨q, 5, none⟩ = some (.int .i64 (n : Int)) := (blk_cell BK_q.out 5).trans rfl; have lf2_5 := blk_frozen BK_q.out 5; have lc2_6 : w2.cell? ⟨q, 6, none⟩ = some (.int .i64 (o : Int)) := (blk_cell BK_q.out 6).trans rfl; have lf2_6 := blk_frozen BK_q.out 6; have lc3_0 : w2.cell? ⟨z, 0, none⟩ = some (.slice none 0 0) := (blk_cell BK_z.out 0).trans rfl; have lf3_0 := blk_frozen BK_z.out 0; have lc3_1 : w2.cell? ⟨z, 1, none⟩ = some (.int .i64 0) := (blk_cell BK_z.out 1).trans rfl; have lf3_1 := blk_frozen BK_z.out 1) | (go_at_call 25; have _t := tA; refine (rhas_c SL.out _ _ (HD.out _ ?hx)).mono ?_; (case hx => (have hB := HB.out; first | rfl | omega | (simp only [wrap64]; omega))); rintro e w' ⟨rfl, rfl⟩; clear tA _t; have tB := Aside0.mk trivial) | ((with_reducible refine gate_store (p := 4) rfl ?_); refine store_event (w1 := ?_) rfl (p := 4) rfl rfl ?hr ?_; rotate_left; (case hr => go_simp; rfl); intro w4 hw_; obtain ⟨hput, HEc⟩ := put2 hw_ BK_z.out; clear hw_; have BK_qn : Aside0 (w4.heap[q]? = some (.cells #[.int .i64 22, .int .i64 (a : Int), .int .i64 0, .slice A 0 cc, .int .i64 t, .int .i64 (n : Int), .int .i64 (o : Int)] 24 (0, 0))) := ⟨Ext.blk HEc BK_q.out (NE_q_z.out)⟩; have SLn : Aside0 (IsSlv 51 w4 g R (X)) := ⟨SL.out.ext HEc (fun k hk e => NS_z.out k hk e)⟩; have XTn : Aside0 (Ext (Fp g R) w w4) := ⟨XT.out.step HEc (fun k e => .inr (by rw [show k = z from e]; exact RG_z.out))⟩; clear BK_q SL XT; have BK_q := BK_qn; have SL := SLn; have XT := XTn; clear BK_qn SLn XTn; clear BK_z HV; have BK_z : Aside0 (w4.heap[z]? = some (.cells #[.slice none 0 0, .int .i64 2] 30 (0, 0))) := ⟨hput⟩; have HST := Aside0.mk HEc; clear hput HEc))
  refine bodyPost_ret (results_cell_row rfl _ _ z 30 #[.slice none 0 0, .int .i64 2] (0, 0) _ rfl BK_z.out Try.underlying30 rfl (by kernel_rfl)) rfl ?_
  exact ⟨none, 0, rfl, Nat.le_refl _, SL.out, XT.out, fun M hM => Ever.nil _⟩
set_option maxHeartbeats 4000000 in
set_option maxRecDepth 100000 in
theorem rdo_m_yes {w : World} {g : Nat} {R : Nat → Nat} {X : Nat → List Int} (h : IsSlv 51 w g R X) {A : Option Addr} {cc : Nat} {v : List Int} (hn : v.length = 0) (hV : Ever (Fp g R) w (fun W => Kd.C (Kd.int .i64) W A v.length v)) {a n o x : Nat} {t : Int} (hb : a ≤ 1000000) (hfit : a + 1 ≤ (X 2).length) (hx : (X 2).getD a 0 = (x : Int)) (hlx : x < 65536) (hln : n < 65536) (hlo : o < 65536) : Calls Try.prog 21 #[.pointer (some ⟨g, 0, none⟩), .agg #[.int .i64 22, .int .i64 (a : Int), .int .i64 0, .slice A 0 cc, .int .i64 t, .int .i64 (n : Int), .int .i64 (o : Int)]] w fun e w' => ∃ AA cA, e = .returned (.agg #[.slice AA (([] : List Int)).length cA, .int .i64 0]) ∧ (([] : List Int)).length ≤ cA ∧ IsSlv 51 w' g R (upd X 2 (wrAt (X 2) a [((mskN x n o : Nat) : Int)])) ∧ Ext (Fp g R) w w' ∧ IsAns w w' AA (([] : List Int)) := by
  have SL : Aside0 (IsSlv 51 w g R (X)) := ⟨h⟩; have XT : Aside0 (Ext (Fp g R) w w) := ⟨Ext.refl _ _⟩; have HV := Aside0.mk hV; have HN := Aside0.mk hn; have tA := Aside0.mk trivial
  have HB := Aside0.mk hb
  have HFW := Aside0.mk hfit
  have HD : Aside0 (∀ ad : Int, ad = (a : Int) → decide (has X 3 ad) = true) := ⟨fun ad e => decide_eq_true (by rw [e]; unfold has; rw [show ((3 : Int) - 1).toNat = 2 from rfl]; omega)⟩
  obtain ⟨r, hr⟩ : ∃ r, R 2 = r := ⟨_, rfl⟩; have HR := Aside0.mk hr
  obtain ⟨L, hL⟩ : ∃ L, (X 2).length = L := ⟨_, rfl⟩; have HL := Aside0.mk hL; have HX := Aside0.mk hx; have HLX := Aside0.mk hlx; have HLN := Aside0.mk hln; have HLO := Aside0.mk hlo
  have haL : a < L := (by omega); have hp1 := eq_true (show (a : Int) < (L : Int) by omega); have hp2 := eq_true haL; have hp0 := eq_true (show (0 : Int) ≤ (a : Int) by omega)
  clear hb hfit hx hlx hln hlo hr hL haL
  clear h hV hn
  go_enter Try.func21, Try.ntmps21
  go_upto_region 23 with (first | ((with_reducible refine gate_dst (N := 3) rfl ?_); refine box_event ?hg (N := 3) ?hd (cs := #[.int .i64 22, .int .i64 (a : Int), .int .i64 0, .slice A 0 cc, .int .i64 t, .int .i64 (n : Int), .int .i64 (o : Int)]) (t := 24) ?hr ?_; (case hd => rfl); (case hg => rfl); (case hr => first | (go_simp; done) | (go_simp; rfl)); intro q hg w1 hbox HBc; have NS_q : Aside0 (∀ k, Fp g R k → k ≠ q) := ⟨fun k hk e => by have := SL.out.lt k hk; omega⟩; have RG_q : Aside0 (w.heap.size ≤ q) := ⟨Nat.le_trans XT.out.size (Nat.le_of_eq hg.symm)⟩; clear hg; have SLn : Aside0 (IsSlv 51 w1 g R (X)) := ⟨SL.out.below HBc⟩; have XTn : Aside0 (Ext (Fp g R) w w1) := ⟨XT.out.stepB HBc⟩; have HVn : Aside0 (Ever (Fp g R) w1 (fun W => Kd.C (Kd.int .i64) W A v.length v)) := ⟨HV.out.step (.of_below HBc)⟩; clear SL XT HV; have SL := SLn; have XT := XTn; have HV := HVn; clear SLn XTn HVn; have BK_q : Aside0 (w1.heap[q]? = some (.cells #[.int .i64 22, .int .i64 (a : Int), .int .i64 0, .slice A 0 cc, .int .i64 t, .int .i64 (n : Int), .int .i64 (o : Int)] 24 (0, 0))) := ⟨hbox⟩; clear hbox HBc; have lc1_0 : w1.cell? ⟨q, 0, none⟩ = some (.int .i64 22) := (blk_cell BK_q.out 0).trans rfl; have lf1_0 := blk_frozen BK_q.out 0; have lc1_1 : w1.cell? ⟨q, 1, none⟩ = some (.int .i64 (a : Int)) := (blk_cell BK_q.out 1).trans rfl; have lf1_1 := blk_frozen BK_q.out 1; have lc1_2 : w1.cell? ⟨q, 2, none⟩ = some (.int .i64 0) := (blk_cell BK_q.out 2).trans rfl; have lf1_2 := blk_frozen BK_q.out 2; have lc1_3 : w1.cell? ⟨q, 3, none⟩ = some (.slice A 0 cc) := (blk_cell BK_q.out 3).trans rfl; have lf1_3 := blk_frozen BK_q.out 3; have lc1_4 : w1.cell? ⟨q, 4, none⟩ = some (.int .i64 t) := (blk_cell BK_q.out 4).trans rfl; have lf1_4 := blk_frozen BK_q.out 4; have lc1_5 : w1.cell? ⟨q, 5, none⟩ = some (.int .i64 (n : Int)) := (blk_cell BK_q.out 5).trans rfl; have lf1_5 := blk_frozen BK_q.out 5; have lc1_6 : w1.cell? ⟨q, 6, none⟩ = some (.int .i64 (o : Int)) := (blk_cell BK_q.out 6).trans rfl; have lf1_6 := blk_frozen BK_q.out 6) | ((with_reducible refine gate_dst (N := 4) rfl ?_); refine box_event ?hg (N := 4) ?hd (cs := #[.slice none 0 0, .int .i64 0]) (t := 30) ?hr ?_; (case hd => rfl); (case hg => rfl); (case hr => first | (go_simp; done) | (go_simp; rfl)); intro z hg w2 hbox HBc; have NS_z : Aside0 (∀ k, Fp g R k → k ≠ z) := ⟨fun k hk e => by have := SL.out.lt k hk; omega⟩; have RG_z : Aside0 (w.heap.size ≤ z) := ⟨Nat.le_trans XT.out.size (Nat.le_of_eq hg.symm)⟩; have NE_q_z : Aside0 (q ≠ z) := ⟨ne_born (blk_lt BK_q.out) hg⟩; clear hg; have BK_qn : Aside0 (w2.heap[q]? = some (.cells #[.int .i64 22, .int .i64 (a : Int), .int .i64 0, .slice A 0 cc, .int .i64 t, .int .i64 (n : Int), .int .i64 (o : Int)] 24 (0, 0))) := ⟨blk_below BK_q.out HBc⟩; have SLn : Aside0 (IsSlv 51 w2 g R (X)) := ⟨SL.out.below HBc⟩; have XTn : Aside0 (Ext (Fp g R) w w2) := ⟨XT.out.stepB HBc⟩; have HVn : Aside0 (Ever (Fp g R) w2 (fun W => Kd.C (Kd.int .i64) W A v.length v)) := ⟨HV.out.step (.of_below HBc)⟩; clear BK_q SL XT HV; have BK_q := BK_qn; have SL := SLn; have XT := XTn; have HV := HVn; clear BK_qn SLn XTn HVn; have BK_z : Aside0 (w2.heap[z]? = some (.cells #[.slice none 0 0, .int .i64 0] 30 (0, 0))) := ⟨hbox⟩; clear hbox HBc; have lc2_0 : w2.cell? ⟨q, 0, none⟩ = some (.int .i64 22) := (blk_cell BK_q.out 0).trans rfl; have lf2_0 := blk_frozen BK_q.out 0; have lc2_1 : w2.cell? ⟨q, 1, none⟩ = some (.int .i64 (a : Int)) := (blk_cell BK_q.out 1).trans rfl; have lf2_1 := blk_frozen BK_q.out 1; have lc2_2 : w2.cell? ⟨q, 2, none⟩ = some (.int .i64 0) := (blk_cell BK_q.out 2).trans rfl; have lf2_2 := blk_frozen BK_q.out 2; have lc2_3 : w2.cell? ⟨q, 3, none⟩ = some (.slice A 0 cc) := (blk_cell BK_q.out 3).trans rfl; have lf2_3 := blk_frozen BK_q.out 3; have lc2_4 : w2.cell? ⟨q, 4, none⟩ = some (.int .i64 t) := (blk_cell BK_q.out 4).trans rfl; have lf2_4 := blk_frozen BK_q.out 4; have lc2_5 : w2.cell? ⟨q, 5, none⟩ = some (.int .i64 (n : Int)) := (blk_cell BK_q.out 5).trans rfl; have lf2_5 := blk_frozen BK_q.out 5; have lc2_6 : w2.cell? ⟨q, 6, none⟩ = some (.int .i64 (o : Int)) := (blk_cell BK_q.out 6).trans rfl; have lf2_6 := blk_frozen BK_q.out 6; have lc3_0 : w2.cell? ⟨z, 0, none⟩ = some (.slice none 0 0) := (blk_cell BK_z.out 0).trans rfl; have lf3_0 := blk_frozen BK_z.out 0; have lc3_1 : w2.cell? ⟨z, 1, none⟩ = some (.int .i64 0) := (blk_cell BK_z.out 1).trans rfl; have lf3_1 := blk_frozen BK_z.out 1) | (go_at_call 25; have _t := tA; refine (rhas_c SL.out _ _ (HD.out _ ?hx)).mono ?_; (case hx => (have hB := HB.out; first | rfl | omega | (simp only [wrap64]; omega))); rintro e w' ⟨rfl, rfl⟩; clear tA _t; have tB := Aside0.mk trivial))
  have HGC : Aside0 (w2.cell? ⟨g, 2, none⟩ = some (.slice (some ⟨r, 0, none⟩) L L)) := ⟨by have h1 := SL.out.cell (k := 2) (by omega); unfold sl at h1; rw [HR.out, HL.out] at h1; exact h1⟩
  have hrc : Aside0 (w2.cell? ⟨r, a, none⟩ = some (.int .i64 (x : Int))) := ⟨by have h1 := SL.out.at_ (k := 2) (i := a) (by omega) (by have := HFW.out; omega); rw [HR.out, HX.out] at h1; exact h1⟩
  have HLTS : Aside0 (q < w2.heap.size ∧ g < w2.heap.size ∧ r < w2.heap.size) := ⟨⟨blk_lt BK_q.out, blk_lt SL.out.blk, by rw [← HR.out]; exact blk_lt (SL.out.row 2 (by omega))⟩⟩
  have HK : Aside0 (∀ W, Below w2.heap.size w2 W → ((W.cell? ⟨g, 2, none⟩ = some (.slice (some ⟨r, 0, none⟩) L L) ∧ W.cell? ⟨r, a, none⟩ = some (.int .i64 (x : Int))) ∧ (W.cell? ⟨q, 5, none⟩ = some (.int .i64 (n : Int)) ∧ W.cell? ⟨q, 6, none⟩ = some (.int .i64 (o : Int))))) := ⟨fun W hB => ⟨⟨(hB.cell (p := ⟨g, 2, none⟩) HLTS.out.2.1).trans HGC.out, (hB.cell (p := ⟨r, a, none⟩) HLTS.out.2.2).trans hrc.out⟩, (hB.cell (p := ⟨q, 5, none⟩) HLTS.out.1).trans ((blk_cell BK_q.out 5).trans rfl), (hB.cell (p := ⟨q, 6, none⟩) HLTS.out.1).trans ((blk_cell BK_q.out 6).trans rfl)⟩⟩
  have HBR : Aside0 (Below w2.heap.size w2 w2) := ⟨Below.refl _ _⟩
  refine start_ (n := 15) (S := fun W => (W.cell? ⟨g, 2, none⟩ = some (.slice (some ⟨r, 0, none⟩) L L) ∧ W.cell? ⟨r, a, none⟩ = some (.int .i64 (x : Int))) ∧ (W.cell? ⟨q, 5, none⟩ = some (.int .i64 (n : Int)) ∧ W.cell? ⟨q, 6, none⟩ = some (.int .i64 (o : Int)))) (ds := []) #[false, false, false, false, false, false, false, false, false, false, false, false, false, false, false] (by kernel_rfl) rfl rfl ?_ (fun hHeld => ?_)
  · exact HK.out _ (by repeat (first | (with_reducible first | exact HB9.out | apply below_alloc | apply pw_below_drewN | apply below_drew1) | (with_reducible exact HBR.out) | exact HB9.out | exact HBR.out))
  refine pure_ (i := 0) (N := some 67) (v := ?_) (a' := ?_) #[true, false, false, false, false, false, false, false, false, false, false, false, false, false, false] rfl rfl (by kernel_rfl) (fun _ _ _ h => h) (Or.inl ⟨by rfl, ?_⟩) ?_ ?_
  rotate_left
  · intro w'
    go_simp
    with_reducible rfl
  rotate_left
  · simp only [Act.put, List.setIfInBounds_toArray, List.set_cons_zero, List.set_cons_succ, i64_w, i32_w]
    rfl
  refine pure_ (i := 1) (N := some 68) (v := ?_) (a' := ?_) #[true, true, false, false, false, false, false, false, false, false, false, false, false, false, false] rfl rfl (by kernel_rfl) (fun _ _ _ h => h) (Or.inl ⟨by rfl, ?_⟩) ?_ ?_
  rotate_left
  · intro w'
    go_simp
    with_reducible rfl
  rotate_left
  · simp only [Act.put, List.setIfInBounds_toArray, List.set_cons_zero, List.set_cons_succ, i64_w, i32_w]
    rfl
  refine pure_ (i := 2) (N := some 69) (v := ?_) (a' := ?_) #[true, true, true, false, false, false, false, false, false, false, false, false, false, false, false] rfl rfl (by kernel_rfl) (fun _ _ _ h => h) (Or.inl ⟨by rfl, ?_⟩) ?_ ?_
  rotate_left
  · intro w'
    go_simp
    with_reducible rfl
  rotate_left
  · simp only [Act.put, List.setIfInBounds_toArray, List.set_cons_zero, List.set_cons_succ, i64_w, i32_w]
    rfl
  refine take_ (i := 3) (N := some 70) (v := ?_) (a' := ?_) #[true, true, true, true, false, false, false, false, false, false, false, false, false, false, false] rfl rfl (by kernel_rfl) (fun _ _ _ h => h) (Or.inl ⟨by rfl, ?_⟩) hHeld ?_ ?_
  rotate_left
  · rintro w' ⟨⟨s0, s1⟩, s2, s3⟩
    go_simp
    with_reducible rfl
  rotate_left
  · simp only [Act.put, List.setIfInBounds_toArray, List.set_cons_zero, List.set_cons_succ, i64_w, i32_w]
    rfl
  refine take_ (i := 4) (N := some 71) (v := ?_) (a' := ?_) #[true, true, true, true, true, false, false, false, false, false, false, false, false, false, false] rfl rfl (by kernel_rfl) (fun _ _ _ h => h) (Or.inl ⟨by rfl, ?_⟩) hHeld ?_ ?_
  rotate_left
  · rintro w' ⟨⟨s0, s1⟩, s2, s3⟩
    go_simp
    with_reducible rfl
  rotate_left
  · simp only [Act.put, List.setIfInBounds_toArray, List.set_cons_zero, List.set_cons_succ, i64_w, i32_w]
    rfl
  refine pure_ (i := 5) (N := some 72) (v := ?_) (a' := ?_) #[true, true, true, true, true, true, false, false, false, false, false, false, false, false, false] rfl rfl (by kernel_rfl) (fun _ _ _ h => h) (Or.inl ⟨by rfl, ?_⟩) ?_ ?_
  rotate_left
  · intro w'
    go_simp
    with_reducible rfl
  rotate_left
  · simp only [Act.put, List.setIfInBounds_toArray, List.set_cons_zero, List.set_cons_succ, i64_w, i32_w]
    rfl
  refine take_ (i := 6) (N := some 73) (v := ?_) (a' := ?_) #[true, true, true, true, true, true, true, false, false, false, false, false, false, false, false] rfl rfl (by kernel_rfl) (fun _ _ _ h => h) (Or.inl ⟨by rfl, ?_⟩) hHeld ?_ ?_
  rotate_left
  · rintro w' ⟨⟨s0, s1⟩, s2, s3⟩
    go_simp
    with_reducible rfl
  rotate_left
  · simp only [Act.put, List.setIfInBounds_toArray, List.set_cons_zero, List.set_cons_succ, i64_w, i32_w]
    rfl
  refine take_ (i := 7) (N := some 74) (v := ?_) (a' := ?_) #[true, true, true, true, true, true, true, true, false, false, false, false, false, false, false] rfl rfl (by kernel_rfl) (fun _ _ _ h => h) (Or.inl ⟨by rfl, ?_⟩) hHeld ?_ ?_
  rotate_left
  · rintro w' ⟨⟨s0, s1⟩, s2, s3⟩
    go_simp
    with_reducible rfl
  rotate_left
  · simp only [Act.put, List.setIfInBounds_toArray, List.set_cons_zero, List.set_cons_succ, i64_w, i32_w]
    rfl
  refine pure_ (i := 8) (N := some 75) (v := ?_) (a' := ?_) #[true, true, true, true, true, true, true, true, true, false, false, false, false, false, false] rfl rfl (by kernel_rfl) (fun _ _ _ h => h) (Or.inl ⟨by rfl, ?_⟩) ?_ ?_
  rotate_left
  · intro w'
    go_simp
    with_reducible rfl
  rotate_left
  · simp only [Act.put, List.setIfInBounds_toArray, List.set_cons_zero, List.set_cons_succ, i64_w, i32_w]
    rfl
  refine take_ (i := 9) (N := some 76) (v := ?_) (a' := ?_) #[true, true, true, true, true, true, true, true, true, true, false, false, false, false, false] rfl rfl (by kernel_rfl) (fun _ _ _ h => h) (Or.inl ⟨by rfl, ?_⟩) hHeld ?_ ?_
  rotate_left
  · rintro w' ⟨⟨s0, s1⟩, s2, s3⟩
    go_simp
    with_reducible rfl
  rotate_left
  · simp only [Act.put, List.setIfInBounds_toArray, List.set_cons_zero, List.set_cons_succ, i64_w, i32_w]
    rfl
  refine pure_ (i := 10) (N := some 77) (v := ?_) (a' := ?_) #[true, true, true, true, true, true, true, true, true, true, true, false, false, false, false] rfl rfl (by kernel_rfl) (fun _ _ _ h => h) (Or.inl ⟨by rfl, ?_⟩) ?_ ?_
  rotate_left
  · intro w'
    go_simp
    with_reducible rfl
  rotate_left
  · simp only [Act.put, List.setIfInBounds_toArray, List.set_cons_zero, List.set_cons_succ, i64_w, i32_w]
    rfl
  refine take_ (i := 11) (N := some 78) (v := ?_) (a' := ?_) #[true, true, true, true, true, true, true, true, true, true, true, true, false, false, false] rfl rfl (by kernel_rfl) (fun _ _ _ h => h) (Or.inl ⟨by rfl, ?_⟩) hHeld ?_ ?_
  rotate_left
  · rintro w' ⟨⟨s0, s1⟩, s2, s3⟩
    go_simp
    with_reducible rfl
  rotate_left
  · simp only [Act.put, List.setIfInBounds_toArray, List.set_cons_zero, List.set_cons_succ, i64_w, i32_w]
    rfl
  refine one_ (i := 12) (N := some 79) #[true, true, true, true, true, true, true, true, true, true, true, true, true, false, false] rfl rfl (by kernel_rfl) (by decide) (fun K hK => ?_)
  refine goes_ Try.func46 (by kernel_rfl) rfl #[.int .i64 (x : Int), .int .i64 (n : Int), .int .i64 (o : Int)] (by rfl) rfl rfl (by (try simp only [List.map_toArray, List.map_cons, List.map_nil]); first | done | rfl) ?_
  refine (mask_c x n o HLX.out HLN.out HLO.out _).mono ?_
  rintro e wm ⟨rfl, HB8⟩
  have HB9 : Aside0 (Below w2.heap.size w2 wm) := ⟨below_step (by repeat (first | (with_reducible first | exact HB9.out | apply below_alloc | apply pw_below_drewN | apply below_drew1) | (with_reducible exact HBR.out) | exact HB9.out | exact HBR.out)) HB8⟩; clear HB8
  refine ⟨_, rfl, ?_⟩
  refine hK.out _ _ ?_ (fun hHeld => ?_)
  · exact HK.out _ (by repeat (first | (with_reducible first | exact HB9.out | apply below_alloc | apply pw_below_drewN | apply below_drew1) | (with_reducible exact HBR.out) | exact HB9.out | exact HBR.out))
  clear hK K
  refine norm_ (a' := ?_) ?_ ?_
  rotate_left
  · show Act.put _ (some 79) _ = _
    simp only [Act.put, List.setIfInBounds_toArray, List.set_cons_zero, List.set_cons_succ, i64_w, i32_w]
    rfl
  refine one_ (i := 13) (N := some 80) #[true, true, true, true, true, true, true, true, true, true, true, true, true, true, false] rfl rfl (by kernel_rfl) (by decide) (fun K hK => ?_)
  refine value_ (v := ?vv) (w1 := ?ww) (by rfl) rfl ?hr ?kk
  case hr => (go_simp; refine And.intro ?_ ?_ <;> rfl)
  refine hK.out _ _ ?_ (fun hHeld => ?_)
  · exact HK.out _ (by repeat (first | (with_reducible first | exact HB9.out | apply below_alloc | apply pw_below_drewN | apply below_drew1) | (with_reducible exact HBR.out) | exact HB9.out | exact HBR.out))
  clear hK K
  refine norm_ (a' := ?_) ?_ ?_
  rotate_left
  · show Act.put _ (some 80) _ = _
    simp only [Act.put, List.setIfInBounds_toArray, List.set_cons_zero, List.set_cons_succ, i64_w, i32_w]
    rfl
  refine pure_ (i := 14) (N := some 8) (v := ?_) (a' := ?_) #[true, true, true, true, true, true, true, true, true, true, true, true, true, true, true] rfl rfl (by kernel_rfl) (fun _ _ _ h => h) (Or.inl ⟨by rfl, ?_⟩) ?_ ?_
  rotate_left
  · intro w'
    go_simp
    with_reducible rfl
  rotate_left
  · simp only [Act.put, List.setIfInBounds_toArray, List.set_cons_zero, List.set_cons_succ, i64_w, i32_w]
    rfl
  refine done_ (by kernel_rfl) ?_
  have HBX : Below w2.heap.size w2 (wm.alloc (.cells #[.int .i64 ((mskN x n o : Nat) : Int)] 3)) := below_alloc HB9.out _
  have HNB : Aside0 ((wm.alloc (.cells #[.int .i64 ((mskN x n o : Nat) : Int)] 3)).heap[wm.heap.size]? = some (.cells ([((mskN x n o : Nat) : Int)].map (Value.int .i64)).toArray 3 (0, 0))) := ⟨by simpa using heap_alloc_new wm _⟩
  have HNR : Aside0 (wm.heap.size ≠ R 2) := ⟨by have h1 := HLTS.out.2.2; have h2 := HB9.out.size; rw [HR.out]; omega⟩
  have BK_qn : Aside0 ((wm.alloc (.cells #[.int .i64 ((mskN x n o : Nat) : Int)] 3)).heap[q]? = some (.cells #[.int .i64 22, .int .i64 (a : Int), .int .i64 0, .slice A 0 cc, .int .i64 t, .int .i64 (n : Int), .int .i64 (o : Int)] 24 (0, 0))) := ⟨blk_below BK_q.out HBX⟩
  have BK_zn : Aside0 ((wm.alloc (.cells #[.int .i64 ((mskN x n o : Nat) : Int)] 3)).heap[z]? = some (.cells #[.slice none 0 0, .int .i64 0] 30 (0, 0))) := ⟨blk_below BK_z.out HBX⟩
  have SLn : Aside0 (IsSlv 51 (wm.alloc (.cells #[.int .i64 ((mskN x n o : Nat) : Int)] 3)) g R (X)) := ⟨SL.out.below HBX⟩
  have XTn : Aside0 (Ext (Fp g R) w (wm.alloc (.cells #[.int .i64 ((mskN x n o : Nat) : Int)] 3))) := ⟨XT.out.stepB HBX⟩
  have HVn : Aside0 (Ever (Fp g R) (wm.alloc (.cells #[.int .i64 ((mskN x n o : Nat) : Int)] 3)) (fun W => Kd.C (Kd.int .i64) W A v.length v)) := ⟨HV.out.step (.of_below HBX)⟩
  clear BK_q BK_z SL XT HV
  have BK_q := BK_qn
  have BK_z := BK_zn
  have SL := SLn
  have XT := XTn
  have HV := HVn
  clear BK_qn BK_zn SLn XTn HVn
  clear HBX HK HBR HGC hrc HB9
  generalize wm.heap.size = nb at *
  generalize hWW : (wm.alloc (.cells #[.int .i64 ((mskN x n o : Nat) : Int)] 3)) = w5 at *
  clear hWW
  have lc4_0 : w5.cell? ⟨q, 0, none⟩ = some (.int .i64 22) := (blk_cell BK_q.out 0).trans rfl; have lf4_0 := blk_frozen BK_q.out 0
  have lc4_1 : w5.cell? ⟨q, 1, none⟩ = some (.int .i64 (a : Int)) := (blk_cell BK_q.out 1).trans rfl; have lf4_1 := blk_frozen BK_q.out 1
  have lc4_2 : w5.cell? ⟨q, 2, none⟩ = some (.int .i64 0) := (blk_cell BK_q.out 2).trans rfl; have lf4_2 := blk_frozen BK_q.out 2
  have lc4_3 : w5.cell? ⟨q, 3, none⟩ = some (.slice A 0 cc) := (blk_cell BK_q.out 3).trans rfl; have lf4_3 := blk_frozen BK_q.out 3
  have lc4_4 : w5.cell? ⟨q, 4, none⟩ = some (.int .i64 t) := (blk_cell BK_q.out 4).trans rfl; have lf4_4 := blk_frozen BK_q.out 4
  have lc4_5 : w5.cell? ⟨q, 5, none⟩ = some (.int .i64 (n : Int)) := (blk_cell BK_q.out 5).trans rfl; have lf4_5 := blk_frozen BK_q.out 5
  have lc4_6 : w5.cell? ⟨q, 6, none⟩ = some (.int .i64 (o : Int)) := (blk_cell BK_q.out 6).trans rfl; have lf4_6 := blk_frozen BK_q.out 6
  have lc5_0 : w5.cell? ⟨z, 0, none⟩ = some (.slice none 0 0) := (blk_cell BK_z.out 0).trans rfl; have lf5_0 := blk_frozen BK_z.out 0
  have lc5_1 : w5.cell? ⟨z, 1, none⟩ = some (.int .i64 0) := (blk_cell BK_z.out 1).trans rfl; have lf5_1 := blk_frozen BK_z.out 1
  go_wp2_with (first | (go_at_call 47; refine (write_c SL.out (K := 2) (by omega) rfl HFW.out (by decide) (Ever.ofRow (n := 0) HNB.out (by simp) HNR.out)).mono ?_; rintro e w6 ⟨rfl, hsl, HEc⟩; have BK_qn : Aside0 (w6.heap[q]? = some (.cells #[.int .i64 22, .int .i64 (a : Int), .int .i64 0, .slice A 0 cc, .int .i64 t, .int .i64 (n : Int), .int .i64 (o : Int)] 24 (0, 0))) := ⟨Ext.blk HEc BK_q.out (fun e => NS_q.out _ (.inr ⟨2, by omega, rfl⟩) e.symm)⟩; have BK_zn : Aside0 (w6.heap[z]? = some (.cells #[.slice none 0 0, .int .i64 0] 30 (0, 0))) := ⟨Ext.blk HEc BK_z.out (fun e => NS_z.out _ (.inr ⟨2, by omega, rfl⟩) e.symm)⟩; have SLn : Aside0 (IsSlv 51 w6 g R (upd X 2 (wrAt (X 2) a [((mskN x n o : Nat) : Int)]))) := ⟨hsl⟩; have XTn : Aside0 (Ext (Fp g R) w w6) := ⟨XT.out.step HEc (fun k e => .inl (.inr ⟨2, by omega, e⟩))⟩; have HVn : Aside0 (Ever (Fp g R) w6 (fun W => Kd.C (Kd.int .i64) W A v.length v)) := ⟨HV.out.step (HEc.sub (fun k e => .inr ⟨2, by omega, e⟩))⟩; clear BK_q BK_z SL XT HV; have BK_q := BK_qn; have BK_z := BK_zn; have SL := SLn; have XT := XTn; have HV := HVn; clear BK_qn BK_zn SLn XTn HVn; clear hsl HEc; have lc6_0 : w6.cell? ⟨q, 0, none⟩ = some (.int .i64 22) := (blk_cell BK_q.out 0).trans rfl; have lf6_0 := blk_frozen BK_q.out 0; have lc6_1 : w6.cell? ⟨q, 1, none⟩ = some (.int .i64 (a : Int)) := (blk_cell BK_q.out 1).trans rfl; have lf6_1 := blk_frozen BK_q.out 1; have lc6_2 : w6.cell? ⟨q, 2, none⟩ = some (.int .i64 0) := (blk_cell BK_q.out 2).trans rfl; have lf6_2 := blk_frozen BK_q.out 2; have lc6_3 : w6.cell? ⟨q, 3, none⟩ = some (.slice A 0 cc) := (blk_cell BK_q.out 3).trans rfl; have lf6_3 := blk_frozen BK_q.out 3; have lc6_4 : w6.cell? ⟨q, 4, none⟩ = some (.int .i64 t) := (blk_cell BK_q.out 4).trans rfl; have lf6_4 := blk_frozen BK_q.out 4; have lc6_5 : w6.cell? ⟨q, 5, none⟩ = some (.int .i64 (n : Int)) := (blk_cell BK_q.out 5).trans rfl; have lf6_5 := blk_frozen BK_q.out 5; have lc6_6 : w6.cell? ⟨q, 6, none⟩ = some (.int .i64 (o : Int)) := (blk_cell BK_q.out 6).trans rfl; have lf6_6 := blk_frozen BK_q.out 6; have lc7_0 : w6.cell? ⟨z, 0, none⟩ = some (.slice none 0 0) := (blk_cell BK_z.out 0).trans rfl; have lf7_0 := blk_frozen BK_z.out 0; have lc7_1 : w6.cell? ⟨z, 1, none⟩ = some (.int .i64 0) := (blk_cell BK_z.out 1).trans rfl; have lf7_1 := blk_frozen BK_z.out 1) | ((with_reducible refine gate_dst (N := 9) rfl ?_); refine box_event ?hg (N := 9) ?hd (cs := #[.slice none 0 0, .int .i64 0]) (t := 30) ?hr ?_; (case hd => rfl); (case hg => rfl); (case hr => first | (go_simp; done) | (go_simp; rfl)); intro y hg w7 hbox HBc; have NS_y : Aside0 (∀ k, Fp g R k → k ≠ y) := ⟨fun k hk e => by have := SL.out.lt k hk; omega⟩; have RG_y : Aside0 (w.heap.size ≤ y) := ⟨Nat.le_trans XT.out.size (Nat.le_of_eq hg.symm)⟩; have NE_q_y : Aside0 (q ≠ y) := ⟨ne_born (blk_lt BK_q.out) hg⟩; have NE_z_y : Aside0 (z ≠ y) := ⟨ne_born (blk_lt BK_z.out) hg⟩; clear hg; have BK_qn : Aside0 (w7.heap[q]? = some (.cells #[.int .i64 22, .int .i64 (a : Int), .int .i64 0, .slice A 0 cc, .int .i64 t, .int .i64 (n : Int), .int .i64 (o : Int)] 24 (0, 0))) := ⟨blk_below BK_q.out HBc⟩; have BK_zn : Aside0 (w7.heap[z]? = some (.cells #[.slice none 0 0, .int .i64 0] 30 (0, 0))) := ⟨blk_below BK_z.out HBc⟩; have SLn : Aside0 (IsSlv 51 w7 g R (upd X 2 (wrAt (X 2) a [((mskN x n o : Nat) : Int)]))) := ⟨SL.out.below HBc⟩; have XTn : Aside0 (Ext (Fp g R) w w7) := ⟨XT.out.stepB HBc⟩; have HVn : Aside0 (Ever (Fp g R) w7 (fun W => Kd.C (Kd.int .i64) W A v.length v)) := ⟨HV.out.step (.of_below HBc)⟩; clear BK_q BK_z SL XT HV; have BK_q := BK_qn; have BK_z := BK_zn; have SL := SLn; have XT := XTn; have HV := HVn; clear BK_qn BK_zn SLn XTn HVn; have BK_y : Aside0 (w7.heap[y]? = some (.cells #[.slice none 0 0, .int .i64 0] 30 (0, 0))) := ⟨hbox⟩; clear hbox HBc; have lc8_0 : w7.cell? ⟨q, 0, none⟩ = some (.int .i64 22) := (blk_cell BK_q.out 0).trans rfl; have lf8_0 := blk_frozen BK_q.out 0; have lc8_1 : w7.cell? ⟨q, 1, none⟩ = some (.int .i64 (a : Int)) := (blk_cell BK_q.out 1).trans rfl; have lf8_1 := blk_frozen BK_q.out 1; have lc8_2 : w7.cell? ⟨q, 2, none⟩ = some (.int .i64 0) := (blk_cell BK_q.out 2).trans rfl; have lf8_2 := blk_frozen BK_q.out 2; have lc8_3 : w7.cell? ⟨q, 3, none⟩ = some (.slice A 0 cc) := (blk_cell BK_q.out 3).trans rfl; have lf8_3 := blk_frozen BK_q.out 3; have lc8_4 : w7.cell? ⟨q, 4, none⟩ = some (.int .i64 t) := (blk_cell BK_q.out 4).trans rfl; have lf8_4 := blk_frozen BK_q.out 4; have lc8_5 : w7.cell? ⟨q, 5, none⟩ = some (.int .i64 (n : Int)) := (blk_cell BK_q.out 5).trans rfl; have lf8_5 := blk_frozen BK_q.out 5; have lc8_6 : w7.cell? ⟨q, 6, none⟩ = some (.int .i64 (o : Int)) := (blk_cell BK_q.out 6).trans rfl; have lf8_6 := blk_frozen BK_q.out 6; have lc9_0 : w7.cell? ⟨z, 0, none⟩ = some (.slice none 0 0) := (blk_cell BK_z.out 0).trans rfl; have lf9_0 := blk_frozen BK_z.out 0; have lc9_1 : w7.cell? ⟨z, 1, none⟩ = some (.int .i64 0) := (blk_cell BK_z.out 1).trans rfl; have lf9_1 := blk_frozen BK_z.out 1; have lc10_0 : w7.cell? ⟨y, 0, none⟩ = some (.slice none 0 0) := (blk_cell BK_y.out 0).trans rfl; have lf10_0 := blk_frozen BK_y.out 0; have lc10_1 : w7.cell? ⟨y, 1, none⟩ = some (.int .i64 0) := (blk_cell BK_y.out 1).trans rfl; have lf10_1 := blk_frozen BK_y.out 1))
  go_loopw [10] (fun u wr => u = .int .i64 0 ∧ w7 = wr) (fun _ _ => 0)
  case atStart => exact ⟨rfl, rfl⟩
  case round =>
    obtain ⟨rfl, rfl⟩ := hrel
    have lc11_0 : w7.cell? ⟨q, 0, none⟩ = some (.int .i64 22) := (blk_cell BK_q.out 0).trans rfl; have lf11_0 := blk_frozen BK_q.out 0
    have lc11_1 : w7.cell? ⟨q, 1, none⟩ = some (.int .i64 (a : Int)) := (blk_cell BK_q.out 1).trans rfl; have lf11_1 := blk_frozen BK_q.out 1
    have lc11_2 : w7.cell? ⟨q, 2, none⟩ = some (.int .i64 0) := (blk_cell BK_q.out 2).trans rfl; have lf11_2 := blk_frozen BK_q.out 2
    have lc11_3 : w7.cell? ⟨q, 3, none⟩ = some (.slice A 0 cc) := (blk_cell BK_q.out 3).trans rfl; have lf11_3 := blk_frozen BK_q.out 3
    have lc11_4 : w7.cell? ⟨q, 4, none⟩ = some (.int .i64 t) := (blk_cell BK_q.out 4).trans rfl; have lf11_4 := blk_frozen BK_q.out 4
    have lc11_5 : w7.cell? ⟨q, 5, none⟩ = some (.int .i64 (n : Int)) := (blk_cell BK_q.out 5).trans rfl; have lf11_5 := blk_frozen BK_q.out 5
    have lc11_6 : w7.cell? ⟨q, 6, none⟩ = some (.int .i64 (o : Int)) := (blk_cell BK_q.out 6).trans rfl; have lf11_6 := blk_frozen BK_q.out 6
    have lc12_0 : w7.cell? ⟨z, 0, none⟩ = some (.slice none 0 0) := (blk_cell BK_z.out 0).trans rfl; have lf12_0 := blk_frozen BK_z.out 0
    have lc12_1 : w7.cell? ⟨z, 1, none⟩ = some (.int .i64 0) := (blk_cell BK_z.out 1).trans rfl; have lf12_1 := blk_frozen BK_z.out 1
    have lc13_0 : w7.cell? ⟨y, 0, none⟩ = some (.slice none 0 0) := (blk_cell BK_y.out 0).trans rfl; have lf13_0 := blk_frozen BK_y.out 0
    have lc13_1 : w7.cell? ⟨y, 1, none⟩ = some (.int .i64 0) := (blk_cell BK_y.out 1).trans rfl; have lf13_1 := blk_frozen BK_y.out 1
    go_wp2_with (first | ((with_reducible refine gate_store (p := 4) rfl ?_); refine store_event (w1 := ?_) rfl (p := 4) rfl rfl ?hr ?_; rotate_left; (case hr => go_simp; rfl); intro w8 hw_; obtain ⟨hput, HEc⟩ := put2 hw_ BK_z.out; clear hw_; have BK_qn : Aside0 (w8.heap[q]? = some (.cells #[.int .i64 22, .int .i64 (a : Int), .int .i64 0, .slice A 0 cc, .int .i64 t, .int .i64 (n : Int), .int .i64 (o : Int)] 24 (0, 0))) := ⟨Ext.blk HEc BK_q.out (NE_q_z.out)⟩; have BK_yn : Aside0 (w8.heap[y]? = some (.cells #[.slice none 0 0, .int .i64 0] 30 (0, 0))) := ⟨Ext.blk HEc BK_y.out (fun e => NE_z_y.out e.symm)⟩; have SLn : Aside0 (IsSlv 51 w8 g R (upd X 2 (wrAt (X 2) a [((mskN x n o : Nat) : Int)]))) := ⟨SL.out.ext HEc (fun k hk e => NS_z.out k hk e)⟩; have XTn : Aside0 (Ext (Fp g R) w w8) := ⟨XT.out.step HEc (fun k e => .inr (by rw [show k = z from e]; exact RG_z.out))⟩; clear BK_q BK_y SL XT; have BK_q := BK_qn; have BK_y := BK_yn; have SL := SLn; have XT := XTn; clear BK_qn BK_yn SLn XTn; clear BK_z HV; have BK_z : Aside0 (w8.heap[z]? = some (.cells #[.slice none 0 0, .int .i64 0] 30 (0, 0))) := ⟨hput⟩; have HST := Aside0.mk HEc; clear hput HEc))
    refine bodyPost_ret (results_cell_row rfl _ _ z 30 #[.slice none 0 0, .int .i64 0] (0, 0) _ rfl BK_z.out Try.underlying30 rfl (by kernel_rfl)) rfl ?_
    exact ⟨none, 0, rfl, Nat.le_refl _, SL.out, XT.out, fun M hM => Ever.nil _⟩
end Go.Proofs.Ytocicifgglkaeaa.SlvJ
end

section
namespace Go.Proofs.Ytocicifgglkaeaa.SlvK
open Go.RowKit Go.Proofs.YtocicifgglkaeaaW.PrintWords Go.Proofs.YtocicifgglkaeaaW.PrintLast Go.Proofs.YtocicifgglkaeaaW.PrintMore Go.Proofs.Ytocicifgglkaeaa.Core Go.Proofs.Ytocicifgglkaeaa.Wk Go.Proofs.Ytocicifgglkaeaa.Chk Go.Proofs.Ytocicifgglkaeaa.SlvA Go.Proofs.Ytocicifgglkaeaa.SlvB Go.Proofs.Ytocicifgglkaeaa.SlvE Go.Proofs.Ytocicifgglkaeaa.SlvW Go.Proofs.Ytocicifgglkaeaa.SlvF Go.Proofs.Ytocicifgglkaeaa.SlvG Go.Proofs.Ytocicifgglkaeaa.SlvH Go.Proofs.Ytocicifgglkaeaa.SlvM Go.Proofs.Ytocicifgglkaeaa.SlvI Go.Proofs.Ytocicifgglkaeaa.SlvJ
set_option linter.unusedVariables false
set_option linter.unusedSimpArgs false
def rdP (X : Nat → List Int) (K a c : Nat) : (Nat → List Int) × List Int × Int := if a + c ≤ (X K).length then (X, rdAt (X K) a c, 0) else (X, [], 2)
def wrP (X : Nat → List Int) (K a : Nat) (v : List Int) : (Nat → List Int) × List Int × Int := if a + v.length ≤ (X K).length then (upd X K (wrAt (X K) a v), [], 0) else (X, [], 2)
def doP (X : Nat → List Int) (f a c : Int) (v : List Int) (t n o : Int) : (Nat → List Int) × List Int × Int :=
  if f = 22 then (if a.toNat + 1 ≤ (X 2).length then (upd X 2 ((X 2).set a.toNat (mskB ((X 2).getD a.toNat 0) n o)), [], 0) else (X, [], 2))
  else if f = 23 then (if t.toNat + v.length ≤ (X 2).length ∧ a.toNat + c.toNat ≤ (X 2).length then (upd X 2 (wrAt (X 2) t.toNat v), rdAt (wrAt (X 2) t.toNat v) a.toNat c.toNat, 0) else (X, [], 2))
  else if f = 5 ∨ f = 15 then wrP X 0 a.toNat v
  else if f = 6 ∨ f = 16 then wrP X 2 a.toNat v
  else rdP X (f - 1).toNat a.toNat c.toNat
theorem chk_fn {f a c t n o : Int} {v : List Int} (h : Chk.chkB f a c v t n o = true) : f = 1 ∨ f = 2 ∨ f = 3 ∨ f = 4 ∨ f = 5 ∨ f = 6 ∨ f = 15 ∨ f = 16 ∨ f = 22 ∨ f = 23 := by
  unfold Chk.chkB at h
  repeat' split at h
  all_goals first | omega | cases h
theorem sp_of {a n : Int} (h : Chk.spB a n = true) : 0 ≤ a ∧ a ≤ 65535 ∧ a + n ≤ 65536 := of_decide_eq_true h
theorem wb_of {lo hi n : Int} (h : Chk.wB lo hi n = true) : lo ≤ n ∧ n ≤ hi := of_decide_eq_true h
theorem low_of {m : Int} {l : List Int} (h : Chk.lowB m l = true) : ∀ x ∈ l, 0 ≤ x ∧ x ≤ m := of_decide_eq_true h
theorem chk_rd {f a c t n o : Int} {v : List Int} (h : Chk.chkB f a c v t n o = true) (hf : f = 1 ∨ f = 2 ∨ f = 3 ∨ f = 4) : v = [] ∧ 1 ≤ c ∧ c ≤ 2000 ∧ 0 ≤ a ∧ a ≤ 65535 := by
  rcases hf with rfl | rfl | rfl | rfl <;> simp [Chk.chkB] at h <;> (obtain ⟨⟨⟨_, h1⟩, h2⟩, h3⟩ := h; have h2 := wb_of h2; have h3 := sp_of h3; exact ⟨h1, by omega, by omega, by omega, by omega⟩)
theorem chk_wr {f a c t n o : Int} {v : List Int} (h : Chk.chkB f a c v t n o = true) (hf : f = 5 ∨ f = 6 ∨ f = 15 ∨ f = 16) : 1 ≤ v.length ∧ v.length ≤ 1968 ∧ 0 ≤ a ∧ a ≤ 65535 ∧ c = (if f = 5 ∨ f = 6 then 0 else (v.length : Int)) ∧ ∀ x ∈ v, 0 ≤ x ∧ x ≤ 65535 := by
  rcases hf with rfl | rfl | rfl | rfl <;> simp [Chk.chkB, Chk.smB] at h <;> (obtain ⟨⟨⟨_, h1⟩, h2, h4⟩, h3⟩ := h; have h2 := wb_of h2; have h3 := sp_of h3; have h4 := low_of h4; exact ⟨by omega, by omega, by omega, by omega, by simp [h1], fun x hx => by have := h4 x hx; omega⟩)
theorem chk_m {a c t n o : Int} {v : List Int} (h : Chk.chkB 22 a c v t n o = true) : v = [] ∧ c = 0 ∧ 0 ≤ a ∧ a ≤ 65535 ∧ 0 ≤ n ∧ n ≤ 65535 ∧ 0 ≤ o ∧ o ≤ 65535 := by
  simp [Chk.chkB] at h
  obtain ⟨⟨⟨⟨⟨h1, _⟩, h2⟩, h3⟩, h4⟩, h5⟩ := h
  have h3 := sp_of h3; have h4 := wb_of h4; have h5 := wb_of h5
  exact ⟨h1, h2, by omega, by omega, by omega, by omega, by omega, by omega⟩
theorem chk_b {a c t n o : Int} {v : List Int} (h : Chk.chkB 23 a c v t n o = true) : 1 ≤ c ∧ c ≤ 125 ∧ 0 ≤ a ∧ a ≤ 65535 ∧ 1 ≤ v.length ∧ v.length ≤ 121 ∧ 0 ≤ t ∧ t ≤ 65535 ∧ ∀ x ∈ v, 0 ≤ x ∧ x ≤ 65535 := by
  simp [Chk.chkB, Chk.smB] at h
  obtain ⟨⟨⟨⟨_, h1⟩, h2⟩, h3, h4⟩, h5⟩ := h
  have h1 := wb_of h1; have h2 := sp_of h2; have h3 := wb_of h3; have h4 := low_of h4; have h5 := sp_of h5
  exact ⟨by omega, by omega, by omega, by omega, by omega, by omega, by omega, by omega, h4⟩
set_option maxHeartbeats 4000000 in
set_option maxRecDepth 100000 in
theorem do_c {w : World} {g : Nat} {R : Nat → Nat} {X : Nat → List Int} (h : IsSlv 77 w g R X) {A : Option Addr} {cc : Nat} {v : List Int} {nv : Nat} (hn : v.length = nv) (hV : Ever (Fp g R) w (fun W => Kd.C (Kd.int .i64) W A v.length v)) {f a c t n o : Int} (hck : Chk.chkB f a c v t n o = true) {X' : Nat → List Int} {ys : List Int} {code : Int} (hd : doP X f a c v t n o = (X', ys, code)) :
    Calls Try.prog 15 #[.pointer (some ⟨g, 0, none⟩), .agg #[.int .i64 f, .int .i64 a, .int .i64 c, .slice A nv cc, .int .i64 t, .int .i64 n, .int .i64 o]] w fun e w' => ∃ AA cA, e = .returned (.tuple #[.agg #[.slice AA ys.length cA, .int .i64 code], .int .i64 0]) ∧ ys.length ≤ cA ∧ IsSlv 77 w' g R X' ∧ Ext (Fp g R) w w' ∧ IsAns w w' AA ys := by
  have hlen := fun k hk => h.len k hk
  rcases chk_fn hck with rfl | rfl | rfl | rfl | rfl | rfl | rfl | rfl | rfl | rfl
  · obtain ⟨rfl, c1, c2, a1, a2⟩ := chk_rd hck (by omega)
    obtain ⟨a, rfl⟩ := Int.eq_ofNat_of_zero_le a1; obtain ⟨c, rfl⟩ := Int.eq_ofNat_of_zero_le (show 0 ≤ c by omega)
    obtain rfl : nv = 0 := hn.symm
    have hd : rdP X 0 a c = (X', ys, code) := hd
    unfold rdP at hd
    by_cases hf : a + c ≤ (X 0).length
    · rw [if_pos hf] at hd; simp only [Prod.mk.injEq] at hd; obtain ⟨rfl, rfl, rfl⟩ := hd
      exact do_r0_yes h hn hV hck ⟨by omega, by omega⟩ (by omega) hf
    · rw [if_neg hf] at hd; simp only [Prod.mk.injEq] at hd; obtain ⟨rfl, rfl, rfl⟩ := hd
      exact do_r0_no h hn hV hck ⟨by omega, by omega⟩ (by omega)
  · obtain ⟨rfl, c1, c2, a1, a2⟩ := chk_rd hck (by omega)
    obtain ⟨a, rfl⟩ := Int.eq_ofNat_of_zero_le a1; obtain ⟨c, rfl⟩ := Int.eq_ofNat_of_zero_le (show 0 ≤ c by omega)
    obtain rfl : nv = 0 := hn.symm
    have hd : rdP X 1 a c = (X', ys, code) := hd
    unfold rdP at hd
    by_cases hf : a + c ≤ (X 1).length
    · rw [if_pos hf] at hd; simp only [Prod.mk.injEq] at hd; obtain ⟨rfl, rfl, rfl⟩ := hd
      exact do_r1_yes h hn hV hck ⟨by omega, by omega⟩ (by omega) hf
    · rw [if_neg hf] at hd; simp only [Prod.mk.injEq] at hd; obtain ⟨rfl, rfl, rfl⟩ := hd
      exact do_r1_no h hn hV hck ⟨by omega, by omega⟩ (by omega)
  · obtain ⟨rfl, c1, c2, a1, a2⟩ := chk_rd hck (by omega)
    obtain ⟨a, rfl⟩ := Int.eq_ofNat_of_zero_le a1; obtain ⟨c, rfl⟩ := Int.eq_ofNat_of_zero_le (show 0 ≤ c by omega)
    obtain rfl : nv = 0 := hn.symm
    have hd : rdP X 2 a c = (X', ys, code) := hd
    unfold rdP at hd
    by_cases hf : a + c ≤ (X 2).length
    · rw [if_pos hf] at hd; simp only [Prod.mk.injEq] at hd; obtain ⟨rfl, rfl, rfl⟩ := hd
      exact do_r2_yes h hn hV hck ⟨by omega, by omega⟩ (by omega) hf
    · rw [if_neg hf] at hd; simp only [Prod.mk.injEq] at hd; obtain ⟨rfl, rfl, rfl⟩ := hd
      exact do_r2_no h hn hV hck ⟨by omega, by omega⟩ (by omega)
  · obtain ⟨rfl, c1, c2, a1, a2⟩ := chk_rd hck (by omega)
    obtain ⟨a, rfl⟩ := Int.eq_ofNat_of_zero_le a1; obtain ⟨c, rfl⟩ := Int.eq_ofNat_of_zero_le (show 0 ≤ c by omega)
    obtain rfl : nv = 0 := hn.symm
    have hd : rdP X 3 a c = (X', ys, code) := hd
    unfold rdP at hd
    by_cases hf : a + c ≤ (X 3).length
    · rw [if_pos hf] at hd; simp only [Prod.mk.injEq] at hd; obtain ⟨rfl, rfl, rfl⟩ := hd
      exact do_r3_yes h hn hV hck ⟨by omega, by omega⟩ (by omega) hf
    · rw [if_neg hf] at hd; simp only [Prod.mk.injEq] at hd; obtain ⟨rfl, rfl, rfl⟩ := hd
      exact do_r3_no h hn hV hck ⟨by omega, by omega⟩ (by omega)
  · obtain ⟨v1, v2, a1, a2, hc, hlow⟩ := chk_wr hck (by omega)
    obtain ⟨a, rfl⟩ := Int.eq_ofNat_of_zero_le a1
    have hd : wrP X 0 a v = (X', ys, code) := hd
    unfold wrP at hd
    by_cases hf : a + v.length ≤ (X 0).length
    · rw [if_pos hf] at hd; simp only [Prod.mk.injEq] at hd; obtain ⟨rfl, rfl, rfl⟩ := hd
      exact do_w5_yes h hn hV hck ⟨by omega, by omega⟩ (by omega) (by omega)
    · rw [if_neg hf] at hd; simp only [Prod.mk.injEq] at hd; obtain ⟨rfl, rfl, rfl⟩ := hd
      exact do_w5_no h hn hV hck ⟨by omega, by omega⟩ (by omega)
  · obtain ⟨v1, v2, a1, a2, hc, hlow⟩ := chk_wr hck (by omega)
    obtain ⟨a, rfl⟩ := Int.eq_ofNat_of_zero_le a1
    have hd : wrP X 2 a v = (X', ys, code) := hd
    unfold wrP at hd
    by_cases hf : a + v.length ≤ (X 2).length
    · rw [if_pos hf] at hd; simp only [Prod.mk.injEq] at hd; obtain ⟨rfl, rfl, rfl⟩ := hd
      exact do_w6_yes h hn hV hck ⟨by omega, by omega⟩ (by omega) (by omega)
    · rw [if_neg hf] at hd; simp only [Prod.mk.injEq] at hd; obtain ⟨rfl, rfl, rfl⟩ := hd
      exact do_w6_no h hn hV hck ⟨by omega, by omega⟩ (by omega)
  · obtain ⟨v1, v2, a1, a2, hc, hlow⟩ := chk_wr hck (by omega)
    obtain ⟨a, rfl⟩ := Int.eq_ofNat_of_zero_le a1
    have hd : wrP X 0 a v = (X', ys, code) := hd
    unfold wrP at hd
    by_cases hf : a + v.length ≤ (X 0).length
    · rw [if_pos hf] at hd; simp only [Prod.mk.injEq] at hd; obtain ⟨rfl, rfl, rfl⟩ := hd
      exact do_w15_yes h hn hV hck ⟨by omega, by omega⟩ (by omega) (by omega)
    · rw [if_neg hf] at hd; simp only [Prod.mk.injEq] at hd; obtain ⟨rfl, rfl, rfl⟩ := hd
      exact do_w15_no h hn hV hck ⟨by omega, by omega⟩ (by omega)
  · obtain ⟨v1, v2, a1, a2, hc, hlow⟩ := chk_wr hck (by omega)
    obtain ⟨a, rfl⟩ := Int.eq_ofNat_of_zero_le a1
    have hd : wrP X 2 a v = (X', ys, code) := hd
    unfold wrP at hd
    by_cases hf : a + v.length ≤ (X 2).length
    · rw [if_pos hf] at hd; simp only [Prod.mk.injEq] at hd; obtain ⟨rfl, rfl, rfl⟩ := hd
      exact do_w16_yes h hn hV hck ⟨by omega, by omega⟩ (by omega) (by omega)
    · rw [if_neg hf] at hd; simp only [Prod.mk.injEq] at hd; obtain ⟨rfl, rfl, rfl⟩ := hd
      exact do_w16_no h hn hV hck ⟨by omega, by omega⟩ (by omega)
  · obtain ⟨rfl, rfl, a1, a2, n1, n2, o1, o2⟩ := chk_m hck
    obtain ⟨a, rfl⟩ := Int.eq_ofNat_of_zero_le a1; obtain rfl : nv = 0 := hn.symm
    have hd : (if a + 1 ≤ (X 2).length then (upd X 2 ((X 2).set a (mskB ((X 2).getD a 0) n o)), ([] : List Int), (0 : Int)) else (X, [], 2)) = (X', ys, code) := hd
    by_cases hf : a + 1 ≤ (X 2).length
    · rw [if_pos hf] at hd; simp only [Prod.mk.injEq] at hd; obtain ⟨rfl, rfl, rfl⟩ := hd
      exact do_m_yes h hn hV hck (by omega) hf
    · rw [if_neg hf] at hd; simp only [Prod.mk.injEq] at hd; obtain ⟨rfl, rfl, rfl⟩ := hd
      exact do_m_no h hn hV hck (by omega) (by omega)
  · obtain ⟨c1, c2, a1, a2, v1, v2, t1, t2, hlow⟩ := chk_b hck
    obtain ⟨a, rfl⟩ := Int.eq_ofNat_of_zero_le a1; obtain ⟨c, rfl⟩ := Int.eq_ofNat_of_zero_le (show 0 ≤ c by omega); obtain ⟨t, rfl⟩ := Int.eq_ofNat_of_zero_le t1
    have hd : (if t + v.length ≤ (X 2).length ∧ a + c ≤ (X 2).length then (upd X 2 (wrAt (X 2) t v), rdAt (wrAt (X 2) t v) a c, (0 : Int)) else (X, [], 2)) = (X', ys, code) := hd
    by_cases h1 : t + v.length ≤ (X 2).length
    · by_cases h2 : a + c ≤ (X 2).length
      · rw [if_pos ⟨h1, h2⟩] at hd; simp only [Prod.mk.injEq] at hd; obtain ⟨rfl, rfl, rfl⟩ := hd
        exact do_b_yy h hn hV hck ⟨by omega, by omega⟩ ⟨by omega, by omega⟩ (by omega) (by omega) (by omega) h2
      · rw [if_neg (fun q => h2 q.2)] at hd; simp only [Prod.mk.injEq] at hd; obtain ⟨rfl, rfl, rfl⟩ := hd
        exact do_b_yn h hn hV hck ⟨by omega, by omega⟩ ⟨by omega, by omega⟩ (by omega) (by omega) (by omega)
    · rw [if_neg (fun q => h1 q.1)] at hd; simp only [Prod.mk.injEq] at hd; obtain ⟨rfl, rfl, rfl⟩ := hd
      by_cases h2 : a + c ≤ (X 2).length
      · exact do_b_ny h hn hV hck ⟨by omega, by omega⟩ ⟨by omega, by omega⟩ (by omega) (by omega) h2
      · exact do_b_nn h hn hV hck ⟨by omega, by omega⟩ ⟨by omega, by omega⟩ (by omega) (by omega)
set_option maxHeartbeats 4000000 in
set_option maxRecDepth 100000 in
theorem rdo_c {w : World} {g : Nat} {R : Nat → Nat} {X : Nat → List Int} (h : IsSlv 51 w g R X) {A : Option Addr} {cc : Nat} {v : List Int} {nv : Nat} (hn : v.length = nv) (hV : Ever (Fp g R) w (fun W => Kd.C (Kd.int .i64) W A v.length v)) {f a c t n o : Int} (hck : Chk.chkB f a c v t n o = true) (hrg : ∀ x ∈ X 2, 0 ≤ x ∧ x ≤ 65535) {X' : Nat → List Int} {ys : List Int} {code : Int} (hd : doP X f a c v t n o = (X', ys, code)) :
    Calls Try.prog 21 #[.pointer (some ⟨g, 0, none⟩), .agg #[.int .i64 f, .int .i64 a, .int .i64 c, .slice A nv cc, .int .i64 t, .int .i64 n, .int .i64 o]] w fun e w' => ∃ AA cA, e = .returned (.agg #[.slice AA ys.length cA, .int .i64 code]) ∧ ys.length ≤ cA ∧ IsSlv 51 w' g R X' ∧ Ext (Fp g R) w w' ∧ IsAns w w' AA ys := by
  have hlen := fun k hk => h.len k hk
  rcases chk_fn hck with rfl | rfl | rfl | rfl | rfl | rfl | rfl | rfl | rfl | rfl
  · obtain ⟨rfl, c1, c2, a1, a2⟩ := chk_rd hck (by omega)
    obtain ⟨a, rfl⟩ := Int.eq_ofNat_of_zero_le a1; obtain ⟨c, rfl⟩ := Int.eq_ofNat_of_zero_le (show 0 ≤ c by omega)
    obtain rfl : nv = 0 := hn.symm
    have hd : rdP X 0 a c = (X', ys, code) := hd
    unfold rdP at hd
    by_cases hf : a + c ≤ (X 0).length
    · rw [if_pos hf] at hd; simp only [Prod.mk.injEq] at hd; obtain ⟨rfl, rfl, rfl⟩ := hd
      exact rdo_r0_yes h hn hV ⟨by omega, by omega, by omega⟩ hf
    · rw [if_neg hf] at hd; simp only [Prod.mk.injEq] at hd; obtain ⟨rfl, rfl, rfl⟩ := hd
      exact rdo_r0_no h hn hV ⟨by omega, by omega, by omega⟩ (by omega)
  · obtain ⟨rfl, c1, c2, a1, a2⟩ := chk_rd hck (by omega)
    obtain ⟨a, rfl⟩ := Int.eq_ofNat_of_zero_le a1; obtain ⟨c, rfl⟩ := Int.eq_ofNat_of_zero_le (show 0 ≤ c by omega)
    obtain rfl : nv = 0 := hn.symm
    have hd : rdP X 1 a c = (X', ys, code) := hd
    unfold rdP at hd
    by_cases hf : a + c ≤ (X 1).length
    · rw [if_pos hf] at hd; simp only [Prod.mk.injEq] at hd; obtain ⟨rfl, rfl, rfl⟩ := hd
      exact rdo_r1_yes h hn hV ⟨by omega, by omega, by omega⟩ hf
    · rw [if_neg hf] at hd; simp only [Prod.mk.injEq] at hd; obtain ⟨rfl, rfl, rfl⟩ := hd
      exact rdo_r1_no h hn hV ⟨by omega, by omega, by omega⟩ (by omega)
  · obtain ⟨rfl, c1, c2, a1, a2⟩ := chk_rd hck (by omega)
    obtain ⟨a, rfl⟩ := Int.eq_ofNat_of_zero_le a1; obtain ⟨c, rfl⟩ := Int.eq_ofNat_of_zero_le (show 0 ≤ c by omega)
    obtain rfl : nv = 0 := hn.symm
    have hd : rdP X 2 a c = (X', ys, code) := hd
    unfold rdP at hd
    by_cases hf : a + c ≤ (X 2).length
    · rw [if_pos hf] at hd; simp only [Prod.mk.injEq] at hd; obtain ⟨rfl, rfl, rfl⟩ := hd
      exact rdo_r2_yes h hn hV ⟨by omega, by omega, by omega⟩ hf
    · rw [if_neg hf] at hd; simp only [Prod.mk.injEq] at hd; obtain ⟨rfl, rfl, rfl⟩ := hd
      exact rdo_r2_no h hn hV ⟨by omega, by omega, by omega⟩ (by omega)
  · obtain ⟨rfl, c1, c2, a1, a2⟩ := chk_rd hck (by omega)
    obtain ⟨a, rfl⟩ := Int.eq_ofNat_of_zero_le a1; obtain ⟨c, rfl⟩ := Int.eq_ofNat_of_zero_le (show 0 ≤ c by omega)
    obtain rfl : nv = 0 := hn.symm
    have hd : rdP X 3 a c = (X', ys, code) := hd
    unfold rdP at hd
    by_cases hf : a + c ≤ (X 3).length
    · rw [if_pos hf] at hd; simp only [Prod.mk.injEq] at hd; obtain ⟨rfl, rfl, rfl⟩ := hd
      exact rdo_r3_yes h hn hV ⟨by omega, by omega, by omega⟩ hf
    · rw [if_neg hf] at hd; simp only [Prod.mk.injEq] at hd; obtain ⟨rfl, rfl, rfl⟩ := hd
      exact rdo_r3_no h hn hV ⟨by omega, by omega, by omega⟩ (by omega)
  · obtain ⟨v1, v2, a1, a2, hc, hlow⟩ := chk_wr hck (by omega)
    obtain ⟨a, rfl⟩ := Int.eq_ofNat_of_zero_le a1
    rw [show (if (5 : Int) = 5 ∨ (5 : Int) = 6 then (0 : Int) else (v.length : Int)) = 0 from rfl] at hc; subst hc
    have hd : wrP X 0 a v = (X', ys, code) := hd
    unfold wrP at hd
    by_cases hf : a + v.length ≤ (X 0).length
    · rw [if_pos hf] at hd; simp only [Prod.mk.injEq] at hd; obtain ⟨rfl, rfl, rfl⟩ := hd
      exact rdo_w5_yes h hn hV ⟨by omega, by omega, by omega⟩ (by omega)
    · rw [if_neg hf] at hd; simp only [Prod.mk.injEq] at hd; obtain ⟨rfl, rfl, rfl⟩ := hd
      exact rdo_w5_no h hn hV ⟨by omega, by omega, by omega⟩ (by omega)
  · obtain ⟨v1, v2, a1, a2, hc, hlow⟩ := chk_wr hck (by omega)
    obtain ⟨a, rfl⟩ := Int.eq_ofNat_of_zero_le a1
    rw [show (if (6 : Int) = 5 ∨ (6 : Int) = 6 then (0 : Int) else (v.length : Int)) = 0 from rfl] at hc; subst hc
    have hd : wrP X 2 a v = (X', ys, code) := hd
    unfold wrP at hd
    by_cases hf : a + v.length ≤ (X 2).length
    · rw [if_pos hf] at hd; simp only [Prod.mk.injEq] at hd; obtain ⟨rfl, rfl, rfl⟩ := hd
      exact rdo_w6_yes h hn hV ⟨by omega, by omega, by omega⟩ (by omega)
    · rw [if_neg hf] at hd; simp only [Prod.mk.injEq] at hd; obtain ⟨rfl, rfl, rfl⟩ := hd
      exact rdo_w6_no h hn hV ⟨by omega, by omega, by omega⟩ (by omega)
  · obtain ⟨v1, v2, a1, a2, hc, hlow⟩ := chk_wr hck (by omega)
    obtain ⟨a, rfl⟩ := Int.eq_ofNat_of_zero_le a1
    have hc : c = (nv : Int) := by rw [hc, ← hn]; rfl
    subst hc
    have hd : wrP X 0 a v = (X', ys, code) := hd
    unfold wrP at hd
    by_cases hf : a + v.length ≤ (X 0).length
    · rw [if_pos hf] at hd; simp only [Prod.mk.injEq] at hd; obtain ⟨rfl, rfl, rfl⟩ := hd
      exact rdo_w15_yes h hn hV ⟨by omega, by omega, by omega⟩ (by omega)
    · rw [if_neg hf] at hd; simp only [Prod.mk.injEq] at hd; obtain ⟨rfl, rfl, rfl⟩ := hd
      exact rdo_w15_no h hn hV ⟨by omega, by omega, by omega⟩ (by omega)
  · obtain ⟨v1, v2, a1, a2, hc, hlow⟩ := chk_wr hck (by omega)
    obtain ⟨a, rfl⟩ := Int.eq_ofNat_of_zero_le a1
    have hc : c = (nv : Int) := by rw [hc, ← hn]; rfl
    subst hc
    have hd : wrP X 2 a v = (X', ys, code) := hd
    unfold wrP at hd
    by_cases hf : a + v.length ≤ (X 2).length
    · rw [if_pos hf] at hd; simp only [Prod.mk.injEq] at hd; obtain ⟨rfl, rfl, rfl⟩ := hd
      exact rdo_w16_yes h hn hV ⟨by omega, by omega, by omega⟩ (by omega)
    · rw [if_neg hf] at hd; simp only [Prod.mk.injEq] at hd; obtain ⟨rfl, rfl, rfl⟩ := hd
      exact rdo_w16_no h hn hV ⟨by omega, by omega, by omega⟩ (by omega)
  · obtain ⟨rfl, rfl, a1, a2, n1, n2, o1, o2⟩ := chk_m hck
    obtain ⟨a, rfl⟩ := Int.eq_ofNat_of_zero_le a1; obtain rfl : nv = 0 := hn.symm
    have hd : (if a + 1 ≤ (X 2).length then (upd X 2 ((X 2).set a (mskB ((X 2).getD a 0) n o)), ([] : List Int), (0 : Int)) else (X, [], 2)) = (X', ys, code) := hd
    by_cases hf : a + 1 ≤ (X 2).length
    · rw [if_pos hf] at hd; simp only [Prod.mk.injEq] at hd; obtain ⟨rfl, rfl, rfl⟩ := hd
      obtain ⟨n, rfl⟩ := Int.eq_ofNat_of_zero_le n1; obtain ⟨o, rfl⟩ := Int.eq_ofNat_of_zero_le o1
      have hx0 := hrg ((X 2).getD a 0) (by rw [List.getD_eq_getElem?_getD, List.getElem?_eq_getElem (by omega), Option.getD_some]; exact List.getElem_mem _)
      obtain ⟨x, hx⟩ := Int.eq_ofNat_of_zero_le hx0.1
      have key := rdo_m_yes (t := t) (cc := cc) (a := a) h hn hV (by omega) hf hx (by omega) (n := n) (o := o) (by omega) (by omega)
      have e1 : wrAt (X 2) a [((mskN x n o : Nat) : Int)] = (X 2).set a (mskB ((X 2).getD a 0) n o) := by
        unfold mskB
        rw [hx]
        rw [mask_bits (by omega) (by omega) (by omega)]
        have := wrAt_set (xs := X 2) (l := [((mskN x n o : Nat) : Int)]) (a := a) (k := 0) (by simpa using hf) (by simp)
        rw [List.take_zero, wrAt_nil] at this
        exact this.symm
      rw [e1] at key
      exact key
    · rw [if_neg hf] at hd; simp only [Prod.mk.injEq] at hd; obtain ⟨rfl, rfl, rfl⟩ := hd
      obtain ⟨n, rfl⟩ := Int.eq_ofNat_of_zero_le n1; obtain ⟨o, rfl⟩ := Int.eq_ofNat_of_zero_le o1
      exact rdo_m_no h hn hV (by omega) (by omega)
  · obtain ⟨c1, c2, a1, a2, v1, v2, t1, t2, hlow⟩ := chk_b hck
    obtain ⟨a, rfl⟩ := Int.eq_ofNat_of_zero_le a1; obtain ⟨c, rfl⟩ := Int.eq_ofNat_of_zero_le (show 0 ≤ c by omega); obtain ⟨t, rfl⟩ := Int.eq_ofNat_of_zero_le t1
    have hd : (if t + v.length ≤ (X 2).length ∧ a + c ≤ (X 2).length then (upd X 2 (wrAt (X 2) t v), rdAt (wrAt (X 2) t v) a c, (0 : Int)) else (X, [], 2)) = (X', ys, code) := hd
    by_cases h1 : t + v.length ≤ (X 2).length
    · by_cases h2 : a + c ≤ (X 2).length
      · rw [if_pos ⟨h1, h2⟩] at hd; simp only [Prod.mk.injEq] at hd; obtain ⟨rfl, rfl, rfl⟩ := hd
        have key := rdo_b_yy (n := n) (o := o) (cc := cc) (a := a) (c := c) (t := t) h hn hV ⟨⟨by omega, by omega, by omega⟩, by omega, by omega, by omega⟩ h2 (by omega)
        rw [show (upd X 2 (wrAt (X 2) t v)) 2 = wrAt (X 2) t v from if_pos rfl] at key
        exact key
      · rw [if_neg (fun q => h2 q.2)] at hd; simp only [Prod.mk.injEq] at hd; obtain ⟨rfl, rfl, rfl⟩ := hd
        exact rdo_b_n h hn hV ⟨⟨by omega, by omega, by omega⟩, by omega, by omega, by omega⟩ (by omega)
    · rw [if_neg (fun q => h1 q.1)] at hd; simp only [Prod.mk.injEq] at hd; obtain ⟨rfl, rfl, rfl⟩ := hd
      by_cases h2 : a + c ≤ (X 2).length
      · exact rdo_b_yn h hn hV ⟨⟨by omega, by omega, by omega⟩, by omega, by omega, by omega⟩ h2 (by omega)
      · exact rdo_b_n h hn hV ⟨⟨by omega, by omega, by omega⟩, by omega, by omega, by omega⟩ (by omega)
set_option maxHeartbeats 4000000 in
set_option maxRecDepth 100000 in
theorem do_bad {w : World} {g : Nat} {f a c t n o : Int} {A : Option Addr} {cc nv : Nat} {v : List Int} (hn : v.length = nv) (hV : Kd.C (Kd.int .i64) w A v.length v) (hck : Chk.chkB f a c v t n o = false) : Calls Try.prog 15 #[.pointer (some ⟨g, 0, none⟩), .agg #[.int .i64 f, .int .i64 a, .int .i64 c, .slice A nv cc, .int .i64 t, .int .i64 n, .int .i64 o]] w fun e w' => e = .returned (.tuple #[.agg #[.slice none 0 0, .int .i64 0], .int .i64 1]) ∧ Below w.heap.size w w' := by
  have XB : Aside0 (Below w.heap.size w w) := ⟨Below.refl _ _⟩; have HN := Aside0.mk hn; have HV := Aside0.mk hV; have HCK := Aside0.mk hck; clear hn hV hck
  go_enter Try.func15, Try.ntmps15
  go_wp2_with (first | ((with_reducible refine gate_dst (N := 3) rfl ?_); refine box_event ?hg (N := 3) ?hd (cs := #[.int .i64 f, .int .i64 a, .int .i64 c, .slice A nv cc, .int .i64 t, .int .i64 n, .int .i64 o]) (t := 24) ?hr ?_; (case hd => rfl); (case hg => rfl); (case hr => first | (go_simp; done) | (go_simp; rfl)); intro q hg w1 hbox HBc; have XBn : Aside0 (Below w.heap.size w w1) := ⟨below_step XB.out HBc⟩; clear XB; have XB := XBn; clear XBn; have BK_q : Aside0 (w1.heap[q]? = some (.cells #[.int .i64 f, .int .i64 a, .int .i64 c, .slice A nv cc, .int .i64 t, .int .i64 n, .int .i64 o] 24 (0, 0))) := ⟨hbox⟩; have XB0 : Aside0 (w.heap.size ≤ w1.heap.size) := ⟨below_size XB.out⟩; clear hg hbox HBc; have lq0 : w1.cell? ⟨q, 0, none⟩ = some (.int .i64 f) := (blk_cell BK_q.out 0).trans rfl; have lqf0 := blk_frozen BK_q.out 0; have lq1 : w1.cell? ⟨q, 1, none⟩ = some (.int .i64 a) := (blk_cell BK_q.out 1).trans rfl; have lqf1 := blk_frozen BK_q.out 1; have lq2 : w1.cell? ⟨q, 2, none⟩ = some (.int .i64 c) := (blk_cell BK_q.out 2).trans rfl; have lqf2 := blk_frozen BK_q.out 2; have lq3 : w1.cell? ⟨q, 3, none⟩ = some (.slice A nv cc) := (blk_cell BK_q.out 3).trans rfl; have lqf3 := blk_frozen BK_q.out 3; have lq4 : w1.cell? ⟨q, 4, none⟩ = some (.int .i64 t) := (blk_cell BK_q.out 4).trans rfl; have lqf4 := blk_frozen BK_q.out 4; have lq5 : w1.cell? ⟨q, 5, none⟩ = some (.int .i64 n) := (blk_cell BK_q.out 5).trans rfl; have lqf5 := blk_frozen BK_q.out 5; have lq6 : w1.cell? ⟨q, 6, none⟩ = some (.int .i64 o) := (blk_cell BK_q.out 6).trans rfl; have lqf6 := blk_frozen BK_q.out 6) | ((with_reducible refine gate_dst (N := 4) rfl ?_); refine box_event ?hg (N := 4) ?hd (cs := #[.slice none 0 0, .int .i64 0]) (t := 30) ?hr ?_; (case hd => rfl); (case hg => rfl); (case hr => first | (go_simp; done) | (go_simp; rfl)); intro z hg w2 hbox HBc; have XBn : Aside0 (Below w.heap.size w w2) := ⟨below_step XB.out HBc⟩; clear XB; have XB := XBn; clear XBn; have RZ : Aside0 (w.heap.size ≤ z) := ⟨by have := below_size XB.out; have h3 := HBc.size; have := blk_lt BK_q.out; have h5 := hg; have h6 := XB0.out; omega⟩; have BKn : Aside0 (w2.heap[q]? = some (.cells #[.int .i64 f, .int .i64 a, .int .i64 c, .slice A nv cc, .int .i64 t, .int .i64 n, .int .i64 o] 24 (0, 0))) := ⟨blk_below BK_q.out HBc⟩; clear BK_q; have BK_q := BKn; clear BKn; have BK_z : Aside0 (w2.heap[z]? = some (.cells #[.slice none 0 0, .int .i64 0] 30 (0, 0))) := ⟨hbox⟩; clear hg hbox HBc; have lr0 : w2.cell? ⟨q, 0, none⟩ = some (.int .i64 f) := (blk_cell BK_q.out 0).trans rfl; have lrf0 := blk_frozen BK_q.out 0; have lr1 : w2.cell? ⟨q, 1, none⟩ = some (.int .i64 a) := (blk_cell BK_q.out 1).trans rfl; have lrf1 := blk_frozen BK_q.out 1; have lr2 : w2.cell? ⟨q, 2, none⟩ = some (.int .i64 c) := (blk_cell BK_q.out 2).trans rfl; have lrf2 := blk_frozen BK_q.out 2; have lr3 : w2.cell? ⟨q, 3, none⟩ = some (.slice A nv cc) := (blk_cell BK_q.out 3).trans rfl; have lrf3 := blk_frozen BK_q.out 3; have lr4 : w2.cell? ⟨q, 4, none⟩ = some (.int .i64 t) := (blk_cell BK_q.out 4).trans rfl; have lrf4 := blk_frozen BK_q.out 4; have lr5 : w2.cell? ⟨q, 5, none⟩ = some (.int .i64 n) := (blk_cell BK_q.out 5).trans rfl; have lrf5 := blk_frozen BK_q.out 5; have lr6 : w2.cell? ⟨q, 6, none⟩ = some (.int .i64 o) := (blk_cell BK_q.out 6).trans rfl; have lrf6 := blk_frozen BK_q.out 6; have lzw20 : w2.cell? ⟨z, 0, none⟩ = some (.slice none 0 0) := (blk_cell BK_z.out 0).trans rfl; have lzfw20 := blk_frozen BK_z.out 0; have lzw21 : w2.cell? ⟨z, 1, none⟩ = some (.int .i64 0) := (blk_cell BK_z.out 1).trans rfl; have lzfw21 := blk_frozen BK_z.out 1) | (go_at_call 29; refine (chk_n HN.out (Kd.C_below HV.out XB.out) HCK.out rfl).mono ?_; rintro e w3 ⟨rfl, HBc⟩; have XBn : Aside0 (Below w.heap.size w w3) := ⟨below_step XB.out HBc⟩; clear XB; have XB := XBn; clear XBn; have BKn : Aside0 (w3.heap[z]? = some (.cells #[.slice none 0 0, .int .i64 0] 30 (0, 0))) := ⟨blk_below BK_z.out HBc⟩; clear BK_z; have BK_z := BKn; clear BKn HBc; have lzw30 : w3.cell? ⟨z, 0, none⟩ = some (.slice none 0 0) := (blk_cell BK_z.out 0).trans rfl; have lzfw30 := blk_frozen BK_z.out 0; have lzw31 : w3.cell? ⟨z, 1, none⟩ = some (.int .i64 0) := (blk_cell BK_z.out 1).trans rfl; have lzfw31 := blk_frozen BK_z.out 1) | ((with_reducible refine gate_store (p := 4) rfl ?_); refine store_event (w1 := ?_) rfl (p := 4) rfl rfl ?hr ?_; rotate_left; (case hr => go_simp; rfl); intro w4 hw_; obtain ⟨hput, HEc⟩ := put2 hw_ BK_z.out; clear hw_; have XBn : Aside0 (Below w.heap.size w w4) := ⟨((Ext.of_below (M := fun j => w.heap.size ≤ j) XB.out).grow HEc (fun k e => .inl (by rw [e]; exact RZ.out))).below (fun _ h => h)⟩; clear XB; have XB := XBn; clear XBn BK_z; have BK_z := Aside0.mk hput; clear hput HEc))
  refine bodyPost_ret (results_ct rfl _ _ z 30 #[.slice none 0 0, .int .i64 0] (0, 0) _ rfl BK_z.out Try.underlying30 rfl (by kernel_rfl)) rfl ?_
  exact ⟨rfl, XB.out⟩
def Rng (X : Nat → List Int) : Prop := ∀ k, ∀ x ∈ X k, 0 ≤ x ∧ x ≤ 65535
theorem Rng.upd {X : Nat → List Int} (h : Rng X) {K : Nat} {l : List Int} (hl : ∀ x ∈ l, 0 ≤ x ∧ x ≤ 65535) : Rng (upd X K l) := fun k x hx => by
  unfold SlvA.upd at hx
  split at hx
  · exact hl x hx
  · exact h k x hx
theorem wrAt_rng {xs l : List Int} {a : Nat} (h : ∀ x ∈ xs, 0 ≤ x ∧ x ≤ 65535) (hl : ∀ x ∈ l, 0 ≤ x ∧ x ≤ 65535) : ∀ x ∈ wrAt xs a l, 0 ≤ x ∧ x ≤ 65535 := fun x hx => by
  unfold wrAt at hx
  rw [List.mem_append, List.mem_append] at hx
  rcases hx with (hx | hx) | hx
  · exact h x (List.mem_of_mem_take hx)
  · exact hl x hx
  · exact h x (List.mem_of_mem_drop hx)
theorem mskB_rng {x n o : Int} (hx : 0 ≤ x ∧ x ≤ 65535) (hn : 0 ≤ n ∧ n ≤ 65535) (ho : 0 ≤ o ∧ o ≤ 65535) : 0 ≤ mskB x n o ∧ mskB x n o ≤ 65535 := by
  obtain ⟨x, rfl⟩ := Int.eq_ofNat_of_zero_le hx.1
  obtain ⟨n, rfl⟩ := Int.eq_ofNat_of_zero_le hn.1
  obtain ⟨o, rfl⟩ := Int.eq_ofNat_of_zero_le ho.1
  unfold mskB
  rw [mask_bits (by omega) (by omega) (by omega)]
  have := mskN_lt (c := x) (a := n) (b := o) (by omega) (by omega) (by omega)
  omega
theorem doP_rng {X X' : Nat → List Int} {f a c t n o : Int} {v ys : List Int} {code : Int} (h : Rng X) (hck : Chk.chkB f a c v t n o = true) (hd : doP X f a c v t n o = (X', ys, code)) : Rng X' := by
  unfold doP at hd
  by_cases h22 : f = 22
  · subst h22
    obtain ⟨rfl, rfl, a1, a2, n1, n2, o1, o2⟩ := chk_m hck
    rw [if_pos rfl] at hd
    split at hd
    · rename_i hf
      simp only [Prod.mk.injEq] at hd
      rw [← hd.1]
      refine h.upd (fun x hx => ?_)
      rcases List.mem_or_eq_of_mem_set hx with hx | rfl
      · exact h 2 x hx
      · exact mskB_rng (h 2 _ (by rw [List.getD_eq_getElem?_getD, List.getElem?_eq_getElem (by omega), Option.getD_some]; exact List.getElem_mem _)) ⟨n1, n2⟩ ⟨o1, o2⟩
    · simp only [Prod.mk.injEq] at hd; rw [← hd.1]; exact h
  rw [if_neg h22] at hd
  by_cases h23 : f = 23
  · subst h23
    have hb := chk_b hck
    rw [if_pos rfl] at hd
    split at hd
    · simp only [Prod.mk.injEq] at hd; rw [← hd.1]; exact h.upd (wrAt_rng (h 2) hb.2.2.2.2.2.2.2.2)
    · simp only [Prod.mk.injEq] at hd; rw [← hd.1]; exact h
  rw [if_neg h23] at hd
  by_cases h5 : f = 5 ∨ f = 15
  · rw [if_pos h5] at hd
    have hw := chk_wr hck (by omega)
    unfold wrP at hd
    split at hd
    · simp only [Prod.mk.injEq] at hd; rw [← hd.1]; exact h.upd (wrAt_rng (h 0) hw.2.2.2.2.2)
    · simp only [Prod.mk.injEq] at hd; rw [← hd.1]; exact h
  rw [if_neg h5] at hd
  by_cases h6 : f = 6 ∨ f = 16
  · rw [if_pos h6] at hd
    have hw := chk_wr hck (by omega)
    unfold wrP at hd
    split at hd
    · simp only [Prod.mk.injEq] at hd; rw [← hd.1]; exact h.upd (wrAt_rng (h 2) hw.2.2.2.2.2)
    · simp only [Prod.mk.injEq] at hd; rw [← hd.1]; exact h
  rw [if_neg h6] at hd
  unfold rdP at hd
  split at hd <;> (simp only [Prod.mk.injEq] at hd; rw [← hd.1]; exact h)
theorem setR_rng {X X' : Nat → List Int} {kind addr v e : Int} (h : Rng X) (hs : setR X kind addr v = (X', e)) : Rng X' := by
  unfold setR at hs
  split at hs
  · rename_i hc
    simp only [Prod.mk.injEq] at hs; rw [← hs.1]
    refine h.upd (fun x hx => ?_)
    rcases List.mem_or_eq_of_mem_set hx with hx | rfl
    · exact h _ x hx
    · exact ⟨hc.2.1, hc.2.2.1⟩
  · simp only [Prod.mk.injEq] at hs; rw [← hs.1]; exact h
theorem zs_rng (a b : Nat) : Rng (fun k => zs (nz a b k)) := fun k x hx => by
  have := (List.mem_replicate.1 hx).2
  omega
end Go.Proofs.Ytocicifgglkaeaa.SlvK
end

section
namespace Go.Proofs.Ytocicifgglkaeaa.SlvC
open Go.RowKit Go.Maps
theorem wpList_insert_own {H : Type} {P : Program} (w : World) {ops : Array Oper} {rest : List Oper} {o : Oper} {a : Act} {Q : Exit → Act → World → Prop}
    (hg : o.guard = none) (m x v : Operand) (t : TypeId) (hop : o.op = Op.insert t m x v)
    (k e : TypeId) (K : Keyed P k) (ht : P.underlying t = some (.map k e)) (R : Value → Option (DataW H × List MemPlace)) (b n : Nat) (D : DataW H)
    (hm : a.eval m = .map (some b)) (hown : w.ownsMap P k R b n D) (hn : n < maxLen) (key val : Value) (kl : Lit) (hx : a.eval x = key) (hv : a.eval v = val) (hkey : keyOf P k key = some kl)
    (d : DataW H) (ps : List MemPlace) (hval : R val = some (d, ps))
    (hK : ∀ w', w'.ownsMap P k R b (n + 1) (D.put kl d) → w.grownBy w' (some b) → wpList P ops Q rest (a.put o.dst undef) w') :
    wpList P ops Q (o :: rest) a w := by
  refine wpList_plain hg fun K' hK' => ?_
  obtain ⟨w', hrun, r1, r2⟩ := hown.update K ht hn hkey hval
  unfold Oper.wp
  simp [execOp, hop, hm, hx, hv, hrun, Result.andThen]
  exact hK' _ _ (hK w' r1 r2)
end Go.Proofs.Ytocicifgglkaeaa.SlvC
end

section
namespace Go.Proofs.Ytocicifgglkaeaa.SlvD
open Go.RowKit Go.Proofs.YtocicifgglkaeaaW.PrintWords Go.Proofs.YtocicifgglkaeaaW.PrintLast Go.Proofs.YtocicifgglkaeaaW.PrintMore Go.Proofs.Ytocicifgglkaeaa.Core Go.Proofs.Ytocicifgglkaeaa.Wk Go.Proofs.Ytocicifgglkaeaa.Chk Go.Proofs.Ytocicifgglkaeaa.SlvA Go.Proofs.Ytocicifgglkaeaa.SlvB
set_option linter.unusedVariables false
set_option linter.unusedSimpArgs false
attribute [local go_sem] max2_int min2_int max_two min_two
open Go.Maps (Keyed)
theorem K3 : Keyed Try.prog 3 := Maps.int_keyed Try.underlying3
def D0 (a b : Int) : DataW Unit := .map [(.int .i64 0, .lit (.int .i64 a)), (.int .i64 1, .lit (.int .i64 a)), (.int .i64 2, .lit (.int .i64 b)), (.int .i64 3, .lit (.int .i64 b))]
theorem D0_mk (a b : Int) : (((((DataW.map [] : DataW Unit).put (.int .i64 0) (.lit (.int .i64 a))).put (.int .i64 1) (.lit (.int .i64 a))).put (.int .i64 2) (.lit (.int .i64 b))).put (.int .i64 3) (.lit (.int .i64 b))) = D0 a b := by
  simp [DataW.put, DataW.insert, Lit.before, Lit.sameKey, D0]
theorem D0_has {a b x : Int} (h : Maps.has (D0 a b) (.int .i64 x) = true) : x = 0 ∨ x = 1 ∨ x = 2 ∨ x = 3 := by
  simp [D0, Maps.has, Lit.sameKey] at h
  omega
theorem D0_at {a b x c : Int} (hx : x = 0 ∨ x = 1 ∨ x = 2 ∨ x = 3) (h : ∀ zd, (D0 a b).atKey (.int .i64 x) zd = .lit (.int .i64 c)) : c = if x < 2 then a else b := by
  have h1 := h (.lit (.int .i64 0))
  rcases hx with rfl | rfl | rfl | rfl <;> simp [D0, DataW.atKey, Lit.sameKey] at h1 <;> subst h1 <;> simp
theorem D0_has_k (a b : Int) {k : Nat} (hk : k < 4) : Maps.has (D0 a b) (.int .i64 (k : Int)) = true := by
  match k, hk with
  | 0, _ => simp [D0, Maps.has, Lit.sameKey]
  | 1, _ => simp [D0, Maps.has, Lit.sameKey]
  | 2, _ => simp [D0, Maps.has, Lit.sameKey]
  | 3, _ => simp [D0, Maps.has, Lit.sameKey]
section
variable {P : Program} {ops : Array Oper} {rest : List Oper} {o : Oper} {a : Act} {Q : Exit → Act → World → Prop} {W W' : World}
theorem mkmap_event (hgd : o.guard = none) {N : Tmp} (_hd : o.dst = some N) {t : TypeId} (ho : o.op = .makeMap t none) (h : ∀ m, m = W.heap.size → ∀ w1, w1.ownsMap P 3 (plainElem (H := Unit) P 3) m 0 (.map []) → Below W.heap.size W w1 → wpList P ops Q rest (a.put o.dst (.map (some m))) w1) : wpList P ops Q (o :: rest) a W := by
  refine Kd.event_run hgd ?_ (h _ rfl (W.alloc (.map #[] 0)) (World.ownsMap_made W P 3 _) (below_alloc (Below.refl _ _) _))
  unfold execOp
  simp [ho, run_makeMap, Result.andThen]
theorem ext_of {row : Option Nat} (h : W.grownBy W' row) : Ext (fun k => some k = row) W W' := ⟨h.os, h.tape, h.output, h.size, fun k hk hn => h.block k hk hn⟩
theorem grown_of {F : Nat → Prop} {row : Option Nat} (h : Ext F W W') (hF : ∀ k, F k → some k = row) : W.grownBy W' row := ⟨h.os, h.tape, h.output, h.size, fun k hk hn => h.block k hk (fun e => hn (hF k e))⟩
theorem grown_below (h : Below W.heap.size W W') (row : Option Nat) : W.grownBy W' row := ⟨h.os, h.tape, h.output, h.size, fun k hk _ => h.block k hk⟩
theorem gate_ins {t : TypeId} {m : Tmp} {x v : Operand} (_ho : o.op = .insert t (.tmp m) x v) (h : wpList P ops Q (o :: rest) a W) : wpList P ops Q (o :: rest) a W := h
theorem gate_mkm {t : TypeId} (_ho : o.op = .makeMap t none) (h : wpList P ops Q (o :: rest) a W) : wpList P ops Q (o :: rest) a W := h
end
theorem insert_ev {w : World} {ops : Array Oper} {rest : List Oper} {o : Oper} {a : Act} {Q : Exit → Act → World → Prop}
    (hg : o.guard = none) (hd : o.dst = none) (m v : Operand) (k x : Int) (hop : o.op = Op.insert 78 m (.const (.int .i64 k)) v) (b n : Nat) (D : DataW Unit)
    (hm : a.eval m = .map (some b)) (hown : w.ownsMap Try.prog 3 (plainElem (H := Unit) Try.prog 3) b n D) (hn : n < 100) (hv : a.eval v = .int .i64 x) (hk : (Lit.int .i64 k).wf = true) (hx : (Lit.int .i64 x).wf = true)
    (hK : ∀ w', w'.ownsMap Try.prog 3 (plainElem (H := Unit) Try.prog 3) b (n + 1) (D.put (.int .i64 k) (.lit (.int .i64 x))) → Ext (fun j => j = b) w w' → wpList Try.prog ops Q rest a w') :
    wpList Try.prog ops Q (o :: rest) a w := by
  refine SlvC.wpList_insert_own w hg m (.const (.int .i64 k)) v 78 hop 3 3 K3 Try.underlying78 _ b n D hm hown (by unfold maxLen; omega) (.int .i64 k) (.int .i64 x) (.int .i64 k) rfl hv (Maps.keyOf_int_mk Try.underlying3 hk) _ _ (plainElem_int Try.underlying3 hx) (fun w' h1 h2 => ?_)
  rw [hd]
  exact hK w' h1 ((ext_of h2).mono (fun k _ e => by injection e))
theorem wf64 {x : Int} (h0 : 0 ≤ x) (h1 : x ≤ 1000000) : (Lit.int .i64 x).wf = true := by
  simp only [Lit.wf, Bool.and_eq_true, decide_eq_true_eq]
  rw [show IntKind.i64.min = -9223372036854775808 from rfl, show IntKind.i64.max = 9223372036854775807 from rfl]
  omega
theorem ranges_notcells {P : Program} {k : TypeId} {R : Value → Option (DataW Unit × List MemPlace)} {w : World} {b r n : Nat} {D : DataW Unit} {left : Lit → Bool} {cnt : Nat} (h : w.ranges P k R b r n D left cnt) : (∀ c t q, w.heap[r]? ≠ some (.cells c t q)) ∧ ∀ c t q, w.heap[b]? ≠ some (.cells c t q) := by
  obtain ⟨es, clock, since, seen, c0, hb, F, hs, hD, hr, rest⟩ := h
  exact ⟨fun c t q e => by rw [hr] at e; simp at e, fun c t q e => by rw [hb] at e; simp at e⟩
theorem Mk_imp {T : TypeId} {B : Nat} {W : World} {g a b : Nat} {p q : Nat → Bool} {R : Nat → Nat} (h : Mk T B W g a b p R) (e : ∀ k, p k = q k) : Mk T B W g a b q R := by
  have : p = q := funext e
  subst this; exact h
set_option maxHeartbeats 4000000 in
set_option maxRecDepth 100000 in
theorem new_1 (a b : Int) (h : a < 0) (w : World) : Calls Try.prog 14 #[.int .i64 a, .int .i64 b] w fun e w' => e = .returned (.tuple #[.pointer none, .int .i64 1]) ∧ Below w.heap.size w w' := by
  have t1 : decide (a < 0) = true := decide_eq_true h
  clear h
  go_enter Try.func14, Try.ntmps14
  go_wp2_with (fail)
  have CA : Aside0 ((w.alloc (.cells #[.int .i64 a, .int .i64 b] 3)).cell? ⟨w.heap.size, 0, none⟩ = some (.int .i64 a)) := ⟨by go_simp⟩
  have CB : Aside0 ((w.alloc (.cells #[.int .i64 a, .int .i64 b] 3)).cell? ⟨w.heap.size, 1, none⟩ = some (.int .i64 b)) := ⟨by go_simp⟩
  have XB : Aside0 (Below w.heap.size w (w.alloc (.cells #[.int .i64 a, .int .i64 b] 3))) := ⟨by repeat (first | exact Below.refl _ _ | apply below_alloc)⟩
  generalize w.alloc (.cells #[.int .i64 a, .int .i64 b] 3) = w1 at *
  go_loopw [7, 15] (fun _ v wr => ∃ k : Nat, k ≤ 0 ∧ v = .int .i64 k ∧ Aside0 (wr = w1)) (fun _ v _ => 2 - (intOf v).toNat)
  case atStart => exact ⟨0, by omega, rfl, ⟨rfl⟩⟩
  case round =>
    obtain ⟨k, hk, rfl, HW⟩ := hrel
    have hw := HW.out; subst hw; clear HW
    match k, hk with
    | 0, _ =>
      have c0 := CA.out
      go_wp2_with (fail)
      go_ret2
      exact ⟨rfl, XB.out⟩
set_option maxHeartbeats 4000000 in
set_option maxRecDepth 100000 in
theorem new_2 (a b : Int) (h0 : 0 ≤ a) (h : 65536 < a) (w : World) : Calls Try.prog 14 #[.int .i64 a, .int .i64 b] w fun e w' => e = .returned (.tuple #[.pointer none, .int .i64 1]) ∧ Below w.heap.size w w' := by
  have t1 : decide (a < 0) = false := decide_eq_false (by omega)
  have t2 : decide (65536 < a) = true := decide_eq_true h
  clear h h0
  go_enter Try.func14, Try.ntmps14
  go_wp2_with (fail)
  have CA : Aside0 ((w.alloc (.cells #[.int .i64 a, .int .i64 b] 3)).cell? ⟨w.heap.size, 0, none⟩ = some (.int .i64 a)) := ⟨by go_simp⟩
  have CB : Aside0 ((w.alloc (.cells #[.int .i64 a, .int .i64 b] 3)).cell? ⟨w.heap.size, 1, none⟩ = some (.int .i64 b)) := ⟨by go_simp⟩
  have XB : Aside0 (Below w.heap.size w (w.alloc (.cells #[.int .i64 a, .int .i64 b] 3))) := ⟨by repeat (first | exact Below.refl _ _ | apply below_alloc)⟩
  generalize w.alloc (.cells #[.int .i64 a, .int .i64 b] 3) = w1 at *
  go_loopw [7, 15] (fun _ v wr => ∃ k : Nat, k ≤ 0 ∧ v = .int .i64 k ∧ Aside0 (wr = w1)) (fun _ v _ => 2 - (intOf v).toNat)
  case atStart => exact ⟨0, by omega, rfl, ⟨rfl⟩⟩
  case round =>
    obtain ⟨k, hk, rfl, HW⟩ := hrel
    have hw := HW.out; subst hw; clear HW
    match k, hk with
    | 0, _ =>
      have c0 := CA.out
      go_wp2_with (fail)
      go_ret2
      exact ⟨rfl, XB.out⟩
set_option maxHeartbeats 4000000 in
set_option maxRecDepth 100000 in
theorem new_3 (a b : Int) (h0 : 0 ≤ a) (h1 : a ≤ 65536) (h : b < 0) (w : World) : Calls Try.prog 14 #[.int .i64 a, .int .i64 b] w fun e w' => e = .returned (.tuple #[.pointer none, .int .i64 1]) ∧ Below w.heap.size w w' := by
  have t1 : decide (a < 0) = false := decide_eq_false (by omega)
  have t2 : decide (65536 < a) = false := decide_eq_false (by omega)
  have t3 : decide (b < 0) = true := decide_eq_true h
  clear h h0 h1
  go_enter Try.func14, Try.ntmps14
  go_wp2_with (fail)
  have CA : Aside0 ((w.alloc (.cells #[.int .i64 a, .int .i64 b] 3)).cell? ⟨w.heap.size, 0, none⟩ = some (.int .i64 a)) := ⟨by go_simp⟩
  have CB : Aside0 ((w.alloc (.cells #[.int .i64 a, .int .i64 b] 3)).cell? ⟨w.heap.size, 1, none⟩ = some (.int .i64 b)) := ⟨by go_simp⟩
  have XB : Aside0 (Below w.heap.size w (w.alloc (.cells #[.int .i64 a, .int .i64 b] 3))) := ⟨by repeat (first | exact Below.refl _ _ | apply below_alloc)⟩
  generalize w.alloc (.cells #[.int .i64 a, .int .i64 b] 3) = w1 at *
  go_loopw [7, 15] (fun _ v wr => ∃ k : Nat, k ≤ 1 ∧ v = .int .i64 k ∧ Aside0 (wr = w1)) (fun _ v _ => 2 - (intOf v).toNat)
  case atStart => exact ⟨0, by omega, rfl, ⟨rfl⟩⟩
  case round =>
    obtain ⟨k, hk, rfl, HW⟩ := hrel
    have hw := HW.out; subst hw; clear HW
    match k, hk with
    | 0, _ =>
      have c0 := CA.out
      go_wp2_with (fail)
      exact ⟨⟨1, by omega, rfl, ⟨trivial⟩⟩, by simp [intOf]⟩
    | 1, _ =>
      have c0 := CB.out
      go_wp2_with (fail)
      go_ret2
      exact ⟨rfl, XB.out⟩
set_option maxHeartbeats 4000000 in
set_option maxRecDepth 100000 in
theorem new_4 (a b : Int) (h0 : 0 ≤ a) (h1 : a ≤ 65536) (h2 : 0 ≤ b) (h : 65536 < b) (w : World) : Calls Try.prog 14 #[.int .i64 a, .int .i64 b] w fun e w' => e = .returned (.tuple #[.pointer none, .int .i64 1]) ∧ Below w.heap.size w w' := by
  have t1 : decide (a < 0) = false := decide_eq_false (by omega)
  have t2 : decide (65536 < a) = false := decide_eq_false (by omega)
  have t3 : decide (b < 0) = false := decide_eq_false (by omega)
  have t4 : decide (65536 < b) = true := decide_eq_true h
  clear h h0 h1 h2
  go_enter Try.func14, Try.ntmps14
  go_wp2_with (fail)
  have CA : Aside0 ((w.alloc (.cells #[.int .i64 a, .int .i64 b] 3)).cell? ⟨w.heap.size, 0, none⟩ = some (.int .i64 a)) := ⟨by go_simp⟩
  have CB : Aside0 ((w.alloc (.cells #[.int .i64 a, .int .i64 b] 3)).cell? ⟨w.heap.size, 1, none⟩ = some (.int .i64 b)) := ⟨by go_simp⟩
  have XB : Aside0 (Below w.heap.size w (w.alloc (.cells #[.int .i64 a, .int .i64 b] 3))) := ⟨by repeat (first | exact Below.refl _ _ | apply below_alloc)⟩
  generalize w.alloc (.cells #[.int .i64 a, .int .i64 b] 3) = w1 at *
  go_loopw [7, 15] (fun _ v wr => ∃ k : Nat, k ≤ 1 ∧ v = .int .i64 k ∧ Aside0 (wr = w1)) (fun _ v _ => 2 - (intOf v).toNat)
  case atStart => exact ⟨0, by omega, rfl, ⟨rfl⟩⟩
  case round =>
    obtain ⟨k, hk, rfl, HW⟩ := hrel
    have hw := HW.out; subst hw; clear HW
    match k, hk with
    | 0, _ =>
      have c0 := CA.out
      go_wp2_with (fail)
      exact ⟨⟨1, by omega, rfl, ⟨trivial⟩⟩, by simp [intOf]⟩
    | 1, _ =>
      have c0 := CB.out
      go_wp2_with (fail)
      go_ret2
      exact ⟨rfl, XB.out⟩
theorem new_no (a b : Int) (h : ¬ (0 ≤ a ∧ a ≤ 65536 ∧ 0 ≤ b ∧ b ≤ 65536)) (w : World) : Calls Try.prog 14 #[.int .i64 a, .int .i64 b] w fun e w' => e = .returned (.tuple #[.pointer none, .int .i64 1]) ∧ Below w.heap.size w w' := by
  by_cases h1 : a < 0
  · exact new_1 a b h1 w
  by_cases h2 : 65536 < a
  · exact new_2 a b (by omega) h2 w
  by_cases h3 : b < 0
  · exact new_3 a b (by omega) (by omega) h3 w
  exact new_4 a b (by omega) (by omega) (by omega) (by omega) w
set_option maxHeartbeats 4000000 in
set_option maxRecDepth 100000 in
theorem new_c (a b : Nat) (ha : a ≤ 65536) (hb : b ≤ 65536) (w : World) : Calls Try.prog 14 #[.int .i64 a, .int .i64 b] w fun e w' => ∃ g R, e = .returned (.tuple #[.pointer (some ⟨g, 0, none⟩), .int .i64 0]) ∧ IsSlv 77 w' g R (fun k => zs (nz a b k)) ∧ w.heap.size ≤ g ∧ (∀ k, k < 4 → w.heap.size ≤ R k) ∧ Below w.heap.size w w' := by
  have t1 : decide ((a : Int) < 0) = false := decide_eq_false (by omega)
  have t2 : decide (65536 < (a : Int)) = false := decide_eq_false (by omega)
  have t3 : decide ((b : Int) < 0) = false := decide_eq_false (by omega)
  have t4 : decide (65536 < (b : Int)) = false := decide_eq_false (by omega)
  have t2' : decide (65536 < a) = false := decide_eq_false (by omega)
  have t4' : decide (65536 < b) = false := decide_eq_false (by omega)
  have HA := Aside0.mk ha; have HBB := Aside0.mk hb; clear ha hb
  have WA : Aside0 ((Lit.int .i64 (a : Int)).wf = true) := ⟨wf64 (by omega) (by have := HA.out; omega)⟩; have WB : Aside0 ((Lit.int .i64 (b : Int)).wf = true) := ⟨wf64 (by omega) (by have := HBB.out; omega)⟩
  go_enter Try.func14, Try.ntmps14
  go_wp2_with (fail)
  have CA : Aside0 ((w.alloc (.cells #[.int .i64 (a : Int), .int .i64 (b : Int)] 3)).cell? ⟨w.heap.size, 0, none⟩ = some (.int .i64 a)) := ⟨by go_simp⟩
  have CB : Aside0 ((w.alloc (.cells #[.int .i64 (a : Int), .int .i64 (b : Int)] 3)).cell? ⟨w.heap.size, 1, none⟩ = some (.int .i64 b)) := ⟨by go_simp⟩
  have XB : Aside0 (Below w.heap.size w (w.alloc (.cells #[.int .i64 (a : Int), .int .i64 (b : Int)] 3))) := ⟨by repeat (first | exact Below.refl _ _ | apply below_alloc)⟩
  generalize w.alloc (.cells #[.int .i64 (a : Int), .int .i64 (b : Int)] 3) = w1 at *
  go_loopw [7, 15] (fun _ v wr => ∃ k : Nat, k ≤ 2 ∧ v = .int .i64 k ∧ Aside0 (wr = w1)) (fun _ v _ => 2 - (intOf v).toNat)
  case atStart => exact ⟨0, by omega, rfl, ⟨rfl⟩⟩
  case round =>
    obtain ⟨k, hk, rfl, HW⟩ := hrel
    have hw := HW.out; subst hw; clear HW
    match k, hk with
    | 0, _ =>
      have c0 := CA.out
      go_wp2_with (fail)
      exact ⟨⟨1, by omega, rfl, ⟨trivial⟩⟩, by simp [intOf]⟩
    | 1, _ =>
      have c0 := CB.out
      go_wp2_with (fail)
      exact ⟨⟨2, by omega, rfl, ⟨trivial⟩⟩, by simp [intOf]⟩
    | 2, _ =>
      clear CA CB
      go_wp2_with (first | ((with_reducible refine gate_dst (N := 27) rfl ?_); refine box_event ?hg (N := 27) ?hd (cs := #[.slice none 0 0, .slice none 0 0, .slice none 0 0, .slice none 0 0]) (t := 77) ?hr ?_; (case hd => rfl); (case hg => rfl); (case hr => first | (go_simp; done) | (go_simp; rfl)); intro g hg w2 hbox HBc; have RG : Aside0 (w.heap.size ≤ g) := ⟨by have := below_size XB.out; omega⟩; clear hg; have XBn : Aside0 (Below w.heap.size w w2) := ⟨below_step XB.out HBc⟩; clear XB; have XB := XBn; clear XBn; have BK : Aside0 (w2.heap[g]? = some (.cells #[.slice none 0 0, .slice none 0 0, .slice none 0 0, .slice none 0 0] 77 (0, 0))) := ⟨hbox⟩; clear hbox HBc) | ((with_reducible refine gate_mkm rfl ?_); refine mkmap_event rfl (N := 28) rfl rfl ?_; intro m hm w3 HOx HBc; have NE : Aside0 (g ≠ m) := ⟨by have := blk_lt BK.out; omega⟩; have RM : Aside0 (w.heap.size ≤ m) := ⟨by have := below_size XB.out; omega⟩; clear hm; have XBn : Aside0 (Below w.heap.size w w3) := ⟨below_step XB.out HBc⟩; clear XB; have XB := XBn; clear XBn; have BKn : Aside0 (w3.heap[g]? = some (.cells #[.slice none 0 0, .slice none 0 0, .slice none 0 0, .slice none 0 0] 77 (0, 0))) := ⟨blk_below BK.out HBc⟩; clear BK; have BK := BKn; clear BKn; have HO := Aside0.mk HOx; clear HOx HBc) | ((with_reducible refine gate_ins (m := 28) rfl ?_); refine insert_ev rfl rfl _ _ _ _ rfl m _ _ rfl HO.out (by decide) rfl (by decide) (by first | exact WA.out | exact WB.out) ?_; intro wi HOx HEc; have XBn : Aside0 (Below w.heap.size w wi) := ⟨((Ext.of_below (M := fun j => w.heap.size ≤ j) XB.out).grow HEc (fun k e => .inl (by rw [e]; exact RM.out))).below (fun _ h => h)⟩; clear XB; have XB := XBn; clear XBn; have BKn : Aside0 (wi.heap[g]? = some (.cells #[.slice none 0 0, .slice none 0 0, .slice none 0 0, .slice none 0 0] 77 (0, 0))) := ⟨Ext.blk HEc BK.out NE.out⟩; clear BK; have BK := BKn; clear BKn; clear HO; have HO := Aside0.mk HOx; clear HOx HEc) | (at_range; refine wpList_range_own _ rfl _ 78 rfl 3 3 K3 Try.underlying78 _ m _ _ rfl HO.out ?_; intro wq hrg0 hg0 hs0; rw [D0_mk] at hrg0; have NR : Aside0 (g ≠ _ ∧ m ≠ _ ∧ w.heap.size ≤ _) := ⟨⟨Nat.ne_of_lt (blk_lt BK.out), Nat.ne_of_lt HO.out.lt, below_size XB.out⟩⟩; have XBn : Aside0 (Below w.heap.size w wq) := ⟨below_step XB.out ((ext_of hg0).below (fun k e => by cases e))⟩; clear XB; have XB := XBn; clear XBn; have BKn : Aside0 (wq.heap[g]? = some (.cells #[.slice none 0 0, .slice none 0 0, .slice none 0 0, .slice none 0 0] 77 (0, 0))) := ⟨Ext.blk (ext_of hg0) BK.out (fun e => by cases e)⟩; clear BK; have BK := BKn; clear BKn HO hg0; have HRG := Aside0.mk hrg0; clear hrg0; generalize wi.heap.size = r at *))
      go_frame
      have HMK : Aside0 (Mk 77 w.heap.size wq g a b (fun k => !Maps.has (D0 a b) (.int .i64 k)) (fun _ => 0)) := ⟨⟨?_, fun k hk hp => ?_, fun i j hi _ hp => ?_⟩⟩
      rotate_left
      · rw [BK.out]; congr 2
      · rw [D0_has_k _ _ hk] at hp; cases hp
      · rw [D0_has_k _ _ hi] at hp; cases hp
      clear BK hs0
      go_loopw [9, 10] (fun _ _ wr => ∃ left cnt R, Aside0 (wr.ranges Try.prog 3 (plainElem (H := Unit) Try.prog 3) m r 4 (D0 a b) left cnt) ∧ Aside0 (∀ kl, left kl = true → Maps.has (D0 a b) kl = true) ∧ Aside0 (Mk 77 w.heap.size wr g a b (fun k => !left (.int .i64 k)) R) ∧ Aside0 (Below w.heap.size w wr)) (fun _ _ wr => wr.rangeLeft m r)
      case atStart => exact ⟨_, _, _, HRG, ⟨fun _ h => h⟩, HMK, XB⟩
      case round =>
        clear HMK XB HRG
        obtain ⟨left, cnt, R, HRG, HLF, HMK, XB⟩ := hrel
        go_wp2_with (first | (at_next; refine wpList_next_ranges_ii _ rfl _ rfl 3 3 .i64 .i64 K3 Try.underlying3 Try.underlying3 m r 4 _ _ _ rfl HRG.out ?_ ?_))
        · intro hc0 hl0
          go_wp2_with (fail)
          go_ret2
          exact ⟨g, R, rfl, HMK.out.done (fun j hj => by simp only [hl0]; rfl) HA.out HBB.out, RG.out, fun j hj => (HMK.out.row j hj (by simp only [hl0]; rfl)).2.2, XB.out⟩
        · intro x c w1 cnt1 hwx hwc hlx hat hrg1 hlt hg1 hs1 hen
          have hx4 := D0_has (HLF.out _ hlx)
          have hc := D0_at hx4 hat
          clear hat hwx hwc hs1
          obtain ⟨k, rfl⟩ := Int.eq_ofNat_of_zero_le (show 0 ≤ x by omega)
          obtain ⟨n, hn⟩ : ∃ n : Nat, nz a b k = n := ⟨_, rfl⟩
          have hcn : c = (n : Int) := by rw [hc, ← hn]; unfold nz; by_cases h2 : k < 2; rw [if_pos h2, if_pos (by omega)]; rw [if_neg h2, if_neg (by omega)]
          subst hcn; have HN := Aside0.mk hn; have hk4 : k < 4 := (by omega); have HLT := Aside0.mk hk4; have HN6 : Aside0 (n ≤ 65536) := ⟨by have := HA.out; have := HBB.out; rw [← hn]; unfold nz; split <;> omega⟩
          have HLX := Aside0.mk hlx; have HRG1 := Aside0.mk hrg1; have HLTC := Aside0.mk hlt; have HEN := hen
          have E1 := ext_of hg1
          have HMK1 : Aside0 (Mk 77 w.heap.size w1 g a b (fun k => !left (.int .i64 k)) R) := ⟨HMK.out.ext E1 (fun e => NR.out.1 (by injection e)) (fun j e _ => .inr (by rw [show j = r from Option.some.inj e]; exact (ranges_notcells HRG.out).1))⟩
          have XB1 : Aside0 (Below w.heap.size w w1) := ⟨((Ext.of_below (M := fun j => w.heap.size ≤ j) XB.out).grow E1 (fun k e => .inl (by rw [show k = r from Option.some.inj e]; exact NR.out.2.2))).below (fun _ h => h)⟩
          have ML : Aside0 (wr.rangeLeft m r = cnt) := ⟨HRG.out.left_eq⟩
          have HLN : Aside0 (left (.int .i64 (k : Int)) = true) := HLX
          clear hn hlx hrg1 hlt E1 hg1 HMK XB HRG hx4 hc hen
          have hK0 : (0 : Int) ≤ (k : Int) := (by omega); have hK1 : (k : Int) < 4 := (by omega); have hK2 : (k < 4) = True := eq_true hk4; clear hk4
          go_upto_region 11 with (fail)
          have HC0 : Aside0 (w1.drew.cell? ⟨g, k, none⟩ = some (.slice none 0 0) ∧ w1.drew.frozen? ⟨g, k, none⟩ = false) := ⟨by have hb_ := HMK1.out.blk; exact ⟨(cl_cell (W := w1) hb_ HLT.out).trans (by simp [HLN.out]), blk_frozen (w := w1) hb_ k⟩⟩
          refine start_ (n := 8) (S := fun W => (∃ x, W.cell? ⟨g, k, none⟩ = some x) ∧ W.frozen? ⟨g, k, none⟩ = false) (ds := []) #[false, false, false, false, false, false, false, false] (by kernel_rfl) rfl rfl ?_ (fun hHeld => ?_)
          · first | exact ⟨⟨_, HC1.out.1⟩, HC1.out.2⟩ | exact ⟨⟨_, HC0.out.1⟩, HC0.out.2⟩ | exact ⟨cell?_setCell_some HC1.out.1, by first | exact HC1.out.2 | (simp only [World.frozen?_setCell]; exact HC1.out.2) | (go_simp; done) | (go_simp; exact HC1.out.2)⟩
          refine pure_ (i := 0) (N := some 40) (v := ?_) (a' := ?_) #[true, false, false, false, false, false, false, false] rfl rfl (by kernel_rfl) (fun _ _ _ h => h) (Or.inl ⟨by rfl, ?_⟩) ?_ ?_
          rotate_left
          · intro w'
            go_simp
            with_reducible rfl
          rotate_left
          · simp only [Act.put, List.setIfInBounds_toArray, List.set_cons_zero, List.set_cons_succ, i64_w, i32_w]
            rfl
          refine pure_ (i := 1) (N := some 41) (v := ?_) (a' := ?_) #[true, true, false, false, false, false, false, false] rfl rfl (by kernel_rfl) (fun _ _ _ h => h) (Or.inl ⟨by rfl, ?_⟩) ?_ ?_
          rotate_left
          · intro w'
            go_simp
            with_reducible rfl
          rotate_left
          · simp only [Act.put, List.setIfInBounds_toArray, List.set_cons_zero, List.set_cons_succ, i64_w, i32_w]
            rfl
          refine pure_ (i := 2) (N := some 42) (v := ?_) (a' := ?_) #[true, true, true, false, false, false, false, false] rfl rfl (by kernel_rfl) (fun _ _ _ h => h) (Or.inl ⟨by rfl, ?_⟩) ?_ ?_
          rotate_left
          · intro w'
            go_simp
            with_reducible rfl
          rotate_left
          · simp only [Act.put, List.setIfInBounds_toArray, List.set_cons_zero, List.set_cons_succ, i64_w, i32_w]
            rfl
          refine pure_ (i := 4) (N := some 44) (v := ?_) (a' := ?_) #[true, true, true, false, true, false, false, false] rfl rfl (by kernel_rfl) (fun _ _ _ h => h) (Or.inl ⟨by rfl, ?_⟩) ?_ ?_
          rotate_left
          · intro w'
            go_simp
            with_reducible rfl
          rotate_left
          · simp only [Act.put, List.setIfInBounds_toArray, List.set_cons_zero, List.set_cons_succ, i64_w, i32_w]
            rfl
          refine pure_ (i := 5) (N := some 45) (v := ?_) (a' := ?_) #[true, true, true, false, true, true, false, false] rfl rfl (by kernel_rfl) (fun _ _ _ h => h) (Or.inl ⟨by rfl, ?_⟩) ?_ ?_
          rotate_left
          · intro w'
            go_simp
            with_reducible rfl
          rotate_left
          · simp only [Act.put, List.setIfInBounds_toArray, List.set_cons_zero, List.set_cons_succ, i64_w, i32_w]
            rfl
          refine one_ (i := 3) (N := some 43) #[true, true, true, true, true, true, false, false] rfl rfl (by kernel_rfl) (by decide) (fun K hK => ?_)
          obtain ⟨w2', hrun2, hrow2, HB2⟩ := run_mk (P := Try.prog) w1.drew (k := .i64) Try.underlying22 8 info3 (by decide) (by decide) (n : Int) (by omega) (by have := HN6.out; omega)
          rw [Int.toNat_natCast] at hrun2 hrow2
          refine value_ (v := .slice (some ⟨w1.drew.heap.size, 0, none⟩) n n) (w1 := w2') (by rfl) rfl ?hr ?_
          case hr => go_simp
          have HC1 : Aside0 (w2'.cell? ⟨g, k, none⟩ = some (.slice none 0 0) ∧ w2'.frozen? ⟨g, k, none⟩ = false) := ⟨(HB2.cell (p := ⟨g, k, none⟩) (blk_lt (w := w1) HMK1.out.blk)).trans HC0.out.1, (HB2.frozen (p := ⟨g, k, none⟩) (blk_lt (w := w1) HMK1.out.blk)).trans HC0.out.2⟩
          have hcc := HC1.out.1; have hff := HC1.out.2
          refine hK.out _ _ ?_ (fun hHeld => ?_)
          · first | exact ⟨⟨_, HC1.out.1⟩, HC1.out.2⟩ | exact ⟨⟨_, HC0.out.1⟩, HC0.out.2⟩ | exact ⟨cell?_setCell_some HC1.out.1, by first | exact HC1.out.2 | (simp only [World.frozen?_setCell]; exact HC1.out.2) | (go_simp; done) | (go_simp; exact HC1.out.2)⟩
          clear hK K
          refine norm_ (a' := ?_) ?_ ?_
          rotate_left
          · show Act.put _ (some 43) _ = _
            simp only [Act.put, List.setIfInBounds_toArray, List.set_cons_zero, List.set_cons_succ, i64_w, i32_w]
            rfl
          refine take_ (i := 6) (N := some 46) (v := ?_) (a' := ?_) #[true, true, true, true, true, true, true, false] rfl rfl (by kernel_rfl) (fun _ _ _ h => h) (Or.inl ⟨by rfl, ?_⟩) hHeld ?_ ?_
          rotate_left
          · rintro w' ⟨⟨x0, s0⟩, s1⟩
            go_simp
            with_reducible rfl
          rotate_left
          · simp only [Act.put, List.setIfInBounds_toArray, List.set_cons_zero, List.set_cons_succ, i64_w, i32_w]
            rfl
          refine one_ (i := 7) (N := none) #[true, true, true, true, true, true, true, true] rfl rfl (by kernel_rfl) (by decide) (fun K hK => ?_)
          refine skip_ (w1 := ?_) (by rfl) rfl ?_ ?_
          rotate_left
          · go_simp
            rfl
          refine hK.out _ _ ?_ (fun hHeld => ?_)
          · first | exact ⟨⟨_, HC1.out.1⟩, HC1.out.2⟩ | exact ⟨⟨_, HC0.out.1⟩, HC0.out.2⟩ | exact ⟨cell?_setCell_some HC1.out.1, by first | exact HC1.out.2 | (simp only [World.frozen?_setCell]; exact HC1.out.2) | (go_simp; done) | (go_simp; exact HC1.out.2)⟩
          clear hK K
          refine done_ (by kernel_rfl) ?_
          have HBw : Below w1.heap.size w1 w2' := below_step (below_drew1 (Below.refl _ _)) HB2
          have HST := Aside0.mk (Mk.step (W' := (w2'.setCell ⟨g, k, none⟩ (.slice (some ⟨w1.heap.size, 0, none⟩) n n))) HMK1.out HLT.out HBw (Nat.le_refl _) (below_size XB1.out) (by rw [HN.out]; exact hrow2) (by rw [HN.out]))
          have HXB : Aside0 (Below w.heap.size w (w2'.setCell ⟨g, k, none⟩ (.slice (some ⟨w1.heap.size, 0, none⟩) n n))) := ⟨below_set (below_step XB1.out HBw) RG.out⟩
          have HRG2 : Aside0 ((w2'.setCell ⟨g, k, none⟩ (.slice (some ⟨w1.heap.size, 0, none⟩) n n)).ranges Try.prog 3 (plainElem (H := Unit) Try.prog 3) m r 4 (D0 a b) _ cnt1) := ⟨(HRG1.out.kept (grown_below HBw none) (by simp) (by simp)).kept (row := some g) (grown_of ((Ext.refl _ _).setg _) (fun k e => by rw [e])) (fun e => NE.out (by injection e with e; exact e.symm)) (fun e => NR.out.1 (by injection e with e; exact e.symm))⟩
          clear HBw HB2 hrow2 HMK1 XB1 HC0 HC1 hcc hff HRG1 HEN
          go_wp2_with (fail)
          go_roundw
          case rel => exact ⟨_, cnt1, _, HRG2, ⟨fun kl h => HLF.out kl (by simp only [Bool.and_eq_true] at h; exact h.1)⟩, ⟨Mk_imp HST.out (fun j => by by_cases e : j = k; (subst e; simp [Lit.sameKey]); (have e2 : ¬ (j : Int) = (k : Int) := (by omega); simp [Lit.sameKey, e, e2]))⟩, HXB⟩
          case measure => rw [HRG2.out.left_eq, ML.out]; exact HLTC.out
end Go.Proofs.Ytocicifgglkaeaa.SlvD
end

section
namespace Go.Proofs.Ytocicifgglkaeaa.SlvL
open Go.RowKit Go.Proofs.YtocicifgglkaeaaW.PrintWords Go.Proofs.YtocicifgglkaeaaW.PrintLast Go.Proofs.YtocicifgglkaeaaW.PrintMore Go.Proofs.Ytocicifgglkaeaa.Core Go.Proofs.Ytocicifgglkaeaa.Wk Go.Proofs.Ytocicifgglkaeaa.Chk Go.Proofs.Ytocicifgglkaeaa.SlvA Go.Proofs.Ytocicifgglkaeaa.SlvB Go.Proofs.Ytocicifgglkaeaa.SlvE Go.Proofs.Ytocicifgglkaeaa.SlvW Go.Proofs.Ytocicifgglkaeaa.SlvF Go.Proofs.Ytocicifgglkaeaa.SlvG Go.Proofs.Ytocicifgglkaeaa.SlvH Go.Proofs.Ytocicifgglkaeaa.SlvM Go.Proofs.Ytocicifgglkaeaa.SlvI Go.Proofs.Ytocicifgglkaeaa.SlvJ Go.Proofs.Ytocicifgglkaeaa.SlvK Go.Proofs.Ytocicifgglkaeaa.SlvD
set_option linter.unusedVariables false
set_option linter.unusedSimpArgs false
attribute [local go_sem] max2_int min2_int max_two min_two
theorem bs_event {P : Program} {ops : Array Oper} {rest : List Oper} {o : Oper} {a : Act} {Q : Exit → Act → World → Prop} {W : World} (hgd : o.guard = none) {N : Tmp} (_hd : o.dst = some N) {cs : Array Value} {t n : Nat}
    (hrun : (execOp a.eval o).run P W = .ok (.value (.slice (some ⟨W.heap.size, 0, none⟩) n n)) (W.alloc (.cells cs t (0, 0))))
    (h : ∀ g, g = W.heap.size → ∀ w1, w1.heap[g]? = some (.cells cs t (0, 0)) → Below W.heap.size W w1 → wpList P ops Q rest (a.put o.dst (.slice (some ⟨g, 0, none⟩) n n)) w1) : wpList P ops Q (o :: rest) a W :=
  Kd.event_run hgd hrun (h _ rfl _ (blk_new W _) (below_alloc (Below.refl _ _) _))
def X0 : Nat → List Int := fun k => zs (nz 2 3 k)
def X1 : Nat → List Int := upd X0 2 (wrAt (X0 2) 1 [1, 2])
def X2 : Nat → List Int := upd X1 2 ((X1 2).set 1 (mskB ((X1 2).getD 1 0) 0 7))
theorem aw1 : doP X0 16 1 2 [1, 2] 0 0 0 = (X1, [], 0) := by rw [doP, if_neg (by decide), if_neg (by decide), if_neg (by decide), if_pos (by decide)]; rfl
theorem aw2 : doP X1 3 0 3 [] 0 0 0 = (X1, [0, 1, 2], 0) := by rw [doP, if_neg (by decide), if_neg (by decide), if_neg (by decide), if_neg (by decide)]; rfl
theorem aw3 : doP X1 3 2 2 [] 0 0 0 = (X1, [], 2) := by rw [doP, if_neg (by decide), if_neg (by decide), if_neg (by decide), if_neg (by decide)]; rfl
theorem aw4 : doP X1 22 1 0 [] 0 0 7 = (X2, [], 0) := by rw [doP, if_pos (by decide)]; rfl
theorem aw5 : getR X2 3 1 = (7, 0) := by decide +kernel
theorem ck1 : Chk.chkB 16 1 2 [1, 2] 0 0 0 = true := by decide +kernel
theorem ck2 : Chk.chkB 3 0 3 [] 0 0 0 = true := by decide +kernel
theorem ck3 : Chk.chkB 3 2 2 [] 0 0 0 = true := by decide +kernel
theorem ck4 : Chk.chkB 22 1 0 [] 0 0 7 = true := by decide +kernel
set_option maxHeartbeats 4000000 in
set_option maxRecDepth 100000 in
theorem awake_c (w : World) : Calls Try.prog 16 #[] w fun e w' => e = .returned (.bool true) ∧ Below w.heap.size w w' := by
  have XB : Aside0 (Below w.heap.size w w) := ⟨Below.refl _ _⟩
  have tA := Aside0.mk trivial
  go_enter Try.func16, Try.ntmps16
  go_wp2_with (first | (go_at_call 14; refine (new_c 2 3 (by decide) (by decide) _).mono ?_; rintro e w1 ⟨g, R, rfl, hslv, hge, hgr, HBc⟩; have GE_ : Aside0 (∀ k, Fp g R k → w.heap.size ≤ k) := ⟨fun k h => by rcases h with h | ⟨i, hi, h⟩; rw [h]; exact hge; rw [h]; exact hgr i hi⟩; have FG_s : Aside0 (∀ k, Fp g R k → w.heap.size ≤ k) := ⟨fun k h => Nat.le_trans (below_size XB.out) (GE_.out k h)⟩; clear GE_; have XBn : Aside0 (Below w.heap.size w w1) := ⟨below_step XB.out HBc⟩; clear XB; have XB := XBn; clear XBn; have OB_s : Aside0 (IsSlv 77 w1 g R (X0)) := ⟨hslv⟩; clear hslv hge hgr HBc) | ((with_reducible refine gate_dst (N := 25) rfl ?_); refine bs_event ?hg (N := 25) ?hd (cs := #[.int .i64 1, .int .i64 2]) (t := 3) (n := 2) ?hr ?_; (case hd => rfl); (case hg => rfl); (case hr => first | (go_simp; done) | (go_simp; rfl)); intro v1 hg w2 hbox HBc; have RG_v1 : Aside0 (w.heap.size ≤ v1) := ⟨Nat.le_trans (below_size XB.out) (Nat.le_of_eq hg.symm)⟩; have NS_s_v1 : Aside0 (∀ k, Fp g R k → k ≠ v1) := ⟨fun k hk e => by have := OB_s.out.lt k hk; omega⟩; clear hg; have OB_sn : Aside0 (IsSlv 77 w2 g R (X0)) := ⟨OB_s.out.below HBc⟩; have XBn : Aside0 (Below w.heap.size w w2) := ⟨below_step XB.out HBc⟩; clear OB_s XB; have OB_s := OB_sn; have XB := XBn; clear OB_sn XBn; have HRow : w2.heap[v1]? = some (.cells (([1, 2] : List Int).map (Value.int .i64)).toArray 3 (0, 0)) := hbox; have HV_v1 : Aside0 (Ever (fun k => k ≠ v1) w2 (fun W => Kd.C (Kd.int .i64) W (some ⟨v1, 0, none⟩) (([1, 2] : List Int)).length (([1, 2] : List Int)))) := ⟨Ever.ofRow (n := 0) HRow (by simp) (fun h1 => h1 rfl)⟩; have HS_v1 : Aside0 (v1 < w2.heap.size) := ⟨blk_lt hbox⟩; have SB_v1_s : Aside0 (∀ k, Fp g R k → (fun k => k ≠ v1) k) := ⟨fun k h => NS_s_v1.out k h⟩; clear HRow hbox HBc) | (go_at_call 15; have _t := tA; refine (do_c OB_s.out rfl (HV_v1.out.grow (Ext.refl _ _) (fun k h => .inl (SB_v1_s.out k h))) ck1 aw1).mono ?_; rintro e w3 ⟨Aa, ca, rfl, hca, hsl, HEc, hans⟩; have SB_a_s : Aside0 (∀ k, Fp g R k → (fun k => k < w2.heap.size ∨ w3.heap.size ≤ k) k) := ⟨fun k h => .inl (OB_s.out.lt k h)⟩; have OB_sn : Aside0 (IsSlv 77 w3 g R (X1)) := ⟨hsl⟩; have HV_v1n : Aside0 (Ever (fun k => k ≠ v1) w3 (fun W => Kd.C (Kd.int .i64) W (some ⟨v1, 0, none⟩) (([1, 2] : List Int)).length (([1, 2] : List Int)))) := ⟨HV_v1.out.step (HEc.sub SB_v1_s.out)⟩; have HS_v1n : Aside0 (v1 < w3.heap.size) := ⟨Nat.lt_of_lt_of_le HS_v1.out HEc.size⟩; have XBn : Aside0 (Below w.heap.size w w3) := ⟨((Ext.of_below (M := fun j => w.heap.size ≤ j) XB.out).grow HEc (fun k e => .inl (FG_s.out k e))).below (fun _ h => h)⟩; clear OB_s HV_v1 HS_v1 XB; have OB_s := OB_sn; have HV_v1 := HV_v1n; have HS_v1 := HS_v1n; have XB := XBn; clear OB_sn HV_v1n HS_v1n XBn; have HV_a : Aside0 (Ever (fun k => k < w2.heap.size ∨ w3.heap.size ≤ k) w3 (fun W => Kd.C (Kd.int .i64) W (Aa) (([] : List Int)).length (([] : List Int)))) := ⟨(hans (fun k => k < w2.heap.size) (fun k h => h)).grow (Ext.refl _ _) (fun k h => h)⟩; have HS_a : Aside0 (w3.heap.size ≤ w3.heap.size) := ⟨Nat.le_refl _⟩; clear hsl HEc hans hca; clear tA _t; have tB := Aside0.mk trivial) | ((with_reducible refine gate_dst (N := 3) rfl ?_); refine box_event ?hg (N := 3) ?hd (cs := #[.slice none 0 0, .int .i64 0]) (t := 30) ?hr ?_; (case hd => rfl); (case hg => rfl); (case hr => first | (go_simp; done) | (go_simp; rfl)); intro ba hg w4 hbox HBc; have RG_ba : Aside0 (w.heap.size ≤ ba) := ⟨Nat.le_trans (below_size XB.out) (Nat.le_of_eq hg.symm)⟩; have NS_s_ba : Aside0 (∀ k, Fp g R k → k ≠ ba) := ⟨fun k hk e => by have := OB_s.out.lt k hk; omega⟩; have SB_v1_ba : Aside0 (∀ k, k = ba → (fun k => k ≠ v1) k) := ⟨fun k e => fun h => by have := HS_v1.out; omega⟩; have SB_a_ba : Aside0 (∀ k, k = ba → (fun k => k < w2.heap.size ∨ w3.heap.size ≤ k) k) := ⟨fun k e => .inr (by have := HS_a.out; omega)⟩; clear hg; have OB_sn : Aside0 (IsSlv 77 w4 g R (X1)) := ⟨OB_s.out.below HBc⟩; have HV_v1n : Aside0 (Ever (fun k => k ≠ v1) w4 (fun W => Kd.C (Kd.int .i64) W (some ⟨v1, 0, none⟩) (([1, 2] : List Int)).length (([1, 2] : List Int)))) := ⟨HV_v1.out.step (.of_below HBc)⟩; have HV_an : Aside0 (Ever (fun k => k < w2.heap.size ∨ w3.heap.size ≤ k) w4 (fun W => Kd.C (Kd.int .i64) W (Aa) (([] : List Int)).length (([] : List Int)))) := ⟨HV_a.out.step (.of_below HBc)⟩; have HS_v1n : Aside0 (v1 < w4.heap.size) := ⟨Nat.lt_of_lt_of_le HS_v1.out HBc.size⟩; have HS_an : Aside0 (w3.heap.size ≤ w4.heap.size) := ⟨Nat.le_trans HS_a.out HBc.size⟩; have XBn : Aside0 (Below w.heap.size w w4) := ⟨below_step XB.out HBc⟩; clear OB_s HV_v1 HV_a HS_v1 HS_a XB; have OB_s := OB_sn; have HV_v1 := HV_v1n; have HV_a := HV_an; have HS_v1 := HS_v1n; have HS_a := HS_an; have XB := XBn; clear OB_sn HV_v1n HV_an HS_v1n HS_an XBn; have BK_ba : Aside0 (w4.heap[ba]? = some (.cells #[.slice none 0 0, .int .i64 0] 30 (0, 0))) := ⟨hbox⟩; clear hbox HBc; have lc1_0 : w4.cell? ⟨ba, 0, none⟩ = some (.slice none 0 0) := (blk_cell BK_ba.out 0).trans rfl; have lf1_0 := blk_frozen BK_ba.out 0; have lc1_1 : w4.cell? ⟨ba, 1, none⟩ = some (.int .i64 0) := (blk_cell BK_ba.out 1).trans rfl; have lf1_1 := blk_frozen BK_ba.out 1) | ((with_reducible refine gate_store (p := 3) rfl ?_); refine store_event (w1 := ?_) rfl (p := 3) rfl rfl ?hr ?_; rotate_left; (case hr => go_simp; rfl); intro w5 hw_; obtain ⟨hput, HEc⟩ := put2 hw_ BK_ba.out; clear hw_; clear lc1_0 lf1_0 lc1_1 lf1_1; have OB_sn : Aside0 (IsSlv 77 w5 g R (X1)) := ⟨OB_s.out.ext HEc (fun k h1 h2 => NS_s_ba.out k h1 h2)⟩; have HV_v1n : Aside0 (Ever (fun k => k ≠ v1) w5 (fun W => Kd.C (Kd.int .i64) W (some ⟨v1, 0, none⟩) (([1, 2] : List Int)).length (([1, 2] : List Int)))) := ⟨HV_v1.out.step (HEc.sub SB_v1_ba.out)⟩; have HV_an : Aside0 (Ever (fun k => k < w2.heap.size ∨ w3.heap.size ≤ k) w5 (fun W => Kd.C (Kd.int .i64) W (Aa) (([] : List Int)).length (([] : List Int)))) := ⟨HV_a.out.step (HEc.sub SB_a_ba.out)⟩; have HS_v1n : Aside0 (v1 < w5.heap.size) := ⟨Nat.lt_of_lt_of_le HS_v1.out HEc.size⟩; have HS_an : Aside0 (w3.heap.size ≤ w5.heap.size) := ⟨Nat.le_trans HS_a.out HEc.size⟩; have XBn : Aside0 (Below w.heap.size w w5) := ⟨((Ext.of_below (M := fun j => w.heap.size ≤ j) XB.out).grow HEc (fun k e => .inl (by rw [show k = ba from e]; exact RG_ba.out))).below (fun _ h => h)⟩; clear OB_s HV_v1 HV_a HS_v1 HS_a XB; have OB_s := OB_sn; have HV_v1 := HV_v1n; have HV_a := HV_an; have HS_v1 := HS_v1n; have HS_a := HS_an; have XB := XBn; clear OB_sn HV_v1n HV_an HS_v1n HS_an XBn; clear BK_ba; have BK_ba : Aside0 (w5.heap[ba]? = some (.cells #[.slice Aa ([] : List Int).length ca, .int .i64 0] 30 (0, 0))) := ⟨hput⟩; clear hput HEc) | (go_at_call 15; have _t := tB; refine (do_c OB_s.out rfl (Ever.nil _) ck2 aw2).mono ?_; rintro e w6 ⟨Ab, cb, rfl, hcb, hsl, HEc, hans⟩; have SB_b_s : Aside0 (∀ k, Fp g R k → (fun k => k < w5.heap.size ∨ w6.heap.size ≤ k) k) := ⟨fun k h => .inl (OB_s.out.lt k h)⟩; have SB_b_ba : Aside0 (∀ k, k = ba → (fun k => k < w5.heap.size ∨ w6.heap.size ≤ k) k) := ⟨fun k e => .inl (by rw [e]; exact blk_lt BK_ba.out)⟩; have BK_ban : Aside0 (w6.heap[ba]? = some (.cells #[.slice Aa ([] : List Int).length ca, .int .i64 0] 30 (0, 0))) := ⟨Ext.blk HEc BK_ba.out (fun e => NS_s_ba.out _ e rfl)⟩; have OB_sn : Aside0 (IsSlv 77 w6 g R (X1)) := ⟨hsl⟩; have HV_v1n : Aside0 (Ever (fun k => k ≠ v1) w6 (fun W => Kd.C (Kd.int .i64) W (some ⟨v1, 0, none⟩) (([1, 2] : List Int)).length (([1, 2] : List Int)))) := ⟨HV_v1.out.step (HEc.sub SB_v1_s.out)⟩; have HV_an : Aside0 (Ever (fun k => k < w2.heap.size ∨ w3.heap.size ≤ k) w6 (fun W => Kd.C (Kd.int .i64) W (Aa) (([] : List Int)).length (([] : List Int)))) := ⟨HV_a.out.step (HEc.sub SB_a_s.out)⟩; have HS_v1n : Aside0 (v1 < w6.heap.size) := ⟨Nat.lt_of_lt_of_le HS_v1.out HEc.size⟩; have HS_an : Aside0 (w3.heap.size ≤ w6.heap.size) := ⟨Nat.le_trans HS_a.out HEc.size⟩; have XBn : Aside0 (Below w.heap.size w w6) := ⟨((Ext.of_below (M := fun j => w.heap.size ≤ j) XB.out).grow HEc (fun k e => .inl (FG_s.out k e))).below (fun _ h => h)⟩; clear BK_ba OB_s HV_v1 HV_a HS_v1 HS_a XB; have BK_ba := BK_ban; have OB_s := OB_sn; have HV_v1 := HV_v1n; have HV_a := HV_an; have HS_v1 := HS_v1n; have HS_a := HS_an; have XB := XBn; clear BK_ban OB_sn HV_v1n HV_an HS_v1n HS_an XBn; have HV_b : Aside0 (Ever (fun k => k < w5.heap.size ∨ w6.heap.size ≤ k) w6 (fun W => Kd.C (Kd.int .i64) W (Ab) (([0, 1, 2] : List Int)).length (([0, 1, 2] : List Int)))) := ⟨(hans (fun k => k < w5.heap.size) (fun k h => h)).grow (Ext.refl _ _) (fun k h => h)⟩; have HS_b : Aside0 (w6.heap.size ≤ w6.heap.size) := ⟨Nat.le_refl _⟩; clear hsl HEc hans hcb; clear tB _t; have tC := Aside0.mk trivial) | ((with_reducible refine gate_dst (N := 5) rfl ?_); refine box_event ?hg (N := 5) ?hd (cs := #[.slice none 0 0, .int .i64 0]) (t := 30) ?hr ?_; (case hd => rfl); (case hg => rfl); (case hr => first | (go_simp; done) | (go_simp; rfl)); intro bb hg w7 hbox HBc; have RG_bb : Aside0 (w.heap.size ≤ bb) := ⟨Nat.le_trans (below_size XB.out) (Nat.le_of_eq hg.symm)⟩; have NE_ba_bb : Aside0 (ba ≠ bb) := ⟨ne_born (blk_lt BK_ba.out) hg⟩; have NE_bb_ba : Aside0 (bb ≠ ba) := ⟨fun e => NE_ba_bb.out e.symm⟩; have NS_s_bb : Aside0 (∀ k, Fp g R k → k ≠ bb) := ⟨fun k hk e => by have := OB_s.out.lt k hk; omega⟩; have SB_v1_bb : Aside0 (∀ k, k = bb → (fun k => k ≠ v1) k) := ⟨fun k e => fun h => by have := HS_v1.out; omega⟩; have SB_a_bb : Aside0 (∀ k, k = bb → (fun k => k < w2.heap.size ∨ w3.heap.size ≤ k) k) := ⟨fun k e => .inr (by have := HS_a.out; omega)⟩; have SB_b_bb : Aside0 (∀ k, k = bb → (fun k => k < w5.heap.size ∨ w6.heap.size ≤ k) k) := ⟨fun k e => .inr (by have := HS_b.out; omega)⟩; clear hg; have BK_ban : Aside0 (w7.heap[ba]? = some (.cells #[.slice Aa ([] : List Int).length ca, .int .i64 0] 30 (0, 0))) := ⟨blk_below BK_ba.out HBc⟩; have OB_sn : Aside0 (IsSlv 77 w7 g R (X1)) := ⟨OB_s.out.below HBc⟩; have HV_v1n : Aside0 (Ever (fun k => k ≠ v1) w7 (fun W => Kd.C (Kd.int .i64) W (some ⟨v1, 0, none⟩) (([1, 2] : List Int)).length (([1, 2] : List Int)))) := ⟨HV_v1.out.step (.of_below HBc)⟩; have HV_an : Aside0 (Ever (fun k => k < w2.heap.size ∨ w3.heap.size ≤ k) w7 (fun W => Kd.C (Kd.int .i64) W (Aa) (([] : List Int)).length (([] : List Int)))) := ⟨HV_a.out.step (.of_below HBc)⟩; have HV_bn : Aside0 (Ever (fun k => k < w5.heap.size ∨ w6.heap.size ≤ k) w7 (fun W => Kd.C (Kd.int .i64) W (Ab) (([0, 1, 2] : List Int)).length (([0, 1, 2] : List Int)))) := ⟨HV_b.out.step (.of_below HBc)⟩; have HS_v1n : Aside0 (v1 < w7.heap.size) := ⟨Nat.lt_of_lt_of_le HS_v1.out HBc.size⟩; have HS_an : Aside0 (w3.heap.size ≤ w7.heap.size) := ⟨Nat.le_trans HS_a.out HBc.size⟩; have HS_bn : Aside0 (w6.heap.size ≤ w7.heap.size) := ⟨Nat.le_trans HS_b.out HBc.size⟩; have XBn : Aside0 (Below w.heap.size w w7) := ⟨below_step XB.out HBc⟩; clear BK_ba OB_s HV_v1 HV_a HV_b HS_v1 HS_a HS_b XB; have BK_ba := BK_ban; have OB_s := OB_sn; have HV_v1 := HV_v1n; have HV_a := HV_an; have HV_b := HV_bn; have HS_v1 := HS_v1n; have HS_a := HS_an; have HS_b := HS_bn; have XB := XBn; clear BK_ban OB_sn HV_v1n HV_an HV_bn HS_v1n HS_an HS_bn XBn; have BK_bb : Aside0 (w7.heap[bb]? = some (.cells #[.slice none 0 0, .int .i64 0] 30 (0, 0))) := ⟨hbox⟩; clear hbox HBc; have lc2_0 : w7.cell? ⟨bb, 0, none⟩ = some (.slice none 0 0) := (blk_cell BK_bb.out 0).trans rfl; have lf2_0 := blk_frozen BK_bb.out 0; have lc2_1 : w7.cell? ⟨bb, 1, none⟩ = some (.int .i64 0) := (blk_cell BK_bb.out 1).trans rfl; have lf2_1 := blk_frozen BK_bb.out 1) | ((with_reducible refine gate_store (p := 5) rfl ?_); refine store_event (w1 := ?_) rfl (p := 5) rfl rfl ?hr ?_; rotate_left; (case hr => go_simp; rfl); intro w8 hw_; obtain ⟨hput, HEc⟩ := put2 hw_ BK_bb.out; clear hw_; clear lc2_0 lf2_0 lc2_1 lf2_1; have BK_ban : Aside0 (w8.heap[ba]? = some (.cells #[.slice Aa ([] : List Int).length ca, .int .i64 0] 30 (0, 0))) := ⟨Ext.blk HEc BK_ba.out NE_ba_bb.out⟩; have OB_sn : Aside0 (IsSlv 77 w8 g R (X1)) := ⟨OB_s.out.ext HEc (fun k h1 h2 => NS_s_bb.out k h1 h2)⟩; have HV_v1n : Aside0 (Ever (fun k => k ≠ v1) w8 (fun W => Kd.C (Kd.int .i64) W (some ⟨v1, 0, none⟩) (([1, 2] : List Int)).length (([1, 2] : List Int)))) := ⟨HV_v1.out.step (HEc.sub SB_v1_bb.out)⟩; have HV_an : Aside0 (Ever (fun k => k < w2.heap.size ∨ w3.heap.size ≤ k) w8 (fun W => Kd.C (Kd.int .i64) W (Aa) (([] : List Int)).length (([] : List Int)))) := ⟨HV_a.out.step (HEc.sub SB_a_bb.out)⟩; have HV_bn : Aside0 (Ever (fun k => k < w5.heap.size ∨ w6.heap.size ≤ k) w8 (fun W => Kd.C (Kd.int .i64) W (Ab) (([0, 1, 2] : List Int)).length (([0, 1, 2] : List Int)))) := ⟨HV_b.out.step (HEc.sub SB_b_bb.out)⟩; have HS_v1n : Aside0 (v1 < w8.heap.size) := ⟨Nat.lt_of_lt_of_le HS_v1.out HEc.size⟩; have HS_an : Aside0 (w3.heap.size ≤ w8.heap.size) := ⟨Nat.le_trans HS_a.out HEc.size⟩; have HS_bn : Aside0 (w6.heap.size ≤ w8.heap.size) := ⟨Nat.le_trans HS_b.out HEc.size⟩; have XBn : Aside0 (Below w.heap.size w w8) := ⟨((Ext.of_below (M := fun j => w.heap.size ≤ j) XB.out).grow HEc (fun k e => .inl (by rw [show k = bb from e]; exact RG_bb.out))).below (fun _ h => h)⟩; clear BK_ba OB_s HV_v1 HV_a HV_b HS_v1 HS_a HS_b XB; have BK_ba := BK_ban; have OB_s := OB_sn; have HV_v1 := HV_v1n; have HV_a := HV_an; have HV_b := HV_bn; have HS_v1 := HS_v1n; have HS_a := HS_an; have HS_b := HS_bn; have XB := XBn; clear BK_ban OB_sn HV_v1n HV_an HV_bn HS_v1n HS_an HS_bn XBn; clear BK_bb; have BK_bb : Aside0 (w8.heap[bb]? = some (.cells #[.slice Ab ([0, 1, 2] : List Int).length cb, .int .i64 0] 30 (0, 0))) := ⟨hput⟩; clear hput HEc) | (go_at_call 15; have _t := tC; refine (do_c OB_s.out rfl (Ever.nil _) ck3 aw3).mono ?_; rintro e w9 ⟨Ac, cc, rfl, hcc, hsl, HEc, hans⟩; have SB_c_s : Aside0 (∀ k, Fp g R k → (fun k => k < w8.heap.size ∨ w9.heap.size ≤ k) k) := ⟨fun k h => .inl (OB_s.out.lt k h)⟩; have SB_c_ba : Aside0 (∀ k, k = ba → (fun k => k < w8.heap.size ∨ w9.heap.size ≤ k) k) := ⟨fun k e => .inl (by rw [e]; exact blk_lt BK_ba.out)⟩; have SB_c_bb : Aside0 (∀ k, k = bb → (fun k => k < w8.heap.size ∨ w9.heap.size ≤ k) k) := ⟨fun k e => .inl (by rw [e]; exact blk_lt BK_bb.out)⟩; have BK_ban : Aside0 (w9.heap[ba]? = some (.cells #[.slice Aa ([] : List Int).length ca, .int .i64 0] 30 (0, 0))) := ⟨Ext.blk HEc BK_ba.out (fun e => NS_s_ba.out _ e rfl)⟩; have BK_bbn : Aside0 (w9.heap[bb]? = some (.cells #[.slice Ab ([0, 1, 2] : List Int).length cb, .int .i64 0] 30 (0, 0))) := ⟨Ext.blk HEc BK_bb.out (fun e => NS_s_bb.out _ e rfl)⟩; have OB_sn : Aside0 (IsSlv 77 w9 g R (X1)) := ⟨hsl⟩; have HV_v1n : Aside0 (Ever (fun k => k ≠ v1) w9 (fun W => Kd.C (Kd.int .i64) W (some ⟨v1, 0, none⟩) (([1, 2] : List Int)).length (([1, 2] : List Int)))) := ⟨HV_v1.out.step (HEc.sub SB_v1_s.out)⟩; have HV_an : Aside0 (Ever (fun k => k < w2.heap.size ∨ w3.heap.size ≤ k) w9 (fun W => Kd.C (Kd.int .i64) W (Aa) (([] : List Int)).length (([] : List Int)))) := ⟨HV_a.out.step (HEc.sub SB_a_s.out)⟩; have HV_bn : Aside0 (Ever (fun k => k < w5.heap.size ∨ w6.heap.size ≤ k) w9 (fun W => Kd.C (Kd.int .i64) W (Ab) (([0, 1, 2] : List Int)).length (([0, 1, 2] : List Int)))) := ⟨HV_b.out.step (HEc.sub SB_b_s.out)⟩; have HS_v1n : Aside0 (v1 < w9.heap.size) := ⟨Nat.lt_of_lt_of_le HS_v1.out HEc.size⟩; have HS_an : Aside0 (w3.heap.size ≤ w9.heap.size) := ⟨Nat.le_trans HS_a.out HEc.size⟩; have HS_bn : Aside0 (w6.heap.size ≤ w9.heap.size) := ⟨Nat.le_trans HS_b.out HEc.size⟩; have XBn : Aside0 (Below w.heap.size w w9) := ⟨((Ext.of_below (M := fun j => w.heap.size ≤ j) XB.out).grow HEc (fun k e => .inl (FG_s.out k e))).below (fun _ h => h)⟩; clear BK_ba BK_bb OB_s HV_v1 HV_a HV_b HS_v1 HS_a HS_b XB; have BK_ba := BK_ban; have BK_bb := BK_bbn; have OB_s := OB_sn; have HV_v1 := HV_v1n; have HV_a := HV_an; have HV_b := HV_bn; have HS_v1 := HS_v1n; have HS_a := HS_an; have HS_b := HS_bn; have XB := XBn; clear BK_ban BK_bbn OB_sn HV_v1n HV_an HV_bn HS_v1n HS_an HS_bn XBn; have HV_c : Aside0 (Ever (fun k => k < w8.heap.size ∨ w9.heap.size ≤ k) w9 (fun W => Kd.C (Kd.int .i64) W (Ac) (([] : List Int)).length (([] : List Int)))) := ⟨(hans (fun k => k < w8.heap.size) (fun k h => h)).grow (Ext.refl _ _) (fun k h => h)⟩; have HS_c : Aside0 (w9.heap.size ≤ w9.heap.size) := ⟨Nat.le_refl _⟩; clear hsl HEc hans hcc; clear tC _t; have tD := Aside0.mk trivial) | ((with_reducible refine gate_dst (N := 7) rfl ?_); refine box_event ?hg (N := 7) ?hd (cs := #[.slice none 0 0, .int .i64 0]) (t := 30) ?hr ?_; (case hd => rfl); (case hg => rfl); (case hr => first | (go_simp; done) | (go_simp; rfl)); intro bc hg w10 hbox HBc; have RG_bc : Aside0 (w.heap.size ≤ bc) := ⟨Nat.le_trans (below_size XB.out) (Nat.le_of_eq hg.symm)⟩; have NE_ba_bc : Aside0 (ba ≠ bc) := ⟨ne_born (blk_lt BK_ba.out) hg⟩; have NE_bc_ba : Aside0 (bc ≠ ba) := ⟨fun e => NE_ba_bc.out e.symm⟩; have NE_bb_bc : Aside0 (bb ≠ bc) := ⟨ne_born (blk_lt BK_bb.out) hg⟩; have NE_bc_bb : Aside0 (bc ≠ bb) := ⟨fun e => NE_bb_bc.out e.symm⟩; have NS_s_bc : Aside0 (∀ k, Fp g R k → k ≠ bc) := ⟨fun k hk e => by have := OB_s.out.lt k hk; omega⟩; have SB_v1_bc : Aside0 (∀ k, k = bc → (fun k => k ≠ v1) k) := ⟨fun k e => fun h => by have := HS_v1.out; omega⟩; have SB_a_bc : Aside0 (∀ k, k = bc → (fun k => k < w2.heap.size ∨ w3.heap.size ≤ k) k) := ⟨fun k e => .inr (by have := HS_a.out; omega)⟩; have SB_b_bc : Aside0 (∀ k, k = bc → (fun k => k < w5.heap.size ∨ w6.heap.size ≤ k) k) := ⟨fun k e => .inr (by have := HS_b.out; omega)⟩; have SB_c_bc : Aside0 (∀ k, k = bc → (fun k => k < w8.heap.size ∨ w9.heap.size ≤ k) k) := ⟨fun k e => .inr (by have := HS_c.out; omega)⟩; clear hg; have BK_ban : Aside0 (w10.heap[ba]? = some (.cells #[.slice Aa ([] : List Int).length ca, .int .i64 0] 30 (0, 0))) := ⟨blk_below BK_ba.out HBc⟩; have BK_bbn : Aside0 (w10.heap[bb]? = some (.cells #[.slice Ab ([0, 1, 2] : List Int).length cb, .int .i64 0] 30 (0, 0))) := ⟨blk_below BK_bb.out HBc⟩; have OB_sn : Aside0 (IsSlv 77 w10 g R (X1)) := ⟨OB_s.out.below HBc⟩; have HV_v1n : Aside0 (Ever (fun k => k ≠ v1) w10 (fun W => Kd.C (Kd.int .i64) W (some ⟨v1, 0, none⟩) (([1, 2] : List Int)).length (([1, 2] : List Int)))) := ⟨HV_v1.out.step (.of_below HBc)⟩; have HV_an : Aside0 (Ever (fun k => k < w2.heap.size ∨ w3.heap.size ≤ k) w10 (fun W => Kd.C (Kd.int .i64) W (Aa) (([] : List Int)).length (([] : List Int)))) := ⟨HV_a.out.step (.of_below HBc)⟩; have HV_bn : Aside0 (Ever (fun k => k < w5.heap.size ∨ w6.heap.size ≤ k) w10 (fun W => Kd.C (Kd.int .i64) W (Ab) (([0, 1, 2] : List Int)).length (([0, 1, 2] : List Int)))) := ⟨HV_b.out.step (.of_below HBc)⟩; have HV_cn : Aside0 (Ever (fun k => k < w8.heap.size ∨ w9.heap.size ≤ k) w10 (fun W => Kd.C (Kd.int .i64) W (Ac) (([] : List Int)).length (([] : List Int)))) := ⟨HV_c.out.step (.of_below HBc)⟩; have HS_v1n : Aside0 (v1 < w10.heap.size) := ⟨Nat.lt_of_lt_of_le HS_v1.out HBc.size⟩; have HS_an : Aside0 (w3.heap.size ≤ w10.heap.size) := ⟨Nat.le_trans HS_a.out HBc.size⟩; have HS_bn : Aside0 (w6.heap.size ≤ w10.heap.size) := ⟨Nat.le_trans HS_b.out HBc.size⟩; have HS_cn : Aside0 (w9.heap.size ≤ w10.heap.size) := ⟨Nat.le_trans HS_c.out HBc.size⟩; have XBn : Aside0 (Below w.heap.size w w10) := ⟨below_step XB.out HBc⟩; clear BK_ba BK_bb OB_s HV_v1 HV_a HV_b HV_c HS_v1 HS_a HS_b HS_c XB; have BK_ba := BK_ban; have BK_bb := BK_bbn; have OB_s := OB_sn; have HV_v1 := HV_v1n; have HV_a := HV_an; have HV_b := HV_bn; have HV_c := HV_cn; have HS_v1 := HS_v1n; have HS_a := HS_an; have HS_b := HS_bn; have HS_c := HS_cn; have XB := XBn; clear BK_ban BK_bbn OB_sn HV_v1n HV_an HV_bn HV_cn HS_v1n HS_an HS_bn HS_cn XBn; have BK_bc : Aside0 (w10.heap[bc]? = some (.cells #[.slice none 0 0, .int .i64 0] 30 (0, 0))) := ⟨hbox⟩; clear hbox HBc; have lc3_0 : w10.cell? ⟨bc, 0, none⟩ = some (.slice none 0 0) := (blk_cell BK_bc.out 0).trans rfl; have lf3_0 := blk_frozen BK_bc.out 0; have lc3_1 : w10.cell? ⟨bc, 1, none⟩ = some (.int .i64 0) := (blk_cell BK_bc.out 1).trans rfl; have lf3_1 := blk_frozen BK_bc.out 1) | ((with_reducible refine gate_store (p := 7) rfl ?_); refine store_event (w1 := ?_) rfl (p := 7) rfl rfl ?hr ?_; rotate_left; (case hr => go_simp; rfl); intro w11 hw_; obtain ⟨hput, HEc⟩ := put2 hw_ BK_bc.out; clear hw_; clear lc3_0 lf3_0 lc3_1 lf3_1; have BK_ban : Aside0 (w11.heap[ba]? = some (.cells #[.slice Aa ([] : List Int).length ca, .int .i64 0] 30 (0, 0))) := ⟨Ext.blk HEc BK_ba.out NE_ba_bc.out⟩; have BK_bbn : Aside0 (w11.heap[bb]? = some (.cells #[.slice Ab ([0, 1, 2] : List Int).length cb, .int .i64 0] 30 (0, 0))) := ⟨Ext.blk HEc BK_bb.out NE_bb_bc.out⟩; have OB_sn : Aside0 (IsSlv 77 w11 g R (X1)) := ⟨OB_s.out.ext HEc (fun k h1 h2 => NS_s_bc.out k h1 h2)⟩; have HV_v1n : Aside0 (Ever (fun k => k ≠ v1) w11 (fun W => Kd.C (Kd.int .i64) W (some ⟨v1, 0, none⟩) (([1, 2] : List Int)).length (([1, 2] : List Int)))) := ⟨HV_v1.out.step (HEc.sub SB_v1_bc.out)⟩; have HV_an : Aside0 (Ever (fun k => k < w2.heap.size ∨ w3.heap.size ≤ k) w11 (fun W => Kd.C (Kd.int .i64) W (Aa) (([] : List Int)).length (([] : List Int)))) := ⟨HV_a.out.step (HEc.sub SB_a_bc.out)⟩; have HV_bn : Aside0 (Ever (fun k => k < w5.heap.size ∨ w6.heap.size ≤ k) w11 (fun W => Kd.C (Kd.int .i64) W (Ab) (([0, 1, 2] : List Int)).length (([0, 1, 2] : List Int)))) := ⟨HV_b.out.step (HEc.sub SB_b_bc.out)⟩; have HV_cn : Aside0 (Ever (fun k => k < w8.heap.size ∨ w9.heap.size ≤ k) w11 (fun W => Kd.C (Kd.int .i64) W (Ac) (([] : List Int)).length (([] : List Int)))) := ⟨HV_c.out.step (HEc.sub SB_c_bc.out)⟩; have HS_v1n : Aside0 (v1 < w11.heap.size) := ⟨Nat.lt_of_lt_of_le HS_v1.out HEc.size⟩; have HS_an : Aside0 (w3.heap.size ≤ w11.heap.size) := ⟨Nat.le_trans HS_a.out HEc.size⟩; have HS_bn : Aside0 (w6.heap.size ≤ w11.heap.size) := ⟨Nat.le_trans HS_b.out HEc.size⟩; have HS_cn : Aside0 (w9.heap.size ≤ w11.heap.size) := ⟨Nat.le_trans HS_c.out HEc.size⟩; have XBn : Aside0 (Below w.heap.size w w11) := ⟨((Ext.of_below (M := fun j => w.heap.size ≤ j) XB.out).grow HEc (fun k e => .inl (by rw [show k = bc from e]; exact RG_bc.out))).below (fun _ h => h)⟩; clear BK_ba BK_bb OB_s HV_v1 HV_a HV_b HV_c HS_v1 HS_a HS_b HS_c XB; have BK_ba := BK_ban; have BK_bb := BK_bbn; have OB_s := OB_sn; have HV_v1 := HV_v1n; have HV_a := HV_an; have HV_b := HV_bn; have HV_c := HV_cn; have HS_v1 := HS_v1n; have HS_a := HS_an; have HS_b := HS_bn; have HS_c := HS_cn; have XB := XBn; clear BK_ban BK_bbn OB_sn HV_v1n HV_an HV_bn HV_cn HS_v1n HS_an HS_bn HS_cn XBn; clear BK_bc; have BK_bc : Aside0 (w11.heap[bc]? = some (.cells #[.slice Ac ([] : List Int).length cc, .int .i64 2] 30 (0, 0))) := ⟨hput⟩; clear hput HEc) | (go_at_call 15; have _t := tD; refine (do_c OB_s.out rfl (Ever.nil _) ck4 aw4).mono ?_; rintro e w12 ⟨Ad, cd, rfl, hcd, hsl, HEc, hans⟩; have SB_d_s : Aside0 (∀ k, Fp g R k → (fun k => k < w11.heap.size ∨ w12.heap.size ≤ k) k) := ⟨fun k h => .inl (OB_s.out.lt k h)⟩; have SB_d_ba : Aside0 (∀ k, k = ba → (fun k => k < w11.heap.size ∨ w12.heap.size ≤ k) k) := ⟨fun k e => .inl (by rw [e]; exact blk_lt BK_ba.out)⟩; have SB_d_bb : Aside0 (∀ k, k = bb → (fun k => k < w11.heap.size ∨ w12.heap.size ≤ k) k) := ⟨fun k e => .inl (by rw [e]; exact blk_lt BK_bb.out)⟩; have SB_d_bc : Aside0 (∀ k, k = bc → (fun k => k < w11.heap.size ∨ w12.heap.size ≤ k) k) := ⟨fun k e => .inl (by rw [e]; exact blk_lt BK_bc.out)⟩; have BK_ban : Aside0 (w12.heap[ba]? = some (.cells #[.slice Aa ([] : List Int).length ca, .int .i64 0] 30 (0, 0))) := ⟨Ext.blk HEc BK_ba.out (fun e => NS_s_ba.out _ e rfl)⟩; have BK_bbn : Aside0 (w12.heap[bb]? = some (.cells #[.slice Ab ([0, 1, 2] : List Int).length cb, .int .i64 0] 30 (0, 0))) := ⟨Ext.blk HEc BK_bb.out (fun e => NS_s_bb.out _ e rfl)⟩; have BK_bcn : Aside0 (w12.heap[bc]? = some (.cells #[.slice Ac ([] : List Int).length cc, .int .i64 2] 30 (0, 0))) := ⟨Ext.blk HEc BK_bc.out (fun e => NS_s_bc.out _ e rfl)⟩; have OB_sn : Aside0 (IsSlv 77 w12 g R (X2)) := ⟨hsl⟩; have HV_v1n : Aside0 (Ever (fun k => k ≠ v1) w12 (fun W => Kd.C (Kd.int .i64) W (some ⟨v1, 0, none⟩) (([1, 2] : List Int)).length (([1, 2] : List Int)))) := ⟨HV_v1.out.step (HEc.sub SB_v1_s.out)⟩; have HV_an : Aside0 (Ever (fun k => k < w2.heap.size ∨ w3.heap.size ≤ k) w12 (fun W => Kd.C (Kd.int .i64) W (Aa) (([] : List Int)).length (([] : List Int)))) := ⟨HV_a.out.step (HEc.sub SB_a_s.out)⟩; have HV_bn : Aside0 (Ever (fun k => k < w5.heap.size ∨ w6.heap.size ≤ k) w12 (fun W => Kd.C (Kd.int .i64) W (Ab) (([0, 1, 2] : List Int)).length (([0, 1, 2] : List Int)))) := ⟨HV_b.out.step (HEc.sub SB_b_s.out)⟩; have HV_cn : Aside0 (Ever (fun k => k < w8.heap.size ∨ w9.heap.size ≤ k) w12 (fun W => Kd.C (Kd.int .i64) W (Ac) (([] : List Int)).length (([] : List Int)))) := ⟨HV_c.out.step (HEc.sub SB_c_s.out)⟩; have HS_v1n : Aside0 (v1 < w12.heap.size) := ⟨Nat.lt_of_lt_of_le HS_v1.out HEc.size⟩; have HS_an : Aside0 (w3.heap.size ≤ w12.heap.size) := ⟨Nat.le_trans HS_a.out HEc.size⟩; have HS_bn : Aside0 (w6.heap.size ≤ w12.heap.size) := ⟨Nat.le_trans HS_b.out HEc.size⟩; have HS_cn : Aside0 (w9.heap.size ≤ w12.heap.size) := ⟨Nat.le_trans HS_c.out HEc.size⟩; have XBn : Aside0 (Below w.heap.size w w12) := ⟨((Ext.of_below (M := fun j => w.heap.size ≤ j) XB.out).grow HEc (fun k e => .inl (FG_s.out k e))).below (fun _ h => h)⟩; clear BK_ba BK_bb BK_bc OB_s HV_v1 HV_a HV_b HV_c HS_v1 HS_a HS_b HS_c XB; have BK_ba := BK_ban; have BK_bb := BK_bbn; have BK_bc := BK_bcn; have OB_s := OB_sn; have HV_v1 := HV_v1n; have HV_a := HV_an; have HV_b := HV_bn; have HV_c := HV_cn; have HS_v1 := HS_v1n; have HS_a := HS_an; have HS_b := HS_bn; have HS_c := HS_cn; have XB := XBn; clear BK_ban BK_bbn BK_bcn OB_sn HV_v1n HV_an HV_bn HV_cn HS_v1n HS_an HS_bn HS_cn XBn; have HV_d : Aside0 (Ever (fun k => k < w11.heap.size ∨ w12.heap.size ≤ k) w12 (fun W => Kd.C (Kd.int .i64) W (Ad) (([] : List Int)).length (([] : List Int)))) := ⟨(hans (fun k => k < w11.heap.size) (fun k h => h)).grow (Ext.refl _ _) (fun k h => h)⟩; have HS_d : Aside0 (w12.heap.size ≤ w12.heap.size) := ⟨Nat.le_refl _⟩; clear hsl HEc hans hcd; clear tD _t; have tE := Aside0.mk trivial) | ((with_reducible refine gate_dst (N := 9) rfl ?_); refine box_event ?hg (N := 9) ?hd (cs := #[.slice none 0 0, .int .i64 0]) (t := 30) ?hr ?_; (case hd => rfl); (case hg => rfl); (case hr => first | (go_simp; done) | (go_simp; rfl)); intro bd hg w13 hbox HBc; have RG_bd : Aside0 (w.heap.size ≤ bd) := ⟨Nat.le_trans (below_size XB.out) (Nat.le_of_eq hg.symm)⟩; have NE_ba_bd : Aside0 (ba ≠ bd) := ⟨ne_born (blk_lt BK_ba.out) hg⟩; have NE_bd_ba : Aside0 (bd ≠ ba) := ⟨fun e => NE_ba_bd.out e.symm⟩; have NE_bb_bd : Aside0 (bb ≠ bd) := ⟨ne_born (blk_lt BK_bb.out) hg⟩; have NE_bd_bb : Aside0 (bd ≠ bb) := ⟨fun e => NE_bb_bd.out e.symm⟩; have NE_bc_bd : Aside0 (bc ≠ bd) := ⟨ne_born (blk_lt BK_bc.out) hg⟩; have NE_bd_bc : Aside0 (bd ≠ bc) := ⟨fun e => NE_bc_bd.out e.symm⟩; have NS_s_bd : Aside0 (∀ k, Fp g R k → k ≠ bd) := ⟨fun k hk e => by have := OB_s.out.lt k hk; omega⟩; have SB_v1_bd : Aside0 (∀ k, k = bd → (fun k => k ≠ v1) k) := ⟨fun k e => fun h => by have := HS_v1.out; omega⟩; have SB_a_bd : Aside0 (∀ k, k = bd → (fun k => k < w2.heap.size ∨ w3.heap.size ≤ k) k) := ⟨fun k e => .inr (by have := HS_a.out; omega)⟩; have SB_b_bd : Aside0 (∀ k, k = bd → (fun k => k < w5.heap.size ∨ w6.heap.size ≤ k) k) := ⟨fun k e => .inr (by have := HS_b.out; omega)⟩; have SB_c_bd : Aside0 (∀ k, k = bd → (fun k => k < w8.heap.size ∨ w9.heap.size ≤ k) k) := ⟨fun k e => .inr (by have := HS_c.out; omega)⟩; have SB_d_bd : Aside0 (∀ k, k = bd → (fun k => k < w11.heap.size ∨ w12.heap.size ≤ k) k) := ⟨fun k e => .inr (by have := HS_d.out; omega)⟩; clear hg; have BK_ban : Aside0 (w13.heap[ba]? = some (.cells #[.slice Aa ([] : List Int).length ca, .int .i64 0] 30 (0, 0))) := ⟨blk_below BK_ba.out HBc⟩; have BK_bbn : Aside0 (w13.heap[bb]? = some (.cells #[.slice Ab ([0, 1, 2] : List Int).length cb, .int .i64 0] 30 (0, 0))) := ⟨blk_below BK_bb.out HBc⟩; have BK_bcn : Aside0 (w13.heap[bc]? = some (.cells #[.slice Ac ([] : List Int).length cc, .int .i64 2] 30 (0, 0))) := ⟨blk_below BK_bc.out HBc⟩; have OB_sn : Aside0 (IsSlv 77 w13 g R (X2)) := ⟨OB_s.out.below HBc⟩; have HV_v1n : Aside0 (Ever (fun k => k ≠ v1) w13 (fun W => Kd.C (Kd.int .i64) W (some ⟨v1, 0, none⟩) (([1, 2] : List Int)).length (([1, 2] : List Int)))) := ⟨HV_v1.out.step (.of_below HBc)⟩; have HV_an : Aside0 (Ever (fun k => k < w2.heap.size ∨ w3.heap.size ≤ k) w13 (fun W => Kd.C (Kd.int .i64) W (Aa) (([] : List Int)).length (([] : List Int)))) := ⟨HV_a.out.step (.of_below HBc)⟩; have HV_bn : Aside0 (Ever (fun k => k < w5.heap.size ∨ w6.heap.size ≤ k) w13 (fun W => Kd.C (Kd.int .i64) W (Ab) (([0, 1, 2] : List Int)).length (([0, 1, 2] : List Int)))) := ⟨HV_b.out.step (.of_below HBc)⟩; have HV_cn : Aside0 (Ever (fun k => k < w8.heap.size ∨ w9.heap.size ≤ k) w13 (fun W => Kd.C (Kd.int .i64) W (Ac) (([] : List Int)).length (([] : List Int)))) := ⟨HV_c.out.step (.of_below HBc)⟩; have HV_dn : Aside0 (Ever (fun k => k < w11.heap.size ∨ w12.heap.size ≤ k) w13 (fun W => Kd.C (Kd.int .i64) W (Ad) (([] : List Int)).length (([] : List Int)))) := ⟨HV_d.out.step (.of_below HBc)⟩; have HS_v1n : Aside0 (v1 < w13.heap.size) := ⟨Nat.lt_of_lt_of_le HS_v1.out HBc.size⟩; have HS_an : Aside0 (w3.heap.size ≤ w13.heap.size) := ⟨Nat.le_trans HS_a.out HBc.size⟩; have HS_bn : Aside0 (w6.heap.size ≤ w13.heap.size) := ⟨Nat.le_trans HS_b.out HBc.size⟩; have HS_cn : Aside0 (w9.heap.size ≤ w13.heap.size) := ⟨Nat.le_trans HS_c.out HBc.size⟩; have HS_dn : Aside0 (w12.heap.size ≤ w13.heap.size) := ⟨Nat.le_trans HS_d.out HBc.size⟩; have XBn : Aside0 (Below w.heap.size w w13) := ⟨below_step XB.out HBc⟩; clear BK_ba BK_bb BK_bc OB_s HV_v1 HV_a HV_b HV_c HV_d HS_v1 HS_a HS_b HS_c HS_d XB; have BK_ba := BK_ban; have BK_bb := BK_bbn; have BK_bc := BK_bcn; have OB_s := OB_sn; have HV_v1 := HV_v1n; have HV_a := HV_an; have HV_b := HV_bn; have HV_c := HV_cn; have HV_d := HV_dn; have HS_v1 := HS_v1n; have HS_a := HS_an; have HS_b := HS_bn; have HS_c := HS_cn; have HS_d := HS_dn; have XB := XBn; clear BK_ban BK_bbn BK_bcn OB_sn HV_v1n HV_an HV_bn HV_cn HV_dn HS_v1n HS_an HS_bn HS_cn HS_dn XBn; have BK_bd : Aside0 (w13.heap[bd]? = some (.cells #[.slice none 0 0, .int .i64 0] 30 (0, 0))) := ⟨hbox⟩; clear hbox HBc; have lc4_0 : w13.cell? ⟨bd, 0, none⟩ = some (.slice none 0 0) := (blk_cell BK_bd.out 0).trans rfl; have lf4_0 := blk_frozen BK_bd.out 0; have lc4_1 : w13.cell? ⟨bd, 1, none⟩ = some (.int .i64 0) := (blk_cell BK_bd.out 1).trans rfl; have lf4_1 := blk_frozen BK_bd.out 1) | ((with_reducible refine gate_store (p := 9) rfl ?_); refine store_event (w1 := ?_) rfl (p := 9) rfl rfl ?hr ?_; rotate_left; (case hr => go_simp; rfl); intro w14 hw_; obtain ⟨hput, HEc⟩ := put2 hw_ BK_bd.out; clear hw_; clear lc4_0 lf4_0 lc4_1 lf4_1; have BK_ban : Aside0 (w14.heap[ba]? = some (.cells #[.slice Aa ([] : List Int).length ca, .int .i64 0] 30 (0, 0))) := ⟨Ext.blk HEc BK_ba.out NE_ba_bd.out⟩; have BK_bbn : Aside0 (w14.heap[bb]? = some (.cells #[.slice Ab ([0, 1, 2] : List Int).length cb, .int .i64 0] 30 (0, 0))) := ⟨Ext.blk HEc BK_bb.out NE_bb_bd.out⟩; have BK_bcn : Aside0 (w14.heap[bc]? = some (.cells #[.slice Ac ([] : List Int).length cc, .int .i64 2] 30 (0, 0))) := ⟨Ext.blk HEc BK_bc.out NE_bc_bd.out⟩; have OB_sn : Aside0 (IsSlv 77 w14 g R (X2)) := ⟨OB_s.out.ext HEc (fun k h1 h2 => NS_s_bd.out k h1 h2)⟩; have HV_v1n : Aside0 (Ever (fun k => k ≠ v1) w14 (fun W => Kd.C (Kd.int .i64) W (some ⟨v1, 0, none⟩) (([1, 2] : List Int)).length (([1, 2] : List Int)))) := ⟨HV_v1.out.step (HEc.sub SB_v1_bd.out)⟩; have HV_an : Aside0 (Ever (fun k => k < w2.heap.size ∨ w3.heap.size ≤ k) w14 (fun W => Kd.C (Kd.int .i64) W (Aa) (([] : List Int)).length (([] : List Int)))) := ⟨HV_a.out.step (HEc.sub SB_a_bd.out)⟩; have HV_bn : Aside0 (Ever (fun k => k < w5.heap.size ∨ w6.heap.size ≤ k) w14 (fun W => Kd.C (Kd.int .i64) W (Ab) (([0, 1, 2] : List Int)).length (([0, 1, 2] : List Int)))) := ⟨HV_b.out.step (HEc.sub SB_b_bd.out)⟩; have HV_cn : Aside0 (Ever (fun k => k < w8.heap.size ∨ w9.heap.size ≤ k) w14 (fun W => Kd.C (Kd.int .i64) W (Ac) (([] : List Int)).length (([] : List Int)))) := ⟨HV_c.out.step (HEc.sub SB_c_bd.out)⟩; have HV_dn : Aside0 (Ever (fun k => k < w11.heap.size ∨ w12.heap.size ≤ k) w14 (fun W => Kd.C (Kd.int .i64) W (Ad) (([] : List Int)).length (([] : List Int)))) := ⟨HV_d.out.step (HEc.sub SB_d_bd.out)⟩; have HS_v1n : Aside0 (v1 < w14.heap.size) := ⟨Nat.lt_of_lt_of_le HS_v1.out HEc.size⟩; have HS_an : Aside0 (w3.heap.size ≤ w14.heap.size) := ⟨Nat.le_trans HS_a.out HEc.size⟩; have HS_bn : Aside0 (w6.heap.size ≤ w14.heap.size) := ⟨Nat.le_trans HS_b.out HEc.size⟩; have HS_cn : Aside0 (w9.heap.size ≤ w14.heap.size) := ⟨Nat.le_trans HS_c.out HEc.size⟩; have HS_dn : Aside0 (w12.heap.size ≤ w14.heap.size) := ⟨Nat.le_trans HS_d.out HEc.size⟩; have XBn : Aside0 (Below w.heap.size w w14) := ⟨((Ext.of_below (M := fun j => w.heap.size ≤ j) XB.out).grow HEc (fun k e => .inl (by rw [show k = bd from e]; exact RG_bd.out))).below (fun _ h => h)⟩; clear BK_ba BK_bb BK_bc OB_s HV_v1 HV_a HV_b HV_c HV_d HS_v1 HS_a HS_b HS_c HS_d XB; have BK_ba := BK_ban; have BK_bb := BK_bbn; have BK_bc := BK_bcn; have OB_s := OB_sn; have HV_v1 := HV_v1n; have HV_a := HV_an; have HV_b := HV_bn; have HV_c := HV_cn; have HV_d := HV_dn; have HS_v1 := HS_v1n; have HS_a := HS_an; have HS_b := HS_bn; have HS_c := HS_cn; have HS_d := HS_dn; have XB := XBn; clear BK_ban BK_bbn BK_bcn OB_sn HV_v1n HV_an HV_bn HV_cn HV_dn HS_v1n HS_an HS_bn HS_cn HS_dn XBn; clear BK_bd; have BK_bd : Aside0 (w14.heap[bd]? = some (.cells #[.slice Ad ([] : List Int).length cd, .int .i64 0] 30 (0, 0))) := ⟨hput⟩; clear hput HEc; have lc5_0 : w14.cell? ⟨ba, 0, none⟩ = some (.slice Aa ([] : List Int).length ca) := (blk_cell BK_ba.out 0).trans rfl; have lf5_0 := blk_frozen BK_ba.out 0; have lc5_1 : w14.cell? ⟨ba, 1, none⟩ = some (.int .i64 0) := (blk_cell BK_ba.out 1).trans rfl; have lf5_1 := blk_frozen BK_ba.out 1; have lc6_0 : w14.cell? ⟨bb, 0, none⟩ = some (.slice Ab ([0, 1, 2] : List Int).length cb) := (blk_cell BK_bb.out 0).trans rfl; have lf6_0 := blk_frozen BK_bb.out 0; have lc6_1 : w14.cell? ⟨bb, 1, none⟩ = some (.int .i64 0) := (blk_cell BK_bb.out 1).trans rfl; have lf6_1 := blk_frozen BK_bb.out 1; have lc7_0 : w14.cell? ⟨bc, 0, none⟩ = some (.slice Ac ([] : List Int).length cc) := (blk_cell BK_bc.out 0).trans rfl; have lf7_0 := blk_frozen BK_bc.out 0; have lc7_1 : w14.cell? ⟨bc, 1, none⟩ = some (.int .i64 2) := (blk_cell BK_bc.out 1).trans rfl; have lf7_1 := blk_frozen BK_bc.out 1) | (go_at_call 24; refine (get_c OB_s.out _ _ aw5).mono ?_; rintro e w' ⟨rfl, rfl⟩; ) | (go_at_call 42; refine (ints_c _ _ _ _ [0, 1, 2] [0, 1, 2] _ rfl rfl (HV_b.out.step (.of_below (below_alloc (Below.refl _ _) _))).now (row_C (xs := [0, 1, 2]) (e := 3) (by simpa using heap_alloc_new w14 _) (by simp)) (b := true) (by decide)).mono ?_; rintro e w16 ⟨rfl, ⟨m1, hm1⟩⟩; have HBc : Below w14.heap.size w14 w16 := (by rw [hm1]; exact pw_below_drewN (below_alloc (Below.refl _ _) _) m1); clear lc5_0 lf5_0 lc5_1 lf5_1 lc6_0 lf6_0 lc6_1 lf6_1 lc7_0 lf7_0 lc7_1 lf7_1; have BK_ban : Aside0 (w16.heap[ba]? = some (.cells #[.slice Aa ([] : List Int).length ca, .int .i64 0] 30 (0, 0))) := ⟨blk_below BK_ba.out HBc⟩; have BK_bbn : Aside0 (w16.heap[bb]? = some (.cells #[.slice Ab ([0, 1, 2] : List Int).length cb, .int .i64 0] 30 (0, 0))) := ⟨blk_below BK_bb.out HBc⟩; have BK_bcn : Aside0 (w16.heap[bc]? = some (.cells #[.slice Ac ([] : List Int).length cc, .int .i64 2] 30 (0, 0))) := ⟨blk_below BK_bc.out HBc⟩; have BK_bdn : Aside0 (w16.heap[bd]? = some (.cells #[.slice Ad ([] : List Int).length cd, .int .i64 0] 30 (0, 0))) := ⟨blk_below BK_bd.out HBc⟩; have OB_sn : Aside0 (IsSlv 77 w16 g R (X2)) := ⟨OB_s.out.below HBc⟩; have HV_v1n : Aside0 (Ever (fun k => k ≠ v1) w16 (fun W => Kd.C (Kd.int .i64) W (some ⟨v1, 0, none⟩) (([1, 2] : List Int)).length (([1, 2] : List Int)))) := ⟨HV_v1.out.step (.of_below HBc)⟩; have HV_an : Aside0 (Ever (fun k => k < w2.heap.size ∨ w3.heap.size ≤ k) w16 (fun W => Kd.C (Kd.int .i64) W (Aa) (([] : List Int)).length (([] : List Int)))) := ⟨HV_a.out.step (.of_below HBc)⟩; have HV_bn : Aside0 (Ever (fun k => k < w5.heap.size ∨ w6.heap.size ≤ k) w16 (fun W => Kd.C (Kd.int .i64) W (Ab) (([0, 1, 2] : List Int)).length (([0, 1, 2] : List Int)))) := ⟨HV_b.out.step (.of_below HBc)⟩; have HV_cn : Aside0 (Ever (fun k => k < w8.heap.size ∨ w9.heap.size ≤ k) w16 (fun W => Kd.C (Kd.int .i64) W (Ac) (([] : List Int)).length (([] : List Int)))) := ⟨HV_c.out.step (.of_below HBc)⟩; have HV_dn : Aside0 (Ever (fun k => k < w11.heap.size ∨ w12.heap.size ≤ k) w16 (fun W => Kd.C (Kd.int .i64) W (Ad) (([] : List Int)).length (([] : List Int)))) := ⟨HV_d.out.step (.of_below HBc)⟩; have HS_v1n : Aside0 (v1 < w16.heap.size) := ⟨Nat.lt_of_lt_of_le HS_v1.out HBc.size⟩; have HS_an : Aside0 (w3.heap.size ≤ w16.heap.size) := ⟨Nat.le_trans HS_a.out HBc.size⟩; have HS_bn : Aside0 (w6.heap.size ≤ w16.heap.size) := ⟨Nat.le_trans HS_b.out HBc.size⟩; have HS_cn : Aside0 (w9.heap.size ≤ w16.heap.size) := ⟨Nat.le_trans HS_c.out HBc.size⟩; have HS_dn : Aside0 (w12.heap.size ≤ w16.heap.size) := ⟨Nat.le_trans HS_d.out HBc.size⟩; have XBn : Aside0 (Below w.heap.size w w16) := ⟨below_step XB.out HBc⟩; clear BK_ba BK_bb BK_bc BK_bd OB_s HV_v1 HV_a HV_b HV_c HV_d HS_v1 HS_a HS_b HS_c HS_d XB; have BK_ba := BK_ban; have BK_bb := BK_bbn; have BK_bc := BK_bcn; have BK_bd := BK_bdn; have OB_s := OB_sn; have HV_v1 := HV_v1n; have HV_a := HV_an; have HV_b := HV_bn; have HV_c := HV_cn; have HV_d := HV_dn; have HS_v1 := HS_v1n; have HS_a := HS_an; have HS_b := HS_bn; have HS_c := HS_cn; have HS_d := HS_dn; have XB := XBn; clear BK_ban BK_bbn BK_bcn BK_bdn OB_sn HV_v1n HV_an HV_bn HV_cn HV_dn HS_v1n HS_an HS_bn HS_cn HS_dn XBn; clear HBc hm1; have lc8_0 : w16.cell? ⟨ba, 0, none⟩ = some (.slice Aa ([] : List Int).length ca) := (blk_cell BK_ba.out 0).trans rfl; have lf8_0 := blk_frozen BK_ba.out 0; have lc8_1 : w16.cell? ⟨ba, 1, none⟩ = some (.int .i64 0) := (blk_cell BK_ba.out 1).trans rfl; have lf8_1 := blk_frozen BK_ba.out 1; have lc9_0 : w16.cell? ⟨bb, 0, none⟩ = some (.slice Ab ([0, 1, 2] : List Int).length cb) := (blk_cell BK_bb.out 0).trans rfl; have lf9_0 := blk_frozen BK_bb.out 0; have lc9_1 : w16.cell? ⟨bb, 1, none⟩ = some (.int .i64 0) := (blk_cell BK_bb.out 1).trans rfl; have lf9_1 := blk_frozen BK_bb.out 1; have lc10_0 : w16.cell? ⟨bc, 0, none⟩ = some (.slice Ac ([] : List Int).length cc) := (blk_cell BK_bc.out 0).trans rfl; have lf10_0 := blk_frozen BK_bc.out 0; have lc10_1 : w16.cell? ⟨bc, 1, none⟩ = some (.int .i64 2) := (blk_cell BK_bc.out 1).trans rfl; have lf10_1 := blk_frozen BK_bc.out 1))
  go_ret
  exact ⟨rfl, XB.out⟩
end Go.Proofs.Ytocicifgglkaeaa.SlvL
end

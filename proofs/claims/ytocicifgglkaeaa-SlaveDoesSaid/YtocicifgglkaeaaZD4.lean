/- The words, contracts and walks that this claim leans on, put together by a program of this session (part 4). -/
import Derived.Test.YtocicifgglkaeaaZD3
section
namespace Go.Proofs.Ytocicifgglkaeaa.SlvI
open Go.RowKit Go.Proofs.YtocicifgglkaeaaW.PrintWords Go.Proofs.YtocicifgglkaeaaW.PrintLast Go.Proofs.YtocicifgglkaeaaW.PrintMore Go.Proofs.Ytocicifgglkaeaa.Core Go.Proofs.Ytocicifgglkaeaa.Wk Go.Proofs.Ytocicifgglkaeaa.Chk Go.Proofs.Ytocicifgglkaeaa.SlvA Go.Proofs.Ytocicifgglkaeaa.SlvB Go.Proofs.Ytocicifgglkaeaa.SlvE Go.Proofs.Ytocicifgglkaeaa.SlvW Go.Proofs.Ytocicifgglkaeaa.SlvF Go.Proofs.Ytocicifgglkaeaa.SlvG Go.Proofs.Ytocicifgglkaeaa.SlvM
set_option linter.unusedVariables false
set_option linter.unusedSimpArgs false
attribute [local go_sem] max2_int min2_int max_two min_two
theorem _root_.Go.Proofs.Ytocicifgglkaeaa.Core.Ext.cellb {M : Nat → Prop} {w w' : World} (h : Ext M w w') {b i : Nat} (hb : b < w.heap.size) (hn : ¬ M b) : w'.cell? ⟨b, i, none⟩ = w.cell? ⟨b, i, none⟩ := by
  have := h.block b hb hn
  unfold World.cell?
  simp only [this]
theorem below_allocb {base : Nat} {w W : World} (hb : base ≤ w.heap.size) (h : Below base w W) (o : Obj) : Below base w (W.alloc o) := h.alloc (Nat.le_trans hb h.size) o
theorem meas {c k : Nat} (h : k < c) (hw : wrap64 ((k : Int) + 1) = (k : Int) + 1) : c - (intOf (.int .i64 (wrap64 ((k : Int) + 1)))).toNat < c - (intOf (.int .i64 (k : Int))).toNat := by
  rw [hw]
  simp only [intOf]
  omega
theorem wk1 : wrap64 0 = 0 := by unfold wrap64; omega
theorem wk2 : wrap64 1 = 1 := by unfold wrap64; omega
theorem wk3 : wrap64 2 = 2 := by unfold wrap64; omega
theorem wk4 : wrap64 3 = 3 := by unfold wrap64; omega
set_option maxHeartbeats 4000000 in
set_option maxRecDepth 100000 in
theorem rdo_r0_no {w : World} {g : Nat} {R : Nat → Nat} {X : Nat → List Int} (h : IsSlv 51 w g R X) {A : Option Addr} {cc : Nat} {v : List Int} (hn : v.length = 0) (hV : Ever (Fp g R) w (fun W => Kd.C (Kd.int .i64) W A v.length v)) {a c : Nat} {t n o : Int} (hb : a ≤ 1000000 ∧ c ≤ 1000000 ∧ 0 < c) (hlt : (X 0).length < a + c) : Calls Try.prog 21 #[.pointer (some ⟨g, 0, none⟩), .agg #[.int .i64 1, .int .i64 (a : Int), .int .i64 (c : Int), .slice A 0 cc, .int .i64 t, .int .i64 n, .int .i64 o]] w fun e w' => ∃ AA cA, e = .returned (.agg #[.slice AA (([] : List Int)).length cA, .int .i64 2]) ∧ (([] : List Int)).length ≤ cA ∧ IsSlv 51 w' g R (X) ∧ Ext (Fp g R) w w' ∧ IsAns w w' AA (([] : List Int)) := by
  have SL : Aside0 (IsSlv 51 w g R (X)) := ⟨h⟩; have XT : Aside0 (Ext (Fp g R) w w) := ⟨Ext.refl _ _⟩; have HV := Aside0.mk hV; have HN := Aside0.mk hn; have tA := Aside0.mk trivial
  have HB := Aside0.mk hb
  have HD : Aside0 (∀ ad : Int, ad = (a : Int) + (c : Int) - 1 → decide (has X 1 ad) = false) := ⟨fun ad e => decide_eq_false (by rw [e]; unfold has; rw [show ((1 : Int) - 1).toNat = 0 from rfl]; omega)⟩
  clear hb hlt
  clear h hV hn
  go_enter Try.func21, Try.ntmps21
  go_wp2_with (first | ((with_reducible refine gate_dst (N := 3) rfl ?_); refine box_event ?hg (N := 3) ?hd (cs := #[.int .i64 1, .int .i64 (a : Int), .int .i64 (c : Int), .slice A 0 cc, .int .i64 t, .int .i64 n, .int .i64 o]) (t := 24) ?hr ?_; (case hd => rfl); (case hg => rfl); (case hr => first | (go_simp; done) | (go_simp; rfl)); intro q hg w1 hbox HBc; have NS_q : Aside0 (∀ k, Fp g R k → k ≠ q) := ⟨fun k hk e => by have := SL.out.lt k hk; omega⟩; have RG_q : Aside0 (w.heap.size ≤ q) := ⟨Nat.le_trans XT.out.size (Nat.le_of_eq hg.symm)⟩; clear hg; have SLn : Aside0 (IsSlv 51 w1 g R (X)) := ⟨SL.out.below HBc⟩; have XTn : Aside0 (Ext (Fp g R) w w1) := ⟨XT.out.stepB HBc⟩; have HVn : Aside0 (Ever (Fp g R) w1 (fun W => Kd.C (Kd.int .i64) W A v.length v)) := ⟨HV.out.step (.of_below HBc)⟩; clear SL XT HV; have SL := SLn; have XT := XTn; have HV := HVn; clear SLn XTn HVn; have BK_q : Aside0 (w1.heap[q]? = some (.cells #[.int .i64 1, .int .i64 (a : Int), .int .i64 (c : Int), .slice A 0 cc, .int .i64 t, .int .i64 n, .int .i64 o] 24 (0, 0))) := ⟨hbox⟩; clear hbox HBc; have lc1_0 : w1.cell? ⟨q, 0, none⟩ = some (.int .i64 1) := (blk_cell BK_q.out 0).trans rfl; have lf1_0 := blk_frozen BK_q.out 0; have lc1_1 : w1.cell? ⟨q, 1, none⟩ = some (.int .i64 (a : Int)) := (blk_cell BK_q.out 1).trans rfl; have lf1_1 := blk_frozen BK_q.out 1; have lc1_2 : w1.cell? ⟨q, 2, none⟩ = some (.int .i64 (c : Int)) := (blk_cell BK_q.out 2).trans rfl; have lf1_2 := blk_frozen BK_q.out 2; have lc1_3 : w1.cell? ⟨q, 3, none⟩ = some (.slice A 0 cc) := (blk_cell BK_q.out 3).trans rfl; have lf1_3 := blk_frozen BK_q.out 3; have lc1_4 : w1.cell? ⟨q, 4, none⟩ = some (.int .i64 t) := (blk_cell BK_q.out 4).trans rfl; have lf1_4 := blk_frozen BK_q.out 4; have lc1_5 : w1.cell? ⟨q, 5, none⟩ = some (.int .i64 n) := (blk_cell BK_q.out 5).trans rfl; have lf1_5 := blk_frozen BK_q.out 5; have lc1_6 : w1.cell? ⟨q, 6, none⟩ = some (.int .i64 o) := (blk_cell BK_q.out 6).trans rfl; have lf1_6 := blk_frozen BK_q.out 6) | ((with_reducible refine gate_dst (N := 4) rfl ?_); refine box_event ?hg (N := 4) ?hd (cs := #[.slice none 0 0, .int .i64 0]) (t := 30) ?hr ?_; (case hd => rfl); (case hg => rfl); (case hr => first | (go_simp; done) | (go_simp; rfl)); intro z hg w2 hbox HBc; have NS_z : Aside0 (∀ k, Fp g R k → k ≠ z) := ⟨fun k hk e => by have := SL.out.lt k hk; omega⟩; have RG_z : Aside0 (w.heap.size ≤ z) := ⟨Nat.le_trans XT.out.size (Nat.le_of_eq hg.symm)⟩; have NE_q_z : Aside0 (q ≠ z) := ⟨ne_born (blk_lt BK_q.out) hg⟩; clear hg; have BK_qn : Aside0 (w2.heap[q]? = some (.cells #[.int .i64 1, .int .i64 (a : Int), .int .i64 (c : Int), .slice A 0 cc, .int .i64 t, .int .i64 n, .int .i64 o] 24 (0, 0))) := ⟨blk_below BK_q.out HBc⟩; have SLn : Aside0 (IsSlv 51 w2 g R (X)) := ⟨SL.out.below HBc⟩; have XTn : Aside0 (Ext (Fp g R) w w2) := ⟨XT.out.stepB HBc⟩; have HVn : Aside0 (Ever (Fp g R) w2 (fun W => Kd.C (Kd.int .i64) W A v.length v)) := ⟨HV.out.step (.of_below HBc)⟩; clear BK_q SL XT HV; have BK_q := BK_qn; have SL := SLn; have XT := XTn; have HV := HVn; clear BK_qn SLn XTn HVn; have BK_z : Aside0 (w2.heap[z]? = some (.cells #[.slice none 0 0, .int .i64 0] 30 (0, 0))) := ⟨hbox⟩; clear hbox HBc; have lc2_0 : w2.cell? ⟨q, 0, none⟩ = some (.int .i64 1) := (blk_cell BK_q.out 0).trans rfl; have lf2_0 := blk_frozen BK_q.out 0; have lc2_1 : w2.cell? ⟨q, 1, none⟩ = some (.int .i64 (a : Int)) := (blk_cell BK_q.out 1).trans rfl; have lf2_1 := blk_frozen BK_q.out 1; have lc2_2 : w2.cell? ⟨q, 2, none⟩ = some (.int .i64 (c : Int)) := (blk_cell BK_q.out 2).trans rfl; have lf2_2 := blk_frozen BK_q.out 2; have lc2_3 : w2.cell? ⟨q, 3, none⟩ = some (.slice A 0 cc) := (blk_cell BK_q.out 3).trans rfl; have lf2_3 := blk_frozen BK_q.out 3; have lc2_4 : w2.cell? ⟨q, 4, none⟩ = some (.int .i64 t) := (blk_cell BK_q.out 4).trans rfl; have lf2_4 := blk_frozen BK_q.out 4; have lc2_5 : w2.cell? ⟨q, 5, none⟩ = some (.int .i64 n) := (blk_cell BK_q.out 5).trans rfl; have lf2_5 := blk_frozen BK_q.out 5; have lc2_6 : w2.cell? ⟨q, 6, none⟩ = some (.int .i64 o) := (blk_cell BK_q.out 6).trans rfl; have lf2_6 := blk_frozen BK_q.out 6; have lc3_0 : w2.cell? ⟨z, 0, none⟩ = some (.slice none 0 0) := (blk_cell BK_z.out 0).trans rfl; have lf3_0 := blk_frozen BK_z.out 0; have lc3_1 : w2.cell? ⟨z, 1, none⟩ = some (.int .i64 0) := (blk_cell BK_z.out 1).trans rfl; have lf3_1 := blk_frozen BK_z.out 1) | (go_at_call 25; have _t := tA; refine (rhas_c SL.out _ _ (HD.out _ ?hx)).mono ?_; (case hx => (have hB := HB.out; first | rfl | omega | (simp only [wrap64]; omega))); rintro e w' ⟨rfl, rfl⟩; clear tA _t; have tB := Aside0.mk trivial) | ((with_reducible refine gate_store (p := 4) rfl ?_); refine store_event (w1 := ?_) rfl (p := 4) rfl rfl ?hr ?_; rotate_left; (case hr => go_simp; rfl); intro w4 hw_; obtain ⟨hput, HEc⟩ := put2 hw_ BK_z.out; clear hw_; have BK_qn : Aside0 (w4.heap[q]? = some (.cells #[.int .i64 1, .int .i64 (a : Int), .int .i64 (c : Int), .slice A 0 cc, .int .i64 t, .int .i64 n, .int .i64 o] 24 (0, 0))) := ⟨Ext.blk HEc BK_q.out (NE_q_z.out)⟩; have SLn : Aside0 (IsSlv 51 w4 g R (X)) := ⟨SL.out.ext HEc (fun k hk e => NS_z.out k hk e)⟩; have XTn : Aside0 (Ext (Fp g R) w w4) := ⟨XT.out.step HEc (fun k e => .inr (by rw [show k = z from e]; exact RG_z.out))⟩; clear BK_q SL XT; have BK_q := BK_qn; have SL := SLn; have XT := XTn; clear BK_qn SLn XTn; clear BK_z HV; have BK_z : Aside0 (w4.heap[z]? = some (.cells #[.slice none 0 0, .int .i64 2] 30 (0, 0))) := ⟨hput⟩; have HST := Aside0.mk HEc; clear hput HEc))
  refine bodyPost_ret (results_cell_row rfl _ _ z 30 #[.slice none 0 0, .int .i64 2] (0, 0) _ rfl BK_z.out Try.underlying30 rfl (by kernel_rfl)) rfl ?_
  exact ⟨none, 0, rfl, Nat.le_refl _, SL.out, XT.out, fun M hM => Ever.nil _⟩
set_option maxHeartbeats 4000000 in
set_option maxRecDepth 100000 in
theorem rdo_r0_yes {w : World} {g : Nat} {R : Nat → Nat} {X : Nat → List Int} (h : IsSlv 51 w g R X) {A : Option Addr} {cc : Nat} {v : List Int} (hn : v.length = 0) (hV : Ever (Fp g R) w (fun W => Kd.C (Kd.int .i64) W A v.length v)) {a c : Nat} {t n o : Int} (hb : a ≤ 1000000 ∧ c ≤ 1000000 ∧ 0 < c) (hfit : a + c ≤ (X 0).length) : Calls Try.prog 21 #[.pointer (some ⟨g, 0, none⟩), .agg #[.int .i64 1, .int .i64 (a : Int), .int .i64 (c : Int), .slice A 0 cc, .int .i64 t, .int .i64 n, .int .i64 o]] w fun e w' => ∃ AA cA, e = .returned (.agg #[.slice AA (rdAt (X 0) a c).length cA, .int .i64 0]) ∧ (rdAt (X 0) a c).length ≤ cA ∧ IsSlv 51 w' g R (X) ∧ Ext (Fp g R) w w' ∧ IsAns w w' AA (rdAt (X 0) a c) := by
  have SL : Aside0 (IsSlv 51 w g R (X)) := ⟨h⟩; have XT : Aside0 (Ext (Fp g R) w w) := ⟨Ext.refl _ _⟩; have HV := Aside0.mk hV; have HN := Aside0.mk hn; have tA := Aside0.mk trivial
  have HB := Aside0.mk hb
  have HFIT := Aside0.mk hfit
  have HD : Aside0 (∀ ad : Int, ad = (a : Int) + (c : Int) - 1 → decide (has X 1 ad) = true) := ⟨fun ad e => decide_eq_true (by rw [e]; unfold has; rw [show ((1 : Int) - 1).toNat = 0 from rfl]; omega)⟩
  clear hb hfit
  clear h hV hn
  go_enter Try.func21, Try.ntmps21
  go_wp2_with (first | ((with_reducible refine gate_dst (N := 3) rfl ?_); refine box_event ?hg (N := 3) ?hd (cs := #[.int .i64 1, .int .i64 (a : Int), .int .i64 (c : Int), .slice A 0 cc, .int .i64 t, .int .i64 n, .int .i64 o]) (t := 24) ?hr ?_; (case hd => rfl); (case hg => rfl); (case hr => first | (go_simp; done) | (go_simp; rfl)); intro q hg w1 hbox HBc; have NS_q : Aside0 (∀ k, Fp g R k → k ≠ q) := ⟨fun k hk e => by have := SL.out.lt k hk; omega⟩; have RG_q : Aside0 (w.heap.size ≤ q) := ⟨Nat.le_trans XT.out.size (Nat.le_of_eq hg.symm)⟩; clear hg; have SLn : Aside0 (IsSlv 51 w1 g R (X)) := ⟨SL.out.below HBc⟩; have XTn : Aside0 (Ext (Fp g R) w w1) := ⟨XT.out.stepB HBc⟩; have HVn : Aside0 (Ever (Fp g R) w1 (fun W => Kd.C (Kd.int .i64) W A v.length v)) := ⟨HV.out.step (.of_below HBc)⟩; clear SL XT HV; have SL := SLn; have XT := XTn; have HV := HVn; clear SLn XTn HVn; have BK_q : Aside0 (w1.heap[q]? = some (.cells #[.int .i64 1, .int .i64 (a : Int), .int .i64 (c : Int), .slice A 0 cc, .int .i64 t, .int .i64 n, .int .i64 o] 24 (0, 0))) := ⟨hbox⟩; clear hbox HBc; have lc1_0 : w1.cell? ⟨q, 0, none⟩ = some (.int .i64 1) := (blk_cell BK_q.out 0).trans rfl; have lf1_0 := blk_frozen BK_q.out 0; have lc1_1 : w1.cell? ⟨q, 1, none⟩ = some (.int .i64 (a : Int)) := (blk_cell BK_q.out 1).trans rfl; have lf1_1 := blk_frozen BK_q.out 1; have lc1_2 : w1.cell? ⟨q, 2, none⟩ = some (.int .i64 (c : Int)) := (blk_cell BK_q.out 2).trans rfl; have lf1_2 := blk_frozen BK_q.out 2; have lc1_3 : w1.cell? ⟨q, 3, none⟩ = some (.slice A 0 cc) := (blk_cell BK_q.out 3).trans rfl; have lf1_3 := blk_frozen BK_q.out 3; have lc1_4 : w1.cell? ⟨q, 4, none⟩ = some (.int .i64 t) := (blk_cell BK_q.out 4).trans rfl; have lf1_4 := blk_frozen BK_q.out 4; have lc1_5 : w1.cell? ⟨q, 5, none⟩ = some (.int .i64 n) := (blk_cell BK_q.out 5).trans rfl; have lf1_5 := blk_frozen BK_q.out 5; have lc1_6 : w1.cell? ⟨q, 6, none⟩ = some (.int .i64 o) := (blk_cell BK_q.out 6).trans rfl; have lf1_6 := blk_frozen BK_q.out 6) | ((with_reducible refine gate_dst (N := 4) rfl ?_); refine box_event ?hg (N := 4) ?hd (cs := #[.slice none 0 0, .int .i64 0]) (t := 30) ?hr ?_; (case hd => rfl); (case hg => rfl); (case hr => first | (go_simp; done) | (go_simp; rfl)); intro z hg w2 hbox HBc; have NS_z : Aside0 (∀ k, Fp g R k → k ≠ z) := ⟨fun k hk e => by have := SL.out.lt k hk; omega⟩; have RG_z : Aside0 (w.heap.size ≤ z) := ⟨Nat.le_trans XT.out.size (Nat.le_of_eq hg.symm)⟩; have NE_q_z : Aside0 (q ≠ z) := ⟨ne_born (blk_lt BK_q.out) hg⟩; clear hg; have BK_qn : Aside0 (w2.heap[q]? = some (.cells #[.int .i64 1, .int .i64 (a : Int), .int .i64 (c : Int), .slice A 0 cc, .int .i64 t, .int .i64 n, .int .i64 o] 24 (0, 0))) := ⟨blk_below BK_q.out HBc⟩; have SLn : Aside0 (IsSlv 51 w2 g R (X)) := ⟨SL.out.below HBc⟩; have XTn : Aside0 (Ext (Fp g R) w w2) := ⟨XT.out.stepB HBc⟩; have HVn : Aside0 (Ever (Fp g R) w2 (fun W => Kd.C (Kd.int .i64) W A v.length v)) := ⟨HV.out.step (.of_below HBc)⟩; clear BK_q SL XT HV; have BK_q := BK_qn; have SL := SLn; have XT := XTn; have HV := HVn; clear BK_qn SLn XTn HVn; have BK_z : Aside0 (w2.heap[z]? = some (.cells #[.slice none 0 0, .int .i64 0] 30 (0, 0))) := ⟨hbox⟩; clear hbox HBc; have lc2_0 : w2.cell? ⟨q, 0, none⟩ = some (.int .i64 1) := (blk_cell BK_q.out 0).trans rfl; have lf2_0 := blk_frozen BK_q.out 0; have lc2_1 : w2.cell? ⟨q, 1, none⟩ = some (.int .i64 (a : Int)) := (blk_cell BK_q.out 1).trans rfl; have lf2_1 := blk_frozen BK_q.out 1; have lc2_2 : w2.cell? ⟨q, 2, none⟩ = some (.int .i64 (c : Int)) := (blk_cell BK_q.out 2).trans rfl; have lf2_2 := blk_frozen BK_q.out 2; have lc2_3 : w2.cell? ⟨q, 3, none⟩ = some (.slice A 0 cc) := (blk_cell BK_q.out 3).trans rfl; have lf2_3 := blk_frozen BK_q.out 3; have lc2_4 : w2.cell? ⟨q, 4, none⟩ = some (.int .i64 t) := (blk_cell BK_q.out 4).trans rfl; have lf2_4 := blk_frozen BK_q.out 4; have lc2_5 : w2.cell? ⟨q, 5, none⟩ = some (.int .i64 n) := (blk_cell BK_q.out 5).trans rfl; have lf2_5 := blk_frozen BK_q.out 5; have lc2_6 : w2.cell? ⟨q, 6, none⟩ = some (.int .i64 o) := (blk_cell BK_q.out 6).trans rfl; have lf2_6 := blk_frozen BK_q.out 6; have lc3_0 : w2.cell? ⟨z, 0, none⟩ = some (.slice none 0 0) := (blk_cell BK_z.out 0).trans rfl; have lf3_0 := blk_frozen BK_z.out 0; have lc3_1 : w2.cell? ⟨z, 1, none⟩ = some (.int .i64 0) := (blk_cell BK_z.out 1).trans rfl; have lf3_1 := blk_frozen BK_z.out 1) | (go_at_call 25; have _t := tA; refine (rhas_c SL.out _ _ (HD.out _ ?hx)).mono ?_; (case hx => (have hB := HB.out; first | rfl | omega | (simp only [wrap64]; omega))); rintro e w' ⟨rfl, rfl⟩; clear tA _t; have tB := Aside0.mk trivial) | ((with_reducible refine gate_dst (N := 9) rfl ?_); refine box_event ?hg (N := 9) ?hd (cs := #[.slice none 0 0, .int .i64 0]) (t := 30) ?hr ?_; (case hd => rfl); (case hg => rfl); (case hr => first | (go_simp; done) | (go_simp; rfl)); intro y hg w3 hbox HBc; have NS_y : Aside0 (∀ k, Fp g R k → k ≠ y) := ⟨fun k hk e => by have := SL.out.lt k hk; omega⟩; have RG_y : Aside0 (w.heap.size ≤ y) := ⟨Nat.le_trans XT.out.size (Nat.le_of_eq hg.symm)⟩; have NE_q_y : Aside0 (q ≠ y) := ⟨ne_born (blk_lt BK_q.out) hg⟩; have NE_z_y : Aside0 (z ≠ y) := ⟨ne_born (blk_lt BK_z.out) hg⟩; clear hg; have BK_qn : Aside0 (w3.heap[q]? = some (.cells #[.int .i64 1, .int .i64 (a : Int), .int .i64 (c : Int), .slice A 0 cc, .int .i64 t, .int .i64 n, .int .i64 o] 24 (0, 0))) := ⟨blk_below BK_q.out HBc⟩; have BK_zn : Aside0 (w3.heap[z]? = some (.cells #[.slice none 0 0, .int .i64 0] 30 (0, 0))) := ⟨blk_below BK_z.out HBc⟩; have SLn : Aside0 (IsSlv 51 w3 g R (X)) := ⟨SL.out.below HBc⟩; have XTn : Aside0 (Ext (Fp g R) w w3) := ⟨XT.out.stepB HBc⟩; have HVn : Aside0 (Ever (Fp g R) w3 (fun W => Kd.C (Kd.int .i64) W A v.length v)) := ⟨HV.out.step (.of_below HBc)⟩; clear BK_q BK_z SL XT HV; have BK_q := BK_qn; have BK_z := BK_zn; have SL := SLn; have XT := XTn; have HV := HVn; clear BK_qn BK_zn SLn XTn HVn; have BK_y : Aside0 (w3.heap[y]? = some (.cells #[.slice none 0 0, .int .i64 0] 30 (0, 0))) := ⟨hbox⟩; clear hbox HBc; have lc4_0 : w3.cell? ⟨q, 0, none⟩ = some (.int .i64 1) := (blk_cell BK_q.out 0).trans rfl; have lf4_0 := blk_frozen BK_q.out 0; have lc4_1 : w3.cell? ⟨q, 1, none⟩ = some (.int .i64 (a : Int)) := (blk_cell BK_q.out 1).trans rfl; have lf4_1 := blk_frozen BK_q.out 1; have lc4_2 : w3.cell? ⟨q, 2, none⟩ = some (.int .i64 (c : Int)) := (blk_cell BK_q.out 2).trans rfl; have lf4_2 := blk_frozen BK_q.out 2; have lc4_3 : w3.cell? ⟨q, 3, none⟩ = some (.slice A 0 cc) := (blk_cell BK_q.out 3).trans rfl; have lf4_3 := blk_frozen BK_q.out 3; have lc4_4 : w3.cell? ⟨q, 4, none⟩ = some (.int .i64 t) := (blk_cell BK_q.out 4).trans rfl; have lf4_4 := blk_frozen BK_q.out 4; have lc4_5 : w3.cell? ⟨q, 5, none⟩ = some (.int .i64 n) := (blk_cell BK_q.out 5).trans rfl; have lf4_5 := blk_frozen BK_q.out 5; have lc4_6 : w3.cell? ⟨q, 6, none⟩ = some (.int .i64 o) := (blk_cell BK_q.out 6).trans rfl; have lf4_6 := blk_frozen BK_q.out 6; have lc5_0 : w3.cell? ⟨z, 0, none⟩ = some (.slice none 0 0) := (blk_cell BK_z.out 0).trans rfl; have lf5_0 := blk_frozen BK_z.out 0; have lc5_1 : w3.cell? ⟨z, 1, none⟩ = some (.int .i64 0) := (blk_cell BK_z.out 1).trans rfl; have lf5_1 := blk_frozen BK_z.out 1; have lc6_0 : w3.cell? ⟨y, 0, none⟩ = some (.slice none 0 0) := (blk_cell BK_y.out 0).trans rfl; have lf6_0 := blk_frozen BK_y.out 0; have lc6_1 : w3.cell? ⟨y, 1, none⟩ = some (.int .i64 0) := (blk_cell BK_y.out 1).trans rfl; have lf6_1 := blk_frozen BK_y.out 1))
  have HSZ : Aside0 (w.heap.size ≤ w3.heap.size ∧ z < w3.heap.size) := ⟨⟨XT.out.size, blk_lt BK_z.out⟩⟩
  obtain ⟨xs, hxs⟩ : ∃ xs, (X) 0 = xs := ⟨_, rfl⟩; have HXS := Aside0.mk hxs
  obtain ⟨r, hr⟩ : ∃ r, R 0 = r := ⟨_, rfl⟩; have HR := Aside0.mk hr
  obtain ⟨L, hL⟩ : ∃ L, xs.length = L := ⟨_, rfl⟩; have HL := Aside0.mk hL
  have HFX : Aside0 (a + c ≤ L) := ⟨by rw [← hL, ← hxs]; exact HFIT.out⟩; have HLB : Aside0 (L ≤ 65536) := ⟨by rw [← hL, ← hxs]; exact SL.out.len 0 (by omega)⟩
  have HROW : Aside0 (w3.heap[r]? = some (.cells (xs.map (Value.int .i64)).toArray 3 (0, 0))) := ⟨by have h1 := SL.out.row 0 (by omega); rw [hr, hxs] at h1; exact h1⟩
  have HGC : Aside0 (w3.cell? ⟨g, 0, none⟩ = some (.slice (some ⟨r, 0, none⟩) L L)) := ⟨by have h1 := SL.out.cell (k := 0) (by omega); unfold sl at h1; rw [hr, hxs, hL] at h1; exact h1⟩
  have HLTS : Aside0 (y < w3.heap.size ∧ q < w3.heap.size ∧ g < w3.heap.size ∧ r < w3.heap.size) := ⟨⟨blk_lt BK_y.out, blk_lt BK_q.out, blk_lt SL.out.blk, blk_lt HROW.out⟩⟩
  have NGY : Aside0 (g ≠ y ∧ r ≠ y) := ⟨⟨NS_y.out g (.inl rfl), NS_y.out r (.inr ⟨0, by omega, hr.symm⟩)⟩⟩
  clear hxs hr hL
  go_loopw [10] (fun u wr => ∃ k : Nat, k ≤ c ∧ u = .int .i64 k ∧ Aside0 (∃ vv, wr.heap[y]? = some (.cells #[vv, .int .i64 0] 30 (0, 0)) ∧ Kd.R (Kd.int .i64) 3 wr w3.heap.size (fun _ => True) vv ((rdAt xs a c).take k)) ∧ Aside0 (Ext (fun k => k = y) w3 wr)) (fun u _ => c - (intOf u).toNat)
  case atStart => exact ⟨0, by omega, rfl, ⟨_, BK_y.out, Kd.R_nil _ _ _ _ _⟩, ⟨Ext.refl _ _⟩⟩
  case round =>
    obtain ⟨k, hk, rfl, HV2, HE⟩ := hrel
    obtain ⟨vv, hby, hRv⟩ := HV2.out
    clear HV2
    have BY := Aside0.mk hby; have HRV := Aside0.mk hRv; clear hby hRv
    have BQ : Aside0 (wr.heap[q]? = some (.cells #[.int .i64 1, .int .i64 (a : Int), .int .i64 (c : Int), .slice A 0 cc, .int .i64 t, .int .i64 n, .int .i64 o] 24 (0, 0))) := ⟨Ext.blk HE.out BK_q.out NE_q_y.out⟩
    have lq0 : wr.cell? ⟨q, 0, none⟩ = some (.int .i64 1) := (blk_cell BQ.out 0).trans rfl; have lqf0 := blk_frozen BQ.out 0
    have lq1 : wr.cell? ⟨q, 1, none⟩ = some (.int .i64 (a : Int)) := (blk_cell BQ.out 1).trans rfl; have lqf1 := blk_frozen BQ.out 1
    have lq2 : wr.cell? ⟨q, 2, none⟩ = some (.int .i64 (c : Int)) := (blk_cell BQ.out 2).trans rfl; have lqf2 := blk_frozen BQ.out 2
    have lq3 : wr.cell? ⟨q, 3, none⟩ = some (.slice A 0 cc) := (blk_cell BQ.out 3).trans rfl; have lqf3 := blk_frozen BQ.out 3
    have lq4 : wr.cell? ⟨q, 4, none⟩ = some (.int .i64 t) := (blk_cell BQ.out 4).trans rfl; have lqf4 := blk_frozen BQ.out 4
    have lq5 : wr.cell? ⟨q, 5, none⟩ = some (.int .i64 n) := (blk_cell BQ.out 5).trans rfl; have lqf5 := blk_frozen BQ.out 5
    have lq6 : wr.cell? ⟨q, 6, none⟩ = some (.int .i64 o) := (blk_cell BQ.out 6).trans rfl; have lqf6 := blk_frozen BQ.out 6
    by_cases hlt : k < c
    · have t1 : decide (k < c) = true := decide_eq_true hlt
      have t2 : decide ((k : Int) < (c : Int)) = true := decide_eq_true (by omega)
      have HKC : Aside0 (k < c) := ⟨hlt⟩
      obtain ⟨p, hp⟩ : ∃ p, a + k = p := ⟨_, rfl⟩; have hpL : p < L := (by have := HFX.out; omega); have HP := Aside0.mk hp
      have hp0 := eq_true (show (0 : Int) ≤ (p : Int) by omega); have hp1 := eq_true (show (p : Int) < (L : Int) by omega); have hp2 := eq_true hpL
      have HWP : Aside0 (wrap64 ((a : Int) + (k : Int)) = (p : Int)) := ⟨by have := HLB.out; rw [wrap64_of (by omega) (by omega)]; omega⟩
      have hc0 : Aside0 (w3.cell? ⟨r, p, none⟩ = some (.int .i64 (xs.getD p 0))) := ⟨row_cell HROW.out (by rw [HL.out]; exact hpL)⟩
      obtain ⟨x, hx⟩ : ∃ x, xs.getD p 0 = x := ⟨_, rfl⟩; rw [hx] at hc0; have HX := Aside0.mk hx; clear hx hp hlt
      have HK : Aside0 (∀ W, Below w3.heap.size wr W → ((W.cell? ⟨y, 0, none⟩ = some vv ∧ W.cell? ⟨q, 1, none⟩ = some (.int .i64 a)) ∧ (W.cell? ⟨g, 0, none⟩ = some (.slice (some ⟨r, 0, none⟩) L L) ∧ W.cell? ⟨r, p, none⟩ = some (.int .i64 x))) ∧ W.frozen? ⟨y, 0, none⟩ = false) := ⟨fun W hB => ⟨⟨⟨(hB.cell (p := ⟨y, 0, none⟩) HLTS.out.1).trans ((blk_cell BY.out 0).trans rfl), (hB.cell (p := ⟨q, 1, none⟩) HLTS.out.2.1).trans ((blk_cell BQ.out 1).trans rfl)⟩, (hB.cell (p := ⟨g, 0, none⟩) HLTS.out.2.2.1).trans ((HE.out.cellb HLTS.out.2.2.1 NGY.out.1).trans HGC.out), (hB.cell (p := ⟨r, p, none⟩) HLTS.out.2.2.2).trans ((HE.out.cellb HLTS.out.2.2.2 NGY.out.2).trans hc0.out)⟩, (hB.frozen (p := ⟨y, 0, none⟩) HLTS.out.1).trans (blk_frozen BY.out 0)⟩⟩
      have HSW : Aside0 (w3.heap.size ≤ wr.heap.size) := ⟨HE.out.size⟩
      have HW1 : Aside0 (wrap64 ((k : Int) + 1) = (k : Int) + 1) := ⟨wrap64_of (by omega) (by have := HB.out; omega)⟩
      have HBR : Aside0 (Below w3.heap.size wr wr) := ⟨Below.refl _ _⟩
      go_upto_region 29 with (fail)
      refine start_ (n := 19) (S := fun W => ((W.cell? ⟨y, 0, none⟩ = some vv ∧ W.cell? ⟨q, 1, none⟩ = some (.int .i64 a)) ∧ (W.cell? ⟨g, 0, none⟩ = some (.slice (some ⟨r, 0, none⟩) L L) ∧ W.cell? ⟨r, p, none⟩ = some (.int .i64 x))) ∧ W.frozen? ⟨y, 0, none⟩ = false) (ds := [18]) #[false, false, false, false, false, false, false, false, false, false, false, false, false, false, false, false, false, false, false] (by kernel_rfl) rfl rfl ?_ (fun hHeld => ?_)
      · exact HK.out _ (by repeat (first | (with_reducible first | exact HB9.out | refine below_allocb HSW.out ?_ _ | apply pw_below_drewN | apply below_drew1) | (with_reducible exact HBR.out) | exact HB9.out | exact HBR.out))
      refine pure_ (i := 0) (N := some 96) (v := ?_) (a' := ?_) #[true, false, false, false, false, false, false, false, false, false, false, false, false, false, false, false, false, false, false] rfl rfl (by kernel_rfl) (fun _ _ _ h => h) (Or.inl ⟨by rfl, ?_⟩) ?_ ?_
      rotate_left
      · intro w'
        go_simp
        with_reducible rfl
      rotate_left
      · simp only [Act.put, List.setIfInBounds_toArray, List.set_cons_zero, List.set_cons_succ, i64_w, i32_w, HWP.out, wk1, wk2, wk3, wk4]
        rfl
      refine take_ (i := 1) (N := some 97) (v := ?_) (a' := ?_) #[true, true, false, false, false, false, false, false, false, false, false, false, false, false, false, false, false, false, false] rfl rfl (by kernel_rfl) (fun _ _ _ h => h) (Or.inl ⟨by rfl, ?_⟩) hHeld ?_ ?_
      rotate_left
      · rintro w' ⟨⟨⟨s0, s1⟩, s2, s3⟩, s4⟩
        go_simp
        with_reducible rfl
      rotate_left
      · simp only [Act.put, List.setIfInBounds_toArray, List.set_cons_zero, List.set_cons_succ, i64_w, i32_w, HWP.out, wk1, wk2, wk3, wk4]
        rfl
      refine pure_ (i := 2) (N := some 98) (v := ?_) (a' := ?_) #[true, true, true, false, false, false, false, false, false, false, false, false, false, false, false, false, false, false, false] rfl rfl (by kernel_rfl) (fun _ _ _ h => h) (Or.inl ⟨by rfl, ?_⟩) ?_ ?_
      rotate_left
      · intro w'
        go_simp
        with_reducible rfl
      rotate_left
      · simp only [Act.put, List.setIfInBounds_toArray, List.set_cons_zero, List.set_cons_succ, i64_w, i32_w, HWP.out, wk1, wk2, wk3, wk4]
        rfl
      refine pure_ (i := 3) (N := some 99) (v := ?_) (a' := ?_) #[true, true, true, true, false, false, false, false, false, false, false, false, false, false, false, false, false, false, false] rfl rfl (by kernel_rfl) (fun _ _ _ h => h) (Or.inl ⟨by rfl, ?_⟩) ?_ ?_
      rotate_left
      · intro w'
        go_simp
        with_reducible rfl
      rotate_left
      · simp only [Act.put, List.setIfInBounds_toArray, List.set_cons_zero, List.set_cons_succ, i64_w, i32_w, HWP.out, wk1, wk2, wk3, wk4]
        rfl
      refine pure_ (i := 4) (N := some 100) (v := ?_) (a' := ?_) #[true, true, true, true, true, false, false, false, false, false, false, false, false, false, false, false, false, false, false] rfl rfl (by kernel_rfl) (fun _ _ _ h => h) (Or.inl ⟨by rfl, ?_⟩) ?_ ?_
      rotate_left
      · intro w'
        go_simp
        with_reducible rfl
      rotate_left
      · simp only [Act.put, List.setIfInBounds_toArray, List.set_cons_zero, List.set_cons_succ, i64_w, i32_w, HWP.out, wk1, wk2, wk3, wk4]
        rfl
      refine pure_ (i := 5) (N := some 101) (v := ?_) (a' := ?_) #[true, true, true, true, true, true, false, false, false, false, false, false, false, false, false, false, false, false, false] rfl rfl (by kernel_rfl) (fun _ _ _ h => h) (Or.inl ⟨by rfl, ?_⟩) ?_ ?_
      rotate_left
      · intro w'
        go_simp
        with_reducible rfl
      rotate_left
      · simp only [Act.put, List.setIfInBounds_toArray, List.set_cons_zero, List.set_cons_succ, i64_w, i32_w, HWP.out, wk1, wk2, wk3, wk4]
        rfl
      refine pure_ (i := 6) (N := some 102) (v := ?_) (a' := ?_) #[true, true, true, true, true, true, true, false, false, false, false, false, false, false, false, false, false, false, false] rfl rfl (by kernel_rfl) (fun _ _ _ h => h) (Or.inl ⟨by rfl, ?_⟩) ?_ ?_
      rotate_left
      · intro w'
        go_simp
        with_reducible rfl
      rotate_left
      · simp only [Act.put, List.setIfInBounds_toArray, List.set_cons_zero, List.set_cons_succ, i64_w, i32_w, HWP.out, wk1, wk2, wk3, wk4]
        rfl
      refine take_ (i := 7) (N := some 103) (v := ?_) (a' := ?_) #[true, true, true, true, true, true, true, true, false, false, false, false, false, false, false, false, false, false, false] rfl rfl (by kernel_rfl) (fun _ _ _ h => h) (Or.inl ⟨by rfl, ?_⟩) hHeld ?_ ?_
      rotate_left
      · rintro w' ⟨⟨⟨s0, s1⟩, s2, s3⟩, s4⟩
        go_simp
        with_reducible rfl
      rotate_left
      · simp only [Act.put, List.setIfInBounds_toArray, List.set_cons_zero, List.set_cons_succ, i64_w, i32_w, HWP.out, wk1, wk2, wk3, wk4]
        rfl
      refine take_ (i := 8) (N := some 104) (v := ?_) (a' := ?_) #[true, true, true, true, true, true, true, true, true, false, false, false, false, false, false, false, false, false, false] rfl rfl (by kernel_rfl) (fun _ _ _ h => h) (Or.inl ⟨by rfl, ?_⟩) hHeld ?_ ?_
      rotate_left
      · rintro w' ⟨⟨⟨s0, s1⟩, s2, s3⟩, s4⟩
        go_simp
        with_reducible rfl
      rotate_left
      · simp only [Act.put, List.setIfInBounds_toArray, List.set_cons_zero, List.set_cons_succ, i64_w, i32_w, HWP.out, wk1, wk2, wk3, wk4]
        rfl
      refine pure_ (i := 9) (N := some 105) (v := ?_) (a' := ?_) #[true, true, true, true, true, true, true, true, true, true, false, false, false, false, false, false, false, false, false] rfl rfl (by kernel_rfl) (fun _ _ _ h => h) (Or.inl ⟨by rfl, ?_⟩) ?_ ?_
      rotate_left
      · intro w'
        go_simp
        with_reducible rfl
      rotate_left
      · simp only [Act.put, List.setIfInBounds_toArray, List.set_cons_zero, List.set_cons_succ, i64_w, i32_w, HWP.out, wk1, wk2, wk3, wk4]
        rfl
      refine take_ (i := 10) (N := some 106) (v := ?_) (a' := ?_) #[true, true, true, true, true, true, true, true, true, true, true, false, false, false, false, false, false, false, false] rfl rfl (by kernel_rfl) (fun _ _ _ h => h) (Or.inl ⟨by rfl, ?_⟩) hHeld ?_ ?_
      rotate_left
      · rintro w' ⟨⟨⟨s0, s1⟩, s2, s3⟩, s4⟩
        go_simp
        with_reducible rfl
      rotate_left
      · simp only [Act.put, List.setIfInBounds_toArray, List.set_cons_zero, List.set_cons_succ, i64_w, i32_w, HWP.out, wk1, wk2, wk3, wk4]
        rfl
      refine pure_ (i := 11) (N := some 107) (v := ?_) (a' := ?_) #[true, true, true, true, true, true, true, true, true, true, true, true, false, false, false, false, false, false, false] rfl rfl (by kernel_rfl) (fun _ _ _ h => h) (Or.inl ⟨by rfl, ?_⟩) ?_ ?_
      rotate_left
      · intro w'
        go_simp
        with_reducible rfl
      rotate_left
      · simp only [Act.put, List.setIfInBounds_toArray, List.set_cons_zero, List.set_cons_succ, i64_w, i32_w, HWP.out, wk1, wk2, wk3, wk4]
        rfl
      refine pure_ (i := 12) (N := some 108) (v := ?_) (a' := ?_) #[true, true, true, true, true, true, true, true, true, true, true, true, true, false, false, false, false, false, false] rfl rfl (by kernel_rfl) (fun _ _ _ h => h) (Or.inl ⟨by rfl, ?_⟩) ?_ ?_
      rotate_left
      · intro w'
        go_simp
        with_reducible rfl
      rotate_left
      · simp only [Act.put, List.setIfInBounds_toArray, List.set_cons_zero, List.set_cons_succ, i64_w, i32_w, HWP.out, wk1, wk2, wk3, wk4]
        rfl
      refine take_ (i := 13) (N := some 109) (v := ?_) (a' := ?_) #[true, true, true, true, true, true, true, true, true, true, true, true, true, true, false, false, false, false, false] rfl rfl (by kernel_rfl) (fun _ _ _ h => h) (Or.inl ⟨by rfl, ?_⟩) hHeld ?_ ?_
      rotate_left
      · rintro w' ⟨⟨⟨s0, s1⟩, s2, s3⟩, s4⟩
        go_simp
        with_reducible rfl
      rotate_left
      · simp only [Act.put, List.setIfInBounds_toArray, List.set_cons_zero, List.set_cons_succ, i64_w, i32_w, HWP.out, wk1, wk2, wk3, wk4]
        rfl
      refine take_ (i := 14) (N := some 110) (v := ?_) (a' := ?_) #[true, true, true, true, true, true, true, true, true, true, true, true, true, true, true, false, false, false, false] rfl rfl (by kernel_rfl) (fun _ _ _ h => h) (Or.inl ⟨by rfl, ?_⟩) hHeld ?_ ?_
      rotate_left
      · rintro w' ⟨⟨⟨s0, s1⟩, s2, s3⟩, s4⟩
        go_simp
        with_reducible rfl
      rotate_left
      · simp only [Act.put, List.setIfInBounds_toArray, List.set_cons_zero, List.set_cons_succ, i64_w, i32_w, HWP.out, wk1, wk2, wk3, wk4]
        rfl
      refine one_ (i := 15) (N := some 111) #[true, true, true, true, true, true, true, true, true, true, true, true, true, true, true, true, false, false, false] rfl rfl (by kernel_rfl) (by decide) (fun K hK => ?_)
      refine value_ (v := ?vv) (w1 := ?ww) (by rfl) rfl ?hr ?kk
      case hr => (go_simp; refine And.intro ?_ ?_ <;> rfl)
      refine hK.out _ _ ?_ (fun hHeld => ?_)
      · exact HK.out _ (by repeat (first | (with_reducible first | exact HB9.out | refine below_allocb HSW.out ?_ _ | apply pw_below_drewN | apply below_drew1) | (with_reducible exact HBR.out) | exact HB9.out | exact HBR.out))
      clear hK K
      refine norm_ (a' := ?_) ?_ ?_
      rotate_left
      · show Act.put _ (some 111) _ = _
        simp only [Act.put, List.setIfInBounds_toArray, List.set_cons_zero, List.set_cons_succ, i64_w, i32_w, HWP.out, wk1, wk2, wk3, wk4]
        rfl
      refine one_ (i := 16) (N := some 112) #[true, true, true, true, true, true, true, true, true, true, true, true, true, true, true, true, true, false, false] rfl rfl (by kernel_rfl) (by decide) (fun K hK => ?_)
      refine Kd.R_append_step (Kd.int .i64) (w0 := wr) (W := wr.drew) w3.heap.size ?aW (.tmp 97) (.tmp 111) 22 3 (.int .i64 0) 8 rfl Try.underlying22 info3 rfl (by decide) (by decide) vv ((rdAt xs a c).take k) x [.int .i64 x] (fun _ => True) (fun _ => False) rfl rfl ?aP (fun _ e => e.elim) (fun _ _ => trivial) ?aO ?aB ?aS ?aL ?_
      case aW => rfl
      case aP => exact rfl
      case aO => (with_reducible repeat (first | apply Kd.R_alloc | apply Kd.R_drewN | apply Kd.R_drew)); exact HRV.out
      case aB => exact (by repeat (first | (with_reducible first | exact HB9.out | refine below_allocb HSW.out ?_ _ | apply pw_below_drewN | apply below_drew1) | (with_reducible exact HBR.out) | exact HB9.out | exact HBR.out))
      case aS => exact Nat.le_trans HE.out.size (by first | exact Nat.le_refl _ | (simp; done) | (simp; omega))
      case aL => (have := HKC.out; have := HFX.out; have := HLB.out; rw [List.length_take]; omega)
      intro v1 w9 HO9 HB9 hg9 hat9
      obtain ⟨A9, c9, e9⟩ := Kd.R_slice HO9
      obtain ⟨m9, hm9⟩ : ∃ m, ((rdAt xs a c).take k ++ [x]).length = m := ⟨_, rfl⟩
      rw [hm9] at e9; subst e9; clear hm9 hg9 hat9
      have HO9 := Aside0.mk HO9; have HB9 := Aside0.mk HB9
      have hy9 := (HK.out _ HB9.out).1.1.1; have hyf9 := (HK.out _ HB9.out).2
      refine hK.out _ _ ?_ (fun hHeld => ?_)
      · exact HK.out _ (by repeat (first | (with_reducible first | exact HB9.out | refine below_allocb HSW.out ?_ _ | apply pw_below_drewN | apply below_drew1) | (with_reducible exact HBR.out) | exact HB9.out | exact HBR.out))
      clear hK K
      refine norm_ (a' := ?_) ?_ ?_
      rotate_left
      · show Act.put _ (some 112) _ = _
        simp only [Act.put, List.setIfInBounds_toArray, List.set_cons_zero, List.set_cons_succ, i64_w, i32_w, HWP.out, wk1, wk2, wk3, wk4]
        rfl
      refine pure_ (i := 17) (N := some 113) (v := ?_) (a' := ?_) #[true, true, true, true, true, true, true, true, true, true, true, true, true, true, true, true, true, true, false] rfl rfl (by kernel_rfl) (fun _ _ _ h => h) (Or.inl ⟨by rfl, ?_⟩) ?_ ?_
      rotate_left
      · intro w'
        go_simp
        with_reducible rfl
      rotate_left
      · simp only [Act.put, List.setIfInBounds_toArray, List.set_cons_zero, List.set_cons_succ, i64_w, i32_w, HWP.out, wk1, wk2, wk3, wk4]
        rfl
      refine last_ (i := 18) (N := none) #[true, true, true, true, true, true, true, true, true, true, true, true, true, true, true, true, true, true, true] rfl rfl (by kernel_rfl) (by decide) (fun K hK => ?_)
      refine skip_ (w1 := ?_) (by rfl) rfl ?_ ?_
      rotate_left
      · go_simp
        rfl
      refine hK.out _ _ ?_
      clear hK K
      refine done_ (by kernel_rfl) ?_
      have BY2 : Aside0 ((w9.setCell ⟨y, 0, none⟩ (.slice A9 m9 c9)).heap[y]? = some (.cells #[(.slice A9 m9 c9), .int .i64 0] 30 (0, 0))) := ⟨blk_put ((HB9.out.block y HLTS.out.1).trans BY.out) 0 (.slice A9 m9 c9) rfl⟩
      have HR2 : Aside0 (Kd.R (Kd.int .i64) 3 (w9.setCell ⟨y, 0, none⟩ (.slice A9 m9 c9)) w3.heap.size (fun _ => True) (.slice A9 m9 c9) ((rdAt xs a c).take (k + 1))) := ⟨by
        have e1 : (rdAt xs a c).take (k + 1) = (rdAt xs a c).take k ++ [x] := by
          have hl : (rdAt xs a c).length = c := rdAt_len (by rw [HL.out]; exact HFX.out)
          have hkc := HKC.out
          rw [List.take_succ_eq_append_getElem (by omega)]
          congr 2
          have hx := HX.out
          have hpp := HP.out
          have hfx := HFX.out; have hll := HL.out
          rw [List.getD_eq_getElem?_getD, List.getElem?_eq_getElem (by omega), Option.getD_some] at hx
          rw [← hx]
          simp only [rdAt, List.getElem_take, List.getElem_drop]
          congr 1
        rw [e1]
        exact Kd.R_mono (Kd.R_move (Kd.R_bound HO9.out) (fun j hj => by
          refine Below.heap_setCell _ _ _ _ ?_
          have := hj.2.1; have := HLTS.out.1
          show j ≠ y
          omega)) (fun _ _ => trivial)⟩
      have HE2 : Aside0 (Ext (fun k => k = y) w3 (w9.setCell ⟨y, 0, none⟩ (.slice A9 m9 c9))) := ⟨(HE.out.grow (M' := fun k => w3.heap.size ≤ k) ⟨HB9.out.os, HB9.out.tape, HB9.out.output, HB9.out.size, fun k hk hn => HB9.out.block k (by omega)⟩ (fun k e => .inr e)).setg _⟩
      clear hy9 hyf9 HRV BY HK HBR HO9 HB9 HE BQ
      clear lq0 lqf0 lq1 lqf1 lq2 lqf2 lq3 lqf3 lq4 lqf4 lq5 lqf5 lq6 lqf6
      go_wp2_with (fail)
      go_roundw
      case rel => exact ⟨k + 1, by have := HKC.out; omega, by rw [HW1.out]; exact congrArg (Value.int .i64) (by omega), ⟨(.slice A9 m9 c9), BY2.out, HR2.out⟩, HE2⟩
      case measure => exact meas HKC.out HW1.out
    · have t1 : decide (k < c) = false := decide_eq_false hlt
      have t2 : decide ((k : Int) < (c : Int)) = false := decide_eq_false (by omega)
      have ek : (rdAt xs a c).take k = rdAt xs a c := List.take_of_length_le (by rw [rdAt_len (by rw [HL.out]; exact HFX.out)]; omega)
      have hRv := HRV.out; rw [ek] at hRv; obtain ⟨AA, cA, rfl⟩ := Kd.R_slice hRv
      have HCA : Aside0 ((rdAt xs a c).length ≤ cA) := ⟨(Kd.R_reads' hRv).2.1⟩
      have HRB := Aside0.mk hRv; clear hRv HRV ek hlt
      have BK_qn : Aside0 (wr.heap[q]? = some (.cells #[.int .i64 1, .int .i64 (a : Int), .int .i64 (c : Int), .slice A 0 cc, .int .i64 t, .int .i64 n, .int .i64 o] 24 (0, 0))) := ⟨BQ.out⟩
      have BK_zn : Aside0 (wr.heap[z]? = some (.cells #[.slice none 0 0, .int .i64 0] 30 (0, 0))) := ⟨Ext.blk HE.out BK_z.out NE_z_y.out⟩
      have BK_yn : Aside0 (wr.heap[y]? = some (.cells #[.slice AA (rdAt xs a c).length cA, .int .i64 0] 30 (0, 0))) := ⟨BY.out⟩
      have SLn : Aside0 (IsSlv 51 wr g R (X)) := ⟨SL.out.ext HE.out (fun k hk e => NS_y.out k hk e)⟩
      have XTn : Aside0 (Ext (Fp g R) w wr) := ⟨XT.out.step HE.out (fun k e => .inr (by rw [show k = y from e]; exact RG_y.out))⟩
      clear BK_y BK_q BK_z SL XT
      have BK_y := BK_yn
      have BK_q := BK_qn
      have BK_z := BK_zn
      have SL := SLn
      have XT := XTn
      clear BK_yn BK_qn BK_zn SLn XTn
      clear BY BQ HV
      clear lq0 lqf0 lq1 lqf1 lq2 lqf2 lq3 lqf3 lq4 lqf4 lq5 lqf5 lq6 lqf6
      have lc7_0 : wr.cell? ⟨q, 0, none⟩ = some (.int .i64 1) := (blk_cell BK_q.out 0).trans rfl; have lf7_0 := blk_frozen BK_q.out 0
      have lc7_1 : wr.cell? ⟨q, 1, none⟩ = some (.int .i64 (a : Int)) := (blk_cell BK_q.out 1).trans rfl; have lf7_1 := blk_frozen BK_q.out 1
      have lc7_2 : wr.cell? ⟨q, 2, none⟩ = some (.int .i64 (c : Int)) := (blk_cell BK_q.out 2).trans rfl; have lf7_2 := blk_frozen BK_q.out 2
      have lc7_3 : wr.cell? ⟨q, 3, none⟩ = some (.slice A 0 cc) := (blk_cell BK_q.out 3).trans rfl; have lf7_3 := blk_frozen BK_q.out 3
      have lc7_4 : wr.cell? ⟨q, 4, none⟩ = some (.int .i64 t) := (blk_cell BK_q.out 4).trans rfl; have lf7_4 := blk_frozen BK_q.out 4
      have lc7_5 : wr.cell? ⟨q, 5, none⟩ = some (.int .i64 n) := (blk_cell BK_q.out 5).trans rfl; have lf7_5 := blk_frozen BK_q.out 5
      have lc7_6 : wr.cell? ⟨q, 6, none⟩ = some (.int .i64 o) := (blk_cell BK_q.out 6).trans rfl; have lf7_6 := blk_frozen BK_q.out 6
      have lc8_0 : wr.cell? ⟨z, 0, none⟩ = some (.slice none 0 0) := (blk_cell BK_z.out 0).trans rfl; have lf8_0 := blk_frozen BK_z.out 0
      have lc8_1 : wr.cell? ⟨z, 1, none⟩ = some (.int .i64 0) := (blk_cell BK_z.out 1).trans rfl; have lf8_1 := blk_frozen BK_z.out 1
      have lc9_0 : wr.cell? ⟨y, 0, none⟩ = some (.slice AA (rdAt xs a c).length cA) := (blk_cell BK_y.out 0).trans rfl; have lf9_0 := blk_frozen BK_y.out 0
      have lc9_1 : wr.cell? ⟨y, 1, none⟩ = some (.int .i64 0) := (blk_cell BK_y.out 1).trans rfl; have lf9_1 := blk_frozen BK_y.out 1
      go_wp2_with (first | ((with_reducible refine gate_store (p := 4) rfl ?_); refine store_event (w1 := ?_) rfl (p := 4) rfl rfl ?hr ?_; rotate_left; (case hr => go_simp; rfl); intro w5 hw_; obtain ⟨hput, HEc⟩ := put2 hw_ BK_z.out; clear hw_; have BK_qn : Aside0 (w5.heap[q]? = some (.cells #[.int .i64 1, .int .i64 (a : Int), .int .i64 (c : Int), .slice A 0 cc, .int .i64 t, .int .i64 n, .int .i64 o] 24 (0, 0))) := ⟨Ext.blk HEc BK_q.out (NE_q_z.out)⟩; have BK_yn : Aside0 (w5.heap[y]? = some (.cells #[.slice AA (rdAt xs a c).length cA, .int .i64 0] 30 (0, 0))) := ⟨Ext.blk HEc BK_y.out (fun e => NE_z_y.out e.symm)⟩; have SLn : Aside0 (IsSlv 51 w5 g R (X)) := ⟨SL.out.ext HEc (fun k hk e => NS_z.out k hk e)⟩; have XTn : Aside0 (Ext (Fp g R) w w5) := ⟨XT.out.step HEc (fun k e => .inr (by rw [show k = z from e]; exact RG_z.out))⟩; clear BK_q BK_y SL XT; have BK_q := BK_qn; have BK_y := BK_yn; have SL := SLn; have XT := XTn; clear BK_qn BK_yn SLn XTn; clear BK_z; have BK_z : Aside0 (w5.heap[z]? = some (.cells #[.slice AA (rdAt xs a c).length cA, .int .i64 0] 30 (0, 0))) := ⟨hput⟩; have HST := Aside0.mk HEc; clear hput HEc))
      refine bodyPost_ret (results_cell_row rfl _ _ z 30 #[.slice AA (rdAt xs a c).length cA, .int .i64 0] (0, 0) _ rfl BK_z.out Try.underlying30 rfl (by kernel_rfl)) rfl ?_
      rw [HXS.out]
      refine ⟨AA, cA, rfl, HCA.out, SL.out, XT.out, fun M hM => ?_⟩
      have hEv := Ever.R (M := fun k => M k ∨ k = z) HRB.out (fun k hk => by rcases hk with hk | hk; exact Nat.lt_of_lt_of_le (hM k hk) HSZ.out.1; rw [hk]; exact HSZ.out.2)
      exact hEv.grow (HST.out.sub (fun k e => .inr e)) (fun k hk => .inl (.inl hk))
set_option maxHeartbeats 4000000 in
set_option maxRecDepth 100000 in
theorem rdo_r1_no {w : World} {g : Nat} {R : Nat → Nat} {X : Nat → List Int} (h : IsSlv 51 w g R X) {A : Option Addr} {cc : Nat} {v : List Int} (hn : v.length = 0) (hV : Ever (Fp g R) w (fun W => Kd.C (Kd.int .i64) W A v.length v)) {a c : Nat} {t n o : Int} (hb : a ≤ 1000000 ∧ c ≤ 1000000 ∧ 0 < c) (hlt : (X 1).length < a + c) : Calls Try.prog 21 #[.pointer (some ⟨g, 0, none⟩), .agg #[.int .i64 2, .int .i64 (a : Int), .int .i64 (c : Int), .slice A 0 cc, .int .i64 t, .int .i64 n, .int .i64 o]] w fun e w' => ∃ AA cA, e = .returned (.agg #[.slice AA (([] : List Int)).length cA, .int .i64 2]) ∧ (([] : List Int)).length ≤ cA ∧ IsSlv 51 w' g R (X) ∧ Ext (Fp g R) w w' ∧ IsAns w w' AA (([] : List Int)) := by
  have SL : Aside0 (IsSlv 51 w g R (X)) := ⟨h⟩; have XT : Aside0 (Ext (Fp g R) w w) := ⟨Ext.refl _ _⟩; have HV := Aside0.mk hV; have HN := Aside0.mk hn; have tA := Aside0.mk trivial
  have HB := Aside0.mk hb
  have HD : Aside0 (∀ ad : Int, ad = (a : Int) + (c : Int) - 1 → decide (has X 2 ad) = false) := ⟨fun ad e => decide_eq_false (by rw [e]; unfold has; rw [show ((2 : Int) - 1).toNat = 1 from rfl]; omega)⟩
  clear hb hlt
  clear h hV hn
  go_enter Try.func21, Try.ntmps21
  go_wp2_with (first | ((with_reducible refine gate_dst (N := 3) rfl ?_); refine box_event ?hg (N := 3) ?hd (cs := #[.int .i64 2, .int .i64 (a : Int), .int .i64 (c : Int), .slice A 0 cc, .int .i64 t, .int .i64 n, .int .i64 o]) (t := 24) ?hr ?_; (case hd => rfl); (case hg => rfl); (case hr => first | (go_simp; done) | (go_simp; rfl)); intro q hg w1 hbox HBc; have NS_q : Aside0 (∀ k, Fp g R k → k ≠ q) := ⟨fun k hk e => by have := SL.out.lt k hk; omega⟩; have RG_q : Aside0 (w.heap.size ≤ q) := ⟨Nat.le_trans XT.out.size (Nat.le_of_eq hg.symm)⟩; clear hg; have SLn : Aside0 (IsSlv 51 w1 g R (X)) := ⟨SL.out.below HBc⟩; have XTn : Aside0 (Ext (Fp g R) w w1) := ⟨XT.out.stepB HBc⟩; have HVn : Aside0 (Ever (Fp g R) w1 (fun W => Kd.C (Kd.int .i64) W A v.length v)) := ⟨HV.out.step (.of_below HBc)⟩; clear SL XT HV; have SL := SLn; have XT := XTn; have HV := HVn; clear SLn XTn HVn; have BK_q : Aside0 (w1.heap[q]? = some (.cells #[.int .i64 2, .int .i64 (a : Int), .int .i64 (c : Int), .slice A 0 cc, .int .i64 t, .int .i64 n, .int .i64 o] 24 (0, 0))) := ⟨hbox⟩; clear hbox HBc; have lc1_0 : w1.cell? ⟨q, 0, none⟩ = some (.int .i64 2) := (blk_cell BK_q.out 0).trans rfl; have lf1_0 := blk_frozen BK_q.out 0; have lc1_1 : w1.cell? ⟨q, 1, none⟩ = some (.int .i64 (a : Int)) := (blk_cell BK_q.out 1).trans rfl; have lf1_1 := blk_frozen BK_q.out 1; have lc1_2 : w1.cell? ⟨q, 2, none⟩ = some (.int .i64 (c : Int)) := (blk_cell BK_q.out 2).trans rfl; have lf1_2 := blk_frozen BK_q.out 2; have lc1_3 : w1.cell? ⟨q, 3, none⟩ = some (.slice A 0 cc) := (blk_cell BK_q.out 3).trans rfl; have lf1_3 := blk_frozen BK_q.out 3; have lc1_4 : w1.cell? ⟨q, 4, none⟩ = some (.int .i64 t) := (blk_cell BK_q.out 4).trans rfl; have lf1_4 := blk_frozen BK_q.out 4; have lc1_5 : w1.cell? ⟨q, 5, none⟩ = some (.int .i64 n) := (blk_cell BK_q.out 5).trans rfl; have lf1_5 := blk_frozen BK_q.out 5; have lc1_6 : w1.cell? ⟨q, 6, none⟩ = some (.int .i64 o) := (blk_cell BK_q.out 6).trans rfl; have lf1_6 := blk_frozen BK_q.out 6) | ((with_reducible refine gate_dst (N := 4) rfl ?_); refine box_event ?hg (N := 4) ?hd (cs := #[.slice none 0 0, .int .i64 0]) (t := 30) ?hr ?_; (case hd => rfl); (case hg => rfl); (case hr => first | (go_simp; done) | (go_simp; rfl)); intro z hg w2 hbox HBc; have NS_z : Aside0 (∀ k, Fp g R k → k ≠ z) := ⟨fun k hk e => by have := SL.out.lt k hk; omega⟩; have RG_z : Aside0 (w.heap.size ≤ z) := ⟨Nat.le_trans XT.out.size (Nat.le_of_eq hg.symm)⟩; have NE_q_z : Aside0 (q ≠ z) := ⟨ne_born (blk_lt BK_q.out) hg⟩; clear hg; have BK_qn : Aside0 (w2.heap[q]? = some (.cells #[.int .i64 2, .int .i64 (a : Int), .int .i64 (c : Int), .slice A 0 cc, .int .i64 t, .int .i64 n, .int .i64 o] 24 (0, 0))) := ⟨blk_below BK_q.out HBc⟩; have SLn : Aside0 (IsSlv 51 w2 g R (X)) := ⟨SL.out.below HBc⟩; have XTn : Aside0 (Ext (Fp g R) w w2) := ⟨XT.out.stepB HBc⟩; have HVn : Aside0 (Ever (Fp g R) w2 (fun W => Kd.C (Kd.int .i64) W A v.length v)) := ⟨HV.out.step (.of_below HBc)⟩; clear BK_q SL XT HV; have BK_q := BK_qn; have SL := SLn; have XT := XTn; have HV := HVn; clear BK_qn SLn XTn HVn; have BK_z : Aside0 (w2.heap[z]? = some (.cells #[.slice none 0 0, .int .i64 0] 30 (0, 0))) := ⟨hbox⟩; clear hbox HBc; have lc2_0 : w2.cell? ⟨q, 0, none⟩ = some (.int .i64 2) := (blk_cell BK_q.out 0).trans rfl; have lf2_0 := blk_frozen BK_q.out 0; have lc2_1 : w2.cell? ⟨q, 1, none⟩ = some (.int .i64 (a : Int)) := (blk_cell BK_q.out 1).trans rfl; have lf2_1 := blk_frozen BK_q.out 1; have lc2_2 : w2.cell? ⟨q, 2, none⟩ = some (.int .i64 (c : Int)) := (blk_cell BK_q.out 2).trans rfl; have lf2_2 := blk_frozen BK_q.out 2; have lc2_3 : w2.cell? ⟨q, 3, none⟩ = some (.slice A 0 cc) := (blk_cell BK_q.out 3).trans rfl; have lf2_3 := blk_frozen BK_q.out 3; have lc2_4 : w2.cell? ⟨q, 4, none⟩ = some (.int .i64 t) := (blk_cell BK_q.out 4).trans rfl; have lf2_4 := blk_frozen BK_q.out 4; have lc2_5 : w2.cell? ⟨q, 5, none⟩ = some (.int .i64 n) := (blk_cell BK_q.out 5).trans rfl; have lf2_5 := blk_frozen BK_q.out 5; have lc2_6 : w2.cell? ⟨q, 6, none⟩ = some (.int .i64 o) := (blk_cell BK_q.out 6).trans rfl; have lf2_6 := blk_frozen BK_q.out 6; have lc3_0 : w2.cell? ⟨z, 0, none⟩ = some (.slice none 0 0) := (blk_cell BK_z.out 0).trans rfl; have lf3_0 := blk_frozen BK_z.out 0; have lc3_1 : w2.cell? ⟨z, 1, none⟩ = some (.int .i64 0) := (blk_cell BK_z.out 1).trans rfl; have lf3_1 := blk_frozen BK_z.out 1) | (go_at_call 25; have _t := tA; refine (rhas_c SL.out _ _ (HD.out _ ?hx)).mono ?_; (case hx => (have hB := HB.out; first | rfl | omega | (simp only [wrap64]; omega))); rintro e w' ⟨rfl, rfl⟩; clear tA _t; have tB := Aside0.mk trivial) | ((with_reducible refine gate_store (p := 4) rfl ?_); refine store_event (w1 := ?_) rfl (p := 4) rfl rfl ?hr ?_; rotate_left; (case hr => go_simp; rfl); intro w4 hw_; obtain ⟨hput, HEc⟩ := put2 hw_ BK_z.out; clear hw_; have BK_qn : Aside0 (w4.heap[q]? = some (.cells #[.int .i64 2, .int .i64 (a : Int), .int .i64 (c : Int), .slice A 0 cc, .int .i64 t, .int .i64 n, .int .i64 o] 24 (0, 0))) := ⟨Ext.blk HEc BK_q.out (NE_q_z.out)⟩; have SLn : Aside0 (IsSlv 51 w4 g R (X)) := ⟨SL.out.ext HEc (fun k hk e => NS_z.out k hk e)⟩; have XTn : Aside0 (Ext (Fp g R) w w4) := ⟨XT.out.step HEc (fun k e => .inr (by rw [show k = z from e]; exact RG_z.out))⟩; clear BK_q SL XT; have BK_q := BK_qn; have SL := SLn; have XT := XTn; clear BK_qn SLn XTn; clear BK_z HV; have BK_z : Aside0 (w4.heap[z]? = some (.cells #[.slice none 0 0, .int .i64 2] 30 (0, 0))) := ⟨hput⟩; have HST := Aside0.mk HEc; clear hput HEc))
  refine bodyPost_ret (results_cell_row rfl _ _ z 30 #[.slice none 0 0, .int .i64 2] (0, 0) _ rfl BK_z.out Try.underlying30 rfl (by kernel_rfl)) rfl ?_
  exact ⟨none, 0, rfl, Nat.le_refl _, SL.out, XT.out, fun M hM => Ever.nil _⟩
set_option maxHeartbeats 4000000 in
set_option maxRecDepth 100000 in
theorem rdo_r1_yes {w : World} {g : Nat} {R : Nat → Nat} {X : Nat → List Int} (h : IsSlv 51 w g R X) {A : Option Addr} {cc : Nat} {v : List Int} (hn : v.length = 0) (hV : Ever (Fp g R) w (fun W => Kd.C (Kd.int .i64) W A v.length v)) {a c : Nat} {t n o : Int} (hb : a ≤ 1000000 ∧ c ≤ 1000000 ∧ 0 < c) (hfit : a + c ≤ (X 1).length) : Calls Try.prog 21 #[.pointer (some ⟨g, 0, none⟩), .agg #[.int .i64 2, .int .i64 (a : Int), .int .i64 (c : Int), .slice A 0 cc, .int .i64 t, .int .i64 n, .int .i64 o]] w fun e w' => ∃ AA cA, e = .returned (.agg #[.slice AA (rdAt (X 1) a c).length cA, .int .i64 0]) ∧ (rdAt (X 1) a c).length ≤ cA ∧ IsSlv 51 w' g R (X) ∧ Ext (Fp g R) w w' ∧ IsAns w w' AA (rdAt (X 1) a c) := by
  have SL : Aside0 (IsSlv 51 w g R (X)) := ⟨h⟩; have XT : Aside0 (Ext (Fp g R) w w) := ⟨Ext.refl _ _⟩; have HV := Aside0.mk hV; have HN := Aside0.mk hn; have tA := Aside0.mk trivial
  have HB := Aside0.mk hb
  have HFIT := Aside0.mk hfit
  have HD : Aside0 (∀ ad : Int, ad = (a : Int) + (c : Int) - 1 → decide (has X 2 ad) = true) := ⟨fun ad e => decide_eq_true (by rw [e]; unfold has; rw [show ((2 : Int) - 1).toNat = 1 from rfl]; omega)⟩
  clear hb hfit
  clear h hV hn
  go_enter Try.func21, Try.ntmps21
  go_wp2_with (first | ((with_reducible refine gate_dst (N := 3) rfl ?_); refine box_event ?hg (N := 3) ?hd (cs := #[.int .i64 2, .int .i64 (a : Int), .int .i64 (c : Int), .slice A 0 cc, .int .i64 t, .int .i64 n, .int .i64 o]) (t := 24) ?hr ?_; (case hd => rfl); (case hg => rfl); (case hr => first | (go_simp; done) | (go_simp; rfl)); intro q hg w1 hbox HBc; have NS_q : Aside0 (∀ k, Fp g R k → k ≠ q) := ⟨fun k hk e => by have := SL.out.lt k hk; omega⟩; have RG_q : Aside0 (w.heap.size ≤ q) := ⟨Nat.le_trans XT.out.size (Nat.le_of_eq hg.symm)⟩; clear hg; have SLn : Aside0 (IsSlv 51 w1 g R (X)) := ⟨SL.out.below HBc⟩; have XTn : Aside0 (Ext (Fp g R) w w1) := ⟨XT.out.stepB HBc⟩; have HVn : Aside0 (Ever (Fp g R) w1 (fun W => Kd.C (Kd.int .i64) W A v.length v)) := ⟨HV.out.step (.of_below HBc)⟩; clear SL XT HV; have SL := SLn; have XT := XTn; have HV := HVn; clear SLn XTn HVn; have BK_q : Aside0 (w1.heap[q]? = some (.cells #[.int .i64 2, .int .i64 (a : Int), .int .i64 (c : Int), .slice A 0 cc, .int .i64 t, .int .i64 n, .int .i64 o] 24 (0, 0))) := ⟨hbox⟩; clear hbox HBc; have lc1_0 : w1.cell? ⟨q, 0, none⟩ = some (.int .i64 2) := (blk_cell BK_q.out 0).trans rfl; have lf1_0 := blk_frozen BK_q.out 0; have lc1_1 : w1.cell? ⟨q, 1, none⟩ = some (.int .i64 (a : Int)) := (blk_cell BK_q.out 1).trans rfl; have lf1_1 := blk_frozen BK_q.out 1; have lc1_2 : w1.cell? ⟨q, 2, none⟩ = some (.int .i64 (c : Int)) := (blk_cell BK_q.out 2).trans rfl; have lf1_2 := blk_frozen BK_q.out 2; have lc1_3 : w1.cell? ⟨q, 3, none⟩ = some (.slice A 0 cc) := (blk_cell BK_q.out 3).trans rfl; have lf1_3 := blk_frozen BK_q.out 3; have lc1_4 : w1.cell? ⟨q, 4, none⟩ = some (.int .i64 t) := (blk_cell BK_q.out 4).trans rfl; have lf1_4 := blk_frozen BK_q.out 4; have lc1_5 : w1.cell? ⟨q, 5, none⟩ = some (.int .i64 n) := (blk_cell BK_q.out 5).trans rfl; have lf1_5 := blk_frozen BK_q.out 5; have lc1_6 : w1.cell? ⟨q, 6, none⟩ = some (.int .i64 o) := (blk_cell BK_q.out 6).trans rfl; have lf1_6 := blk_frozen BK_q.out 6) | ((with_reducible refine gate_dst (N := 4) rfl ?_); refine box_event ?hg (N := 4) ?hd (cs := #[.slice none 0 0, .int .i64 0]) (t := 30) ?hr ?_; (case hd => rfl); (case hg => rfl); (case hr => first | (go_simp; done) | (go_simp; rfl)); intro z hg w2 hbox HBc; have NS_z : Aside0 (∀ k, Fp g R k → k ≠ z) := ⟨fun k hk e => by have := SL.out.lt k hk; omega⟩; have RG_z : Aside0 (w.heap.size ≤ z) := ⟨Nat.le_trans XT.out.size (Nat.le_of_eq hg.symm)⟩; have NE_q_z : Aside0 (q ≠ z) := ⟨ne_born (blk_lt BK_q.out) hg⟩; clear hg; have BK_qn : Aside0 (w2.heap[q]? = some (.cells #[.int .i64 2, .int .i64 (a : Int), .int .i64 (c : Int), .slice A 0 cc, .int .i64 t, .int .i64 n, .int .i64 o] 24 (0, 0))) := ⟨blk_below BK_q.out HBc⟩; have SLn : Aside0 (IsSlv 51 w2 g R (X)) := ⟨SL.out.below HBc⟩; have XTn : Aside0 (Ext (Fp g R) w w2) := ⟨XT.out.stepB HBc⟩; have HVn : Aside0 (Ever (Fp g R) w2 (fun W => Kd.C (Kd.int .i64) W A v.length v)) := ⟨HV.out.step (.of_below HBc)⟩; clear BK_q SL XT HV; have BK_q := BK_qn; have SL := SLn; have XT := XTn; have HV := HVn; clear BK_qn SLn XTn HVn; have BK_z : Aside0 (w2.heap[z]? = some (.cells #[.slice none 0 0, .int .i64 0] 30 (0, 0))) := ⟨hbox⟩; clear hbox HBc; have lc2_0 : w2.cell? ⟨q, 0, none⟩ = some (.int .i64 2) := (blk_cell BK_q.out 0).trans rfl; have lf2_0 := blk_frozen BK_q.out 0; have lc2_1 : w2.cell? ⟨q, 1, none⟩ = some (.int .i64 (a : Int)) := (blk_cell BK_q.out 1).trans rfl; have lf2_1 := blk_frozen BK_q.out 1; have lc2_2 : w2.cell? ⟨q, 2, none⟩ = some (.int .i64 (c : Int)) := (blk_cell BK_q.out 2).trans rfl; have lf2_2 := blk_frozen BK_q.out 2; have lc2_3 : w2.cell? ⟨q, 3, none⟩ = some (.slice A 0 cc) := (blk_cell BK_q.out 3).trans rfl; have lf2_3 := blk_frozen BK_q.out 3; have lc2_4 : w2.cell? ⟨q, 4, none⟩ = some (.int .i64 t) := (blk_cell BK_q.out 4).trans rfl; have lf2_4 := blk_frozen BK_q.out 4; have lc2_5 : w2.cell? ⟨q, 5, none⟩ = some (.int .i64 n) := (blk_cell BK_q.out 5).trans rfl; have lf2_5 := blk_frozen BK_q.out 5; have lc2_6 : w2.cell? ⟨q, 6, none⟩ = some (.int .i64 o) := (blk_cell BK_q.out 6).trans rfl; have lf2_6 := blk_frozen BK_q.out 6; have lc3_0 : w2.cell? ⟨z, 0, none⟩ = some (.slice none 0 0) := (blk_cell BK_z.out 0).trans rfl; have lf3_0 := blk_frozen BK_z.out 0; have lc3_1 : w2.cell? ⟨z, 1, none⟩ = some (.int .i64 0) := (blk_cell BK_z.out 1).trans rfl; have lf3_1 := blk_frozen BK_z.out 1) | (go_at_call 25; have _t := tA; refine (rhas_c SL.out _ _ (HD.out _ ?hx)).mono ?_; (case hx => (have hB := HB.out; first | rfl | omega | (simp only [wrap64]; omega))); rintro e w' ⟨rfl, rfl⟩; clear tA _t; have tB := Aside0.mk trivial) | ((with_reducible refine gate_dst (N := 9) rfl ?_); refine box_event ?hg (N := 9) ?hd (cs := #[.slice none 0 0, .int .i64 0]) (t := 30) ?hr ?_; (case hd => rfl); (case hg => rfl); (case hr => first | (go_simp; done) | (go_simp; rfl)); intro y hg w3 hbox HBc; have NS_y : Aside0 (∀ k, Fp g R k → k ≠ y) := ⟨fun k hk e => by have := SL.out.lt k hk; omega⟩; have RG_y : Aside0 (w.heap.size ≤ y) := ⟨Nat.le_trans XT.out.size (Nat.le_of_eq hg.symm)⟩; have NE_q_y : Aside0 (q ≠ y) := ⟨ne_born (blk_lt BK_q.out) hg⟩; have NE_z_y : Aside0 (z ≠ y) := ⟨ne_born (blk_lt BK_z.out) hg⟩; clear hg; have BK_qn : Aside0 (w3.heap[q]? = some (.cells #[.int .i64 2, .int .i64 (a : Int), .int .i64 (c : Int), .slice A 0 cc, .int .i64 t, .int .i64 n, .int .i64 o] 24 (0, 0))) := ⟨blk_below BK_q.out HBc⟩; have BK_zn : Aside0 (w3.heap[z]? = some (.cells #[.slice none 0 0, .int .i64 0] 30 (0, 0))) := ⟨blk_below BK_z.out HBc⟩; have SLn : Aside0 (IsSlv 51 w3 g R (X)) := ⟨SL.out.below HBc⟩; have XTn : Aside0 (Ext (Fp g R) w w3) := ⟨XT.out.stepB HBc⟩; have HVn : Aside0 (Ever (Fp g R) w3 (fun W => Kd.C (Kd.int .i64) W A v.length v)) := ⟨HV.out.step (.of_below HBc)⟩; clear BK_q BK_z SL XT HV; have BK_q := BK_qn; have BK_z := BK_zn; have SL := SLn; have XT := XTn; have HV := HVn; clear BK_qn BK_zn SLn XTn HVn; have BK_y : Aside0 (w3.heap[y]? = some (.cells #[.slice none 0 0, .int .i64 0] 30 (0, 0))) := ⟨hbox⟩; clear hbox HBc; have lc4_0 : w3.cell? ⟨q, 0, none⟩ = some (.int .i64 2) := (blk_cell BK_q.out 0).trans rfl; have lf4_0 := blk_frozen BK_q.out 0; have lc4_1 : w3.cell? ⟨q, 1, none⟩ = some (.int .i64 (a : Int)) := (blk_cell BK_q.out 1).trans rfl; have lf4_1 := blk_frozen BK_q.out 1; have lc4_2 : w3.cell? ⟨q, 2, none⟩ = some (.int .i64 (c : Int)) := (blk_cell BK_q.out 2).trans rfl; have lf4_2 := blk_frozen BK_q.out 2; have lc4_3 : w3.cell? ⟨q, 3, none⟩ = some (.slice A 0 cc) := (blk_cell BK_q.out 3).trans rfl; have lf4_3 := blk_frozen BK_q.out 3; have lc4_4 : w3.cell? ⟨q, 4, none⟩ = some (.int .i64 t) := (blk_cell BK_q.out 4).trans rfl; have lf4_4 := blk_frozen BK_q.out 4; have lc4_5 : w3.cell? ⟨q, 5, none⟩ = some (.int .i64 n) := (blk_cell BK_q.out 5).trans rfl; have lf4_5 := blk_frozen BK_q.out 5; have lc4_6 : w3.cell? ⟨q, 6, none⟩ = some (.int .i64 o) := (blk_cell BK_q.out 6).trans rfl; have lf4_6 := blk_frozen BK_q.out 6; have lc5_0 : w3.cell? ⟨z, 0, none⟩ = some (.slice none 0 0) := (blk_cell BK_z.out 0).trans rfl; have lf5_0 := blk_frozen BK_z.out 0; have lc5_1 : w3.cell? ⟨z, 1, none⟩ = some (.int .i64 0) := (blk_cell BK_z.out 1).trans rfl; have lf5_1 := blk_frozen BK_z.out 1; have lc6_0 : w3.cell? ⟨y, 0, none⟩ = some (.slice none 0 0) := (blk_cell BK_y.out 0).trans rfl; have lf6_0 := blk_frozen BK_y.out 0; have lc6_1 : w3.cell? ⟨y, 1, none⟩ = some (.int .i64 0) := (blk_cell BK_y.out 1).trans rfl; have lf6_1 := blk_frozen BK_y.out 1))
  have HSZ : Aside0 (w.heap.size ≤ w3.heap.size ∧ z < w3.heap.size) := ⟨⟨XT.out.size, blk_lt BK_z.out⟩⟩
  obtain ⟨xs, hxs⟩ : ∃ xs, (X) 1 = xs := ⟨_, rfl⟩; have HXS := Aside0.mk hxs
  obtain ⟨r, hr⟩ : ∃ r, R 1 = r := ⟨_, rfl⟩; have HR := Aside0.mk hr
  obtain ⟨L, hL⟩ : ∃ L, xs.length = L := ⟨_, rfl⟩; have HL := Aside0.mk hL
  have HFX : Aside0 (a + c ≤ L) := ⟨by rw [← hL, ← hxs]; exact HFIT.out⟩; have HLB : Aside0 (L ≤ 65536) := ⟨by rw [← hL, ← hxs]; exact SL.out.len 1 (by omega)⟩
  have HROW : Aside0 (w3.heap[r]? = some (.cells (xs.map (Value.int .i64)).toArray 3 (0, 0))) := ⟨by have h1 := SL.out.row 1 (by omega); rw [hr, hxs] at h1; exact h1⟩
  have HGC : Aside0 (w3.cell? ⟨g, 1, none⟩ = some (.slice (some ⟨r, 0, none⟩) L L)) := ⟨by have h1 := SL.out.cell (k := 1) (by omega); unfold sl at h1; rw [hr, hxs, hL] at h1; exact h1⟩
  have HLTS : Aside0 (y < w3.heap.size ∧ q < w3.heap.size ∧ g < w3.heap.size ∧ r < w3.heap.size) := ⟨⟨blk_lt BK_y.out, blk_lt BK_q.out, blk_lt SL.out.blk, blk_lt HROW.out⟩⟩
  have NGY : Aside0 (g ≠ y ∧ r ≠ y) := ⟨⟨NS_y.out g (.inl rfl), NS_y.out r (.inr ⟨1, by omega, hr.symm⟩)⟩⟩
  clear hxs hr hL
  go_loopw [10] (fun u wr => ∃ k : Nat, k ≤ c ∧ u = .int .i64 k ∧ Aside0 (∃ vv, wr.heap[y]? = some (.cells #[vv, .int .i64 0] 30 (0, 0)) ∧ Kd.R (Kd.int .i64) 3 wr w3.heap.size (fun _ => True) vv ((rdAt xs a c).take k)) ∧ Aside0 (Ext (fun k => k = y) w3 wr)) (fun u _ => c - (intOf u).toNat)
  case atStart => exact ⟨0, by omega, rfl, ⟨_, BK_y.out, Kd.R_nil _ _ _ _ _⟩, ⟨Ext.refl _ _⟩⟩
  case round =>
    obtain ⟨k, hk, rfl, HV2, HE⟩ := hrel
    obtain ⟨vv, hby, hRv⟩ := HV2.out
    clear HV2
    have BY := Aside0.mk hby; have HRV := Aside0.mk hRv; clear hby hRv
    have BQ : Aside0 (wr.heap[q]? = some (.cells #[.int .i64 2, .int .i64 (a : Int), .int .i64 (c : Int), .slice A 0 cc, .int .i64 t, .int .i64 n, .int .i64 o] 24 (0, 0))) := ⟨Ext.blk HE.out BK_q.out NE_q_y.out⟩
    have lq0 : wr.cell? ⟨q, 0, none⟩ = some (.int .i64 2) := (blk_cell BQ.out 0).trans rfl; have lqf0 := blk_frozen BQ.out 0
    have lq1 : wr.cell? ⟨q, 1, none⟩ = some (.int .i64 (a : Int)) := (blk_cell BQ.out 1).trans rfl; have lqf1 := blk_frozen BQ.out 1
    have lq2 : wr.cell? ⟨q, 2, none⟩ = some (.int .i64 (c : Int)) := (blk_cell BQ.out 2).trans rfl; have lqf2 := blk_frozen BQ.out 2
    have lq3 : wr.cell? ⟨q, 3, none⟩ = some (.slice A 0 cc) := (blk_cell BQ.out 3).trans rfl; have lqf3 := blk_frozen BQ.out 3
    have lq4 : wr.cell? ⟨q, 4, none⟩ = some (.int .i64 t) := (blk_cell BQ.out 4).trans rfl; have lqf4 := blk_frozen BQ.out 4
    have lq5 : wr.cell? ⟨q, 5, none⟩ = some (.int .i64 n) := (blk_cell BQ.out 5).trans rfl; have lqf5 := blk_frozen BQ.out 5
    have lq6 : wr.cell? ⟨q, 6, none⟩ = some (.int .i64 o) := (blk_cell BQ.out 6).trans rfl; have lqf6 := blk_frozen BQ.out 6
    by_cases hlt : k < c
    · have t1 : decide (k < c) = true := decide_eq_true hlt
      have t2 : decide ((k : Int) < (c : Int)) = true := decide_eq_true (by omega)
      have HKC : Aside0 (k < c) := ⟨hlt⟩
      obtain ⟨p, hp⟩ : ∃ p, a + k = p := ⟨_, rfl⟩; have hpL : p < L := (by have := HFX.out; omega); have HP := Aside0.mk hp
      have hp0 := eq_true (show (0 : Int) ≤ (p : Int) by omega); have hp1 := eq_true (show (p : Int) < (L : Int) by omega); have hp2 := eq_true hpL
      have HWP : Aside0 (wrap64 ((a : Int) + (k : Int)) = (p : Int)) := ⟨by have := HLB.out; rw [wrap64_of (by omega) (by omega)]; omega⟩
      have hc0 : Aside0 (w3.cell? ⟨r, p, none⟩ = some (.int .i64 (xs.getD p 0))) := ⟨row_cell HROW.out (by rw [HL.out]; exact hpL)⟩
      obtain ⟨x, hx⟩ : ∃ x, xs.getD p 0 = x := ⟨_, rfl⟩; rw [hx] at hc0; have HX := Aside0.mk hx; clear hx hp hlt
      have HK : Aside0 (∀ W, Below w3.heap.size wr W → ((W.cell? ⟨y, 0, none⟩ = some vv ∧ W.cell? ⟨q, 1, none⟩ = some (.int .i64 a)) ∧ (W.cell? ⟨g, 1, none⟩ = some (.slice (some ⟨r, 0, none⟩) L L) ∧ W.cell? ⟨r, p, none⟩ = some (.int .i64 x))) ∧ W.frozen? ⟨y, 0, none⟩ = false) := ⟨fun W hB => ⟨⟨⟨(hB.cell (p := ⟨y, 0, none⟩) HLTS.out.1).trans ((blk_cell BY.out 0).trans rfl), (hB.cell (p := ⟨q, 1, none⟩) HLTS.out.2.1).trans ((blk_cell BQ.out 1).trans rfl)⟩, (hB.cell (p := ⟨g, 1, none⟩) HLTS.out.2.2.1).trans ((HE.out.cellb HLTS.out.2.2.1 NGY.out.1).trans HGC.out), (hB.cell (p := ⟨r, p, none⟩) HLTS.out.2.2.2).trans ((HE.out.cellb HLTS.out.2.2.2 NGY.out.2).trans hc0.out)⟩, (hB.frozen (p := ⟨y, 0, none⟩) HLTS.out.1).trans (blk_frozen BY.out 0)⟩⟩
      have HSW : Aside0 (w3.heap.size ≤ wr.heap.size) := ⟨HE.out.size⟩
      have HW1 : Aside0 (wrap64 ((k : Int) + 1) = (k : Int) + 1) := ⟨wrap64_of (by omega) (by have := HB.out; omega)⟩
      have HBR : Aside0 (Below w3.heap.size wr wr) := ⟨Below.refl _ _⟩
      go_upto_region 29 with (fail)
      refine start_ (n := 19) (S := fun W => ((W.cell? ⟨y, 0, none⟩ = some vv ∧ W.cell? ⟨q, 1, none⟩ = some (.int .i64 a)) ∧ (W.cell? ⟨g, 1, none⟩ = some (.slice (some ⟨r, 0, none⟩) L L) ∧ W.cell? ⟨r, p, none⟩ = some (.int .i64 x))) ∧ W.frozen? ⟨y, 0, none⟩ = false) (ds := [18]) #[false, false, false, false, false, false, false, false, false, false, false, false, false, false, false, false, false, false, false] (by kernel_rfl) rfl rfl ?_ (fun hHeld => ?_)
      · exact HK.out _ (by repeat (first | (with_reducible first | exact HB9.out | refine below_allocb HSW.out ?_ _ | apply pw_below_drewN | apply below_drew1) | (with_reducible exact HBR.out) | exact HB9.out | exact HBR.out))
      refine pure_ (i := 0) (N := some 96) (v := ?_) (a' := ?_) #[true, false, false, false, false, false, false, false, false, false, false, false, false, false, false, false, false, false, false] rfl rfl (by kernel_rfl) (fun _ _ _ h => h) (Or.inl ⟨by rfl, ?_⟩) ?_ ?_
      rotate_left
      · intro w'
        go_simp
        with_reducible rfl
      rotate_left
      · simp only [Act.put, List.setIfInBounds_toArray, List.set_cons_zero, List.set_cons_succ, i64_w, i32_w, HWP.out, wk1, wk2, wk3, wk4]
        rfl
      refine take_ (i := 1) (N := some 97) (v := ?_) (a' := ?_) #[true, true, false, false, false, false, false, false, false, false, false, false, false, false, false, false, false, false, false] rfl rfl (by kernel_rfl) (fun _ _ _ h => h) (Or.inl ⟨by rfl, ?_⟩) hHeld ?_ ?_
      rotate_left
      · rintro w' ⟨⟨⟨s0, s1⟩, s2, s3⟩, s4⟩
        go_simp
        with_reducible rfl
      rotate_left
      · simp only [Act.put, List.setIfInBounds_toArray, List.set_cons_zero, List.set_cons_succ, i64_w, i32_w, HWP.out, wk1, wk2, wk3, wk4]
        rfl
      refine pure_ (i := 2) (N := some 98) (v := ?_) (a' := ?_) #[true, true, true, false, false, false, false, false, false, false, false, false, false, false, false, false, false, false, false] rfl rfl (by kernel_rfl) (fun _ _ _ h => h) (Or.inl ⟨by rfl, ?_⟩) ?_ ?_
      rotate_left
      · intro w'
        go_simp
        with_reducible rfl
      rotate_left
      · simp only [Act.put, List.setIfInBounds_toArray, List.set_cons_zero, List.set_cons_succ, i64_w, i32_w, HWP.out, wk1, wk2, wk3, wk4]
        rfl
      refine pure_ (i := 3) (N := some 99) (v := ?_) (a' := ?_) #[true, true, true, true, false, false, false, false, false, false, false, false, false, false, false, false, false, false, false] rfl rfl (by kernel_rfl) (fun _ _ _ h => h) (Or.inl ⟨by rfl, ?_⟩) ?_ ?_
      rotate_left
      · intro w'
        go_simp
        with_reducible rfl
      rotate_left
      · simp only [Act.put, List.setIfInBounds_toArray, List.set_cons_zero, List.set_cons_succ, i64_w, i32_w, HWP.out, wk1, wk2, wk3, wk4]
        rfl
      refine pure_ (i := 4) (N := some 100) (v := ?_) (a' := ?_) #[true, true, true, true, true, false, false, false, false, false, false, false, false, false, false, false, false, false, false] rfl rfl (by kernel_rfl) (fun _ _ _ h => h) (Or.inl ⟨by rfl, ?_⟩) ?_ ?_
      rotate_left
      · intro w'
        go_simp
        with_reducible rfl
      rotate_left
      · simp only [Act.put, List.setIfInBounds_toArray, List.set_cons_zero, List.set_cons_succ, i64_w, i32_w, HWP.out, wk1, wk2, wk3, wk4]
        rfl
      refine pure_ (i := 5) (N := some 101) (v := ?_) (a' := ?_) #[true, true, true, true, true, true, false, false, false, false, false, false, false, false, false, false, false, false, false] rfl rfl (by kernel_rfl) (fun _ _ _ h => h) (Or.inl ⟨by rfl, ?_⟩) ?_ ?_
      rotate_left
      · intro w'
        go_simp
        with_reducible rfl
      rotate_left
      · simp only [Act.put, List.setIfInBounds_toArray, List.set_cons_zero, List.set_cons_succ, i64_w, i32_w, HWP.out, wk1, wk2, wk3, wk4]
        rfl
      refine pure_ (i := 6) (N := some 102) (v := ?_) (a' := ?_) #[true, true, true, true, true, true, true, false, false, false, false, false, false, false, false, false, false, false, false] rfl rfl (by kernel_rfl) (fun _ _ _ h => h) (Or.inl ⟨by rfl, ?_⟩) ?_ ?_
      rotate_left
      · intro w'
        go_simp
        with_reducible rfl
      rotate_left
      · simp only [Act.put, List.setIfInBounds_toArray, List.set_cons_zero, List.set_cons_succ, i64_w, i32_w, HWP.out, wk1, wk2, wk3, wk4]
        rfl
      refine take_ (i := 7) (N := some 103) (v := ?_) (a' := ?_) #[true, true, true, true, true, true, true, true, false, false, false, false, false, false, false, false, false, false, false] rfl rfl (by kernel_rfl) (fun _ _ _ h => h) (Or.inl ⟨by rfl, ?_⟩) hHeld ?_ ?_
      rotate_left
      · rintro w' ⟨⟨⟨s0, s1⟩, s2, s3⟩, s4⟩
        go_simp
        with_reducible rfl
      rotate_left
      · simp only [Act.put, List.setIfInBounds_toArray, List.set_cons_zero, List.set_cons_succ, i64_w, i32_w, HWP.out, wk1, wk2, wk3, wk4]
        rfl
      refine take_ (i := 8) (N := some 104) (v := ?_) (a' := ?_) #[true, true, true, true, true, true, true, true, true, false, false, false, false, false, false, false, false, false, false] rfl rfl (by kernel_rfl) (fun _ _ _ h => h) (Or.inl ⟨by rfl, ?_⟩) hHeld ?_ ?_
      rotate_left
      · rintro w' ⟨⟨⟨s0, s1⟩, s2, s3⟩, s4⟩
        go_simp
        with_reducible rfl
      rotate_left
      · simp only [Act.put, List.setIfInBounds_toArray, List.set_cons_zero, List.set_cons_succ, i64_w, i32_w, HWP.out, wk1, wk2, wk3, wk4]
        rfl
      refine pure_ (i := 9) (N := some 105) (v := ?_) (a' := ?_) #[true, true, true, true, true, true, true, true, true, true, false, false, false, false, false, false, false, false, false] rfl rfl (by kernel_rfl) (fun _ _ _ h => h) (Or.inl ⟨by rfl, ?_⟩) ?_ ?_
      rotate_left
      · intro w'
        go_simp
        with_reducible rfl
      rotate_left
      · simp only [Act.put, List.setIfInBounds_toArray, List.set_cons_zero, List.set_cons_succ, i64_w, i32_w, HWP.out, wk1, wk2, wk3, wk4]
        rfl
      refine take_ (i := 10) (N := some 106) (v := ?_) (a' := ?_) #[true, true, true, true, true, true, true, true, true, true, true, false, false, false, false, false, false, false, false] rfl rfl (by kernel_rfl) (fun _ _ _ h => h) (Or.inl ⟨by rfl, ?_⟩) hHeld ?_ ?_
      rotate_left
      · rintro w' ⟨⟨⟨s0, s1⟩, s2, s3⟩, s4⟩
        go_simp
        with_reducible rfl
      rotate_left
      · simp only [Act.put, List.setIfInBounds_toArray, List.set_cons_zero, List.set_cons_succ, i64_w, i32_w, HWP.out, wk1, wk2, wk3, wk4]
        rfl
      refine pure_ (i := 11) (N := some 107) (v := ?_) (a' := ?_) #[true, true, true, true, true, true, true, true, true, true, true, true, false, false, false, false, false, false, false] rfl rfl (by kernel_rfl) (fun _ _ _ h => h) (Or.inl ⟨by rfl, ?_⟩) ?_ ?_
      rotate_left
      · intro w'
        go_simp
        with_reducible rfl
      rotate_left
      · simp only [Act.put, List.setIfInBounds_toArray, List.set_cons_zero, List.set_cons_succ, i64_w, i32_w, HWP.out, wk1, wk2, wk3, wk4]
        rfl
      refine pure_ (i := 12) (N := some 108) (v := ?_) (a' := ?_) #[true, true, true, true, true, true, true, true, true, true, true, true, true, false, false, false, false, false, false] rfl rfl (by kernel_rfl) (fun _ _ _ h => h) (Or.inl ⟨by rfl, ?_⟩) ?_ ?_
      rotate_left
      · intro w'
        go_simp
        with_reducible rfl
      rotate_left
      · simp only [Act.put, List.setIfInBounds_toArray, List.set_cons_zero, List.set_cons_succ, i64_w, i32_w, HWP.out, wk1, wk2, wk3, wk4]
        rfl
      refine take_ (i := 13) (N := some 109) (v := ?_) (a' := ?_) #[true, true, true, true, true, true, true, true, true, true, true, true, true, true, false, false, false, false, false] rfl rfl (by kernel_rfl) (fun _ _ _ h => h) (Or.inl ⟨by rfl, ?_⟩) hHeld ?_ ?_
      rotate_left
      · rintro w' ⟨⟨⟨s0, s1⟩, s2, s3⟩, s4⟩
        go_simp
        with_reducible rfl
      rotate_left
      · simp only [Act.put, List.setIfInBounds_toArray, List.set_cons_zero, List.set_cons_succ, i64_w, i32_w, HWP.out, wk1, wk2, wk3, wk4]
        rfl
      refine take_ (i := 14) (N := some 110) (v := ?_) (a' := ?_) #[true, true, true, true, true, true, true, true, true, true, true, true, true, true, true, false, false, false, false] rfl rfl (by kernel_rfl) (fun _ _ _ h => h) (Or.inl ⟨by rfl, ?_⟩) hHeld ?_ ?_
      rotate_left
      · rintro w' ⟨⟨⟨s0, s1⟩, s2, s3⟩, s4⟩
        go_simp
        with_reducible rfl
      rotate_left
      · simp only [Act.put, List.setIfInBounds_toArray, List.set_cons_zero, List.set_cons_succ, i64_w, i32_w, HWP.out, wk1, wk2, wk3, wk4]
        rfl
      refine one_ (i := 15) (N := some 111) #[true, true, true, true, true, true, true, true, true, true, true, true, true, true, true, true, false, false, false] rfl rfl (by kernel_rfl) (by decide) (fun K hK => ?_)
      refine value_ (v := ?vv) (w1 := ?ww) (by rfl) rfl ?hr ?kk
      case hr => (go_simp; refine And.intro ?_ ?_ <;> rfl)
      refine hK.out _ _ ?_ (fun hHeld => ?_)
      · exact HK.out _ (by repeat (first | (with_reducible first | exact HB9.out | refine below_allocb HSW.out ?_ _ | apply pw_below_drewN | apply below_drew1) | (with_reducible exact HBR.out) | exact HB9.out | exact HBR.out))
      clear hK K
      refine norm_ (a' := ?_) ?_ ?_
      rotate_left
      · show Act.put _ (some 111) _ = _
        simp only [Act.put, List.setIfInBounds_toArray, List.set_cons_zero, List.set_cons_succ, i64_w, i32_w, HWP.out, wk1, wk2, wk3, wk4]
        rfl
      refine one_ (i := 16) (N := some 112) #[true, true, true, true, true, true, true, true, true, true, true, true, true, true, true, true, true, false, false] rfl rfl (by kernel_rfl) (by decide) (fun K hK => ?_)
      refine Kd.R_append_step (Kd.int .i64) (w0 := wr) (W := wr.drew) w3.heap.size ?aW (.tmp 97) (.tmp 111) 22 3 (.int .i64 0) 8 rfl Try.underlying22 info3 rfl (by decide) (by decide) vv ((rdAt xs a c).take k) x [.int .i64 x] (fun _ => True) (fun _ => False) rfl rfl ?aP (fun _ e => e.elim) (fun _ _ => trivial) ?aO ?aB ?aS ?aL ?_
      case aW => rfl
      case aP => exact rfl
      case aO => (with_reducible repeat (first | apply Kd.R_alloc | apply Kd.R_drewN | apply Kd.R_drew)); exact HRV.out
      case aB => exact (by repeat (first | (with_reducible first | exact HB9.out | refine below_allocb HSW.out ?_ _ | apply pw_below_drewN | apply below_drew1) | (with_reducible exact HBR.out) | exact HB9.out | exact HBR.out))
      case aS => exact Nat.le_trans HE.out.size (by first | exact Nat.le_refl _ | (simp; done) | (simp; omega))
      case aL => (have := HKC.out; have := HFX.out; have := HLB.out; rw [List.length_take]; omega)
      intro v1 w9 HO9 HB9 hg9 hat9
      obtain ⟨A9, c9, e9⟩ := Kd.R_slice HO9
      obtain ⟨m9, hm9⟩ : ∃ m, ((rdAt xs a c).take k ++ [x]).length = m := ⟨_, rfl⟩
      rw [hm9] at e9; subst e9; clear hm9 hg9 hat9
      have HO9 := Aside0.mk HO9; have HB9 := Aside0.mk HB9
      have hy9 := (HK.out _ HB9.out).1.1.1; have hyf9 := (HK.out _ HB9.out).2
      refine hK.out _ _ ?_ (fun hHeld => ?_)
      · exact HK.out _ (by repeat (first | (with_reducible first | exact HB9.out | refine below_allocb HSW.out ?_ _ | apply pw_below_drewN | apply below_drew1) | (with_reducible exact HBR.out) | exact HB9.out | exact HBR.out))
      clear hK K
      refine norm_ (a' := ?_) ?_ ?_
      rotate_left
      · show Act.put _ (some 112) _ = _
        simp only [Act.put, List.setIfInBounds_toArray, List.set_cons_zero, List.set_cons_succ, i64_w, i32_w, HWP.out, wk1, wk2, wk3, wk4]
        rfl
      refine pure_ (i := 17) (N := some 113) (v := ?_) (a' := ?_) #[true, true, true, true, true, true, true, true, true, true, true, true, true, true, true, true, true, true, false] rfl rfl (by kernel_rfl) (fun _ _ _ h => h) (Or.inl ⟨by rfl, ?_⟩) ?_ ?_
      rotate_left
      · intro w'
        go_simp
        with_reducible rfl
      rotate_left
      · simp only [Act.put, List.setIfInBounds_toArray, List.set_cons_zero, List.set_cons_succ, i64_w, i32_w, HWP.out, wk1, wk2, wk3, wk4]
        rfl
      refine last_ (i := 18) (N := none) #[true, true, true, true, true, true, true, true, true, true, true, true, true, true, true, true, true, true, true] rfl rfl (by kernel_rfl) (by decide) (fun K hK => ?_)
      refine skip_ (w1 := ?_) (by rfl) rfl ?_ ?_
      rotate_left
      · go_simp
        rfl
      refine hK.out _ _ ?_
      clear hK K
      refine done_ (by kernel_rfl) ?_
      have BY2 : Aside0 ((w9.setCell ⟨y, 0, none⟩ (.slice A9 m9 c9)).heap[y]? = some (.cells #[(.slice A9 m9 c9), .int .i64 0] 30 (0, 0))) := ⟨blk_put ((HB9.out.block y HLTS.out.1).trans BY.out) 0 (.slice A9 m9 c9) rfl⟩
      have HR2 : Aside0 (Kd.R (Kd.int .i64) 3 (w9.setCell ⟨y, 0, none⟩ (.slice A9 m9 c9)) w3.heap.size (fun _ => True) (.slice A9 m9 c9) ((rdAt xs a c).take (k + 1))) := ⟨by
        have e1 : (rdAt xs a c).take (k + 1) = (rdAt xs a c).take k ++ [x] := by
          have hl : (rdAt xs a c).length = c := rdAt_len (by rw [HL.out]; exact HFX.out)
          have hkc := HKC.out
          rw [List.take_succ_eq_append_getElem (by omega)]
          congr 2
          have hx := HX.out
          have hpp := HP.out
          have hfx := HFX.out; have hll := HL.out
          rw [List.getD_eq_getElem?_getD, List.getElem?_eq_getElem (by omega), Option.getD_some] at hx
          rw [← hx]
          simp only [rdAt, List.getElem_take, List.getElem_drop]
          congr 1
        rw [e1]
        exact Kd.R_mono (Kd.R_move (Kd.R_bound HO9.out) (fun j hj => by
          refine Below.heap_setCell _ _ _ _ ?_
          have := hj.2.1; have := HLTS.out.1
          show j ≠ y
          omega)) (fun _ _ => trivial)⟩
      have HE2 : Aside0 (Ext (fun k => k = y) w3 (w9.setCell ⟨y, 0, none⟩ (.slice A9 m9 c9))) := ⟨(HE.out.grow (M' := fun k => w3.heap.size ≤ k) ⟨HB9.out.os, HB9.out.tape, HB9.out.output, HB9.out.size, fun k hk hn => HB9.out.block k (by omega)⟩ (fun k e => .inr e)).setg _⟩
      clear hy9 hyf9 HRV BY HK HBR HO9 HB9 HE BQ
      clear lq0 lqf0 lq1 lqf1 lq2 lqf2 lq3 lqf3 lq4 lqf4 lq5 lqf5 lq6 lqf6
      go_wp2_with (fail)
      go_roundw
      case rel => exact ⟨k + 1, by have := HKC.out; omega, by rw [HW1.out]; exact congrArg (Value.int .i64) (by omega), ⟨(.slice A9 m9 c9), BY2.out, HR2.out⟩, HE2⟩
      case measure => exact meas HKC.out HW1.out
    · have t1 : decide (k < c) = false := decide_eq_false hlt
      have t2 : decide ((k : Int) < (c : Int)) = false := decide_eq_false (by omega)
      have ek : (rdAt xs a c).take k = rdAt xs a c := List.take_of_length_le (by rw [rdAt_len (by rw [HL.out]; exact HFX.out)]; omega)
      have hRv := HRV.out; rw [ek] at hRv; obtain ⟨AA, cA, rfl⟩ := Kd.R_slice hRv
      have HCA : Aside0 ((rdAt xs a c).length ≤ cA) := ⟨(Kd.R_reads' hRv).2.1⟩
      have HRB := Aside0.mk hRv; clear hRv HRV ek hlt
      have BK_qn : Aside0 (wr.heap[q]? = some (.cells #[.int .i64 2, .int .i64 (a : Int), .int .i64 (c : Int), .slice A 0 cc, .int .i64 t, .int .i64 n, .int .i64 o] 24 (0, 0))) := ⟨BQ.out⟩
      have BK_zn : Aside0 (wr.heap[z]? = some (.cells #[.slice none 0 0, .int .i64 0] 30 (0, 0))) := ⟨Ext.blk HE.out BK_z.out NE_z_y.out⟩
      have BK_yn : Aside0 (wr.heap[y]? = some (.cells #[.slice AA (rdAt xs a c).length cA, .int .i64 0] 30 (0, 0))) := ⟨BY.out⟩
      have SLn : Aside0 (IsSlv 51 wr g R (X)) := ⟨SL.out.ext HE.out (fun k hk e => NS_y.out k hk e)⟩
      have XTn : Aside0 (Ext (Fp g R) w wr) := ⟨XT.out.step HE.out (fun k e => .inr (by rw [show k = y from e]; exact RG_y.out))⟩
      clear BK_y BK_q BK_z SL XT
      have BK_y := BK_yn
      have BK_q := BK_qn
      have BK_z := BK_zn
      have SL := SLn
      have XT := XTn
      clear BK_yn BK_qn BK_zn SLn XTn
      clear BY BQ HV
      clear lq0 lqf0 lq1 lqf1 lq2 lqf2 lq3 lqf3 lq4 lqf4 lq5 lqf5 lq6 lqf6
      have lc7_0 : wr.cell? ⟨q, 0, none⟩ = some (.int .i64 2) := (blk_cell BK_q.out 0).trans rfl; have lf7_0 := blk_frozen BK_q.out 0
      have lc7_1 : wr.cell? ⟨q, 1, none⟩ = some (.int .i64 (a : Int)) := (blk_cell BK_q.out 1).trans rfl; have lf7_1 := blk_frozen BK_q.out 1
      have lc7_2 : wr.cell? ⟨q, 2, none⟩ = some (.int .i64 (c : Int)) := (blk_cell BK_q.out 2).trans rfl; have lf7_2 := blk_frozen BK_q.out 2
      have lc7_3 : wr.cell? ⟨q, 3, none⟩ = some (.slice A 0 cc) := (blk_cell BK_q.out 3).trans rfl; have lf7_3 := blk_frozen BK_q.out 3
      have lc7_4 : wr.cell? ⟨q, 4, none⟩ = some (.int .i64 t) := (blk_cell BK_q.out 4).trans rfl; have lf7_4 := blk_frozen BK_q.out 4
      have lc7_5 : wr.cell? ⟨q, 5, none⟩ = some (.int .i64 n) := (blk_cell BK_q.out 5).trans rfl; have lf7_5 := blk_frozen BK_q.out 5
      have lc7_6 : wr.cell? ⟨q, 6, none⟩ = some (.int .i64 o) := (blk_cell BK_q.out 6).trans rfl; have lf7_6 := blk_frozen BK_q.out 6
      have lc8_0 : wr.cell? ⟨z, 0, none⟩ = some (.slice none 0 0) := (blk_cell BK_z.out 0).trans rfl; have lf8_0 := blk_frozen BK_z.out 0
      have lc8_1 : wr.cell? ⟨z, 1, none⟩ = some (.int .i64 0) := (blk_cell BK_z.out 1).trans rfl; have lf8_1 := blk_frozen BK_z.out 1
      have lc9_0 : wr.cell? ⟨y, 0, none⟩ = some (.slice AA (rdAt xs a c).length cA) := (blk_cell BK_y.out 0).trans rfl; have lf9_0 := blk_frozen BK_y.out 0
      have lc9_1 : wr.cell? ⟨y, 1, none⟩ = some (.int .i64 0) := (blk_cell BK_y.out 1).trans rfl; have lf9_1 := blk_frozen BK_y.out 1
      go_wp2_with (first | ((with_reducible refine gate_store (p := 4) rfl ?_); refine store_event (w1 := ?_) rfl (p := 4) rfl rfl ?hr ?_; rotate_left; (case hr => go_simp; rfl); intro w5 hw_; obtain ⟨hput, HEc⟩ := put2 hw_ BK_z.out; clear hw_; have BK_qn : Aside0 (w5.heap[q]? = some (.cells #[.int .i64 2, .int .i64 (a : Int), .int .i64 (c : Int), .slice A 0 cc, .int .i64 t, .int .i64 n, .int .i64 o] 24 (0, 0))) := ⟨Ext.blk HEc BK_q.out (NE_q_z.out)⟩; have BK_yn : Aside0 (w5.heap[y]? = some (.cells #[.slice AA (rdAt xs a c).length cA, .int .i64 0] 30 (0, 0))) := ⟨Ext.blk HEc BK_y.out (fun e => NE_z_y.out e.symm)⟩; have SLn : Aside0 (IsSlv 51 w5 g R (X)) := ⟨SL.out.ext HEc (fun k hk e => NS_z.out k hk e)⟩; have XTn : Aside0 (Ext (Fp g R) w w5) := ⟨XT.out.step HEc (fun k e => .inr (by rw [show k = z from e]; exact RG_z.out))⟩; clear BK_q BK_y SL XT; have BK_q := BK_qn; have BK_y := BK_yn; have SL := SLn; have XT := XTn; clear BK_qn BK_yn SLn XTn; clear BK_z; have BK_z : Aside0 (w5.heap[z]? = some (.cells #[.slice AA (rdAt xs a c).length cA, .int .i64 0] 30 (0, 0))) := ⟨hput⟩; have HST := Aside0.mk HEc; clear hput HEc))
      refine bodyPost_ret (results_cell_row rfl _ _ z 30 #[.slice AA (rdAt xs a c).length cA, .int .i64 0] (0, 0) _ rfl BK_z.out Try.underlying30 rfl (by kernel_rfl)) rfl ?_
      rw [HXS.out]
      refine ⟨AA, cA, rfl, HCA.out, SL.out, XT.out, fun M hM => ?_⟩
      have hEv := Ever.R (M := fun k => M k ∨ k = z) HRB.out (fun k hk => by rcases hk with hk | hk; exact Nat.lt_of_lt_of_le (hM k hk) HSZ.out.1; rw [hk]; exact HSZ.out.2)
      exact hEv.grow (HST.out.sub (fun k e => .inr e)) (fun k hk => .inl (.inl hk))
set_option maxHeartbeats 4000000 in
set_option maxRecDepth 100000 in
theorem rdo_r2_no {w : World} {g : Nat} {R : Nat → Nat} {X : Nat → List Int} (h : IsSlv 51 w g R X) {A : Option Addr} {cc : Nat} {v : List Int} (hn : v.length = 0) (hV : Ever (Fp g R) w (fun W => Kd.C (Kd.int .i64) W A v.length v)) {a c : Nat} {t n o : Int} (hb : a ≤ 1000000 ∧ c ≤ 1000000 ∧ 0 < c) (hlt : (X 2).length < a + c) : Calls Try.prog 21 #[.pointer (some ⟨g, 0, none⟩), .agg #[.int .i64 3, .int .i64 (a : Int), .int .i64 (c : Int), .slice A 0 cc, .int .i64 t, .int .i64 n, .int .i64 o]] w fun e w' => ∃ AA cA, e = .returned (.agg #[.slice AA (([] : List Int)).length cA, .int .i64 2]) ∧ (([] : List Int)).length ≤ cA ∧ IsSlv 51 w' g R (X) ∧ Ext (Fp g R) w w' ∧ IsAns w w' AA (([] : List Int)) := by
  have SL : Aside0 (IsSlv 51 w g R (X)) := ⟨h⟩; have XT : Aside0 (Ext (Fp g R) w w) := ⟨Ext.refl _ _⟩; have HV := Aside0.mk hV; have HN := Aside0.mk hn; have tA := Aside0.mk trivial
  have HB := Aside0.mk hb
  have HD : Aside0 (∀ ad : Int, ad = (a : Int) + (c : Int) - 1 → decide (has X 3 ad) = false) := ⟨fun ad e => decide_eq_false (by rw [e]; unfold has; rw [show ((3 : Int) - 1).toNat = 2 from rfl]; omega)⟩
  clear hb hlt
  clear h hV hn
  go_enter Try.func21, Try.ntmps21
  go_wp2_with (first | ((with_reducible refine gate_dst (N := 3) rfl ?_); refine box_event ?hg (N := 3) ?hd (cs := #[.int .i64 3, .int .i64 (a : Int), .int .i64 (c : Int), .slice A 0 cc, .int .i64 t, .int .i64 n, .int .i64 o]) (t := 24) ?hr ?_; (case hd => rfl); (case hg => rfl); (case hr => first | (go_simp; done) | (go_simp; rfl)); intro q hg w1 hbox HBc; have NS_q : Aside0 (∀ k, Fp g R k → k ≠ q) := ⟨fun k hk e => by have := SL.out.lt k hk; omega⟩; have RG_q : Aside0 (w.heap.size ≤ q) := ⟨Nat.le_trans XT.out.size (Nat.le_of_eq hg.symm)⟩; clear hg; have SLn : Aside0 (IsSlv 51 w1 g R (X)) := ⟨SL.out.below HBc⟩; have XTn : Aside0 (Ext (Fp g R) w w1) := ⟨XT.out.stepB HBc⟩; have HVn : Aside0 (Ever (Fp g R) w1 (fun W => Kd.C (Kd.int .i64) W A v.length v)) := ⟨HV.out.step (.of_below HBc)⟩; clear SL XT HV; have SL := SLn; have XT := XTn; have HV := HVn; clear SLn XTn HVn; have BK_q : Aside0 (w1.heap[q]? = some (.cells #[.int .i64 3, .int .i64 (a : Int), .int .i64 (c : Int), .slice A 0 cc, .int .i64 t, .int .i64 n, .int .i64 o] 24 (0, 0))) := ⟨hbox⟩; clear hbox HBc; have lc1_0 : w1.cell? ⟨q, 0, none⟩ = some (.int .i64 3) := (blk_cell BK_q.out 0).trans rfl; have lf1_0 := blk_frozen BK_q.out 0; have lc1_1 : w1.cell? ⟨q, 1, none⟩ = some (.int .i64 (a : Int)) := (blk_cell BK_q.out 1).trans rfl; have lf1_1 := blk_frozen BK_q.out 1; have lc1_2 : w1.cell? ⟨q, 2, none⟩ = some (.int .i64 (c : Int)) := (blk_cell BK_q.out 2).trans rfl; have lf1_2 := blk_frozen BK_q.out 2; have lc1_3 : w1.cell? ⟨q, 3, none⟩ = some (.slice A 0 cc) := (blk_cell BK_q.out 3).trans rfl; have lf1_3 := blk_frozen BK_q.out 3; have lc1_4 : w1.cell? ⟨q, 4, none⟩ = some (.int .i64 t) := (blk_cell BK_q.out 4).trans rfl; have lf1_4 := blk_frozen BK_q.out 4; have lc1_5 : w1.cell? ⟨q, 5, none⟩ = some (.int .i64 n) := (blk_cell BK_q.out 5).trans rfl; have lf1_5 := blk_frozen BK_q.out 5; have lc1_6 : w1.cell? ⟨q, 6, none⟩ = some (.int .i64 o) := (blk_cell BK_q.out 6).trans rfl; have lf1_6 := blk_frozen BK_q.out 6) | ((with_reducible refine gate_dst (N := 4) rfl ?_); refine box_event ?hg (N := 4) ?hd (cs := #[.slice none 0 0, .int .i64 0]) (t := 30) ?hr ?_; (case hd => rfl); (case hg => rfl); (case hr => first | (go_simp; done) | (go_simp; rfl)); intro z hg w2 hbox HBc; have NS_z : Aside0 (∀ k, Fp g R k → k ≠ z) := ⟨fun k hk e => by have := SL.out.lt k hk; omega⟩; have RG_z : Aside0 (w.heap.size ≤ z) := ⟨Nat.le_trans XT.out.size (Nat.le_of_eq hg.symm)⟩; have NE_q_z : Aside0 (q ≠ z) := ⟨ne_born (blk_lt BK_q.out) hg⟩; clear hg; have BK_qn : Aside0 (w2.heap[q]? = some (.cells #[.int .i64 3, .int .i64 (a : Int), .int .i64 (c : Int), .slice A 0 cc, .int .i64 t, .int .i64 n, .int .i64 o] 24 (0, 0))) := ⟨blk_below BK_q.out HBc⟩; have SLn : Aside0 (IsSlv 51 w2 g R (X)) := ⟨SL.out.below HBc⟩; have XTn : Aside0 (Ext (Fp g R) w w2) := ⟨XT.out.stepB HBc⟩; have HVn : Aside0 (Ever (Fp g R) w2 (fun W => Kd.C (Kd.int .i64) W A v.length v)) := ⟨HV.out.step (.of_below HBc)⟩; clear BK_q SL XT HV; have BK_q := BK_qn; have SL := SLn; have XT := XTn; have HV := HVn; clear BK_qn SLn XTn HVn; have BK_z : Aside0 (w2.heap[z]? = some (.cells #[.slice none 0 0, .int .i64 0] 30 (0, 0))) := ⟨hbox⟩; clear hbox HBc; have lc2_0 : w2.cell? ⟨q, 0, none⟩ = some (.int .i64 3) := (blk_cell BK_q.out 0).trans rfl; have lf2_0 := blk_frozen BK_q.out 0; have lc2_1 : w2.cell? ⟨q, 1, none⟩ = some (.int .i64 (a : Int)) := (blk_cell BK_q.out 1).trans rfl; have lf2_1 := blk_frozen BK_q.out 1; have lc2_2 : w2.cell? ⟨q, 2, none⟩ = some (.int .i64 (c : Int)) := (blk_cell BK_q.out 2).trans rfl; have lf2_2 := blk_frozen BK_q.out 2; have lc2_3 : w2.cell? ⟨q, 3, none⟩ = some (.slice A 0 cc) := (blk_cell BK_q.out 3).trans rfl; have lf2_3 := blk_frozen BK_q.out 3; have lc2_4 : w2.cell? ⟨q, 4, none⟩ = some (.int .i64 t) := (blk_cell BK_q.out 4).trans rfl; have lf2_4 := blk_frozen BK_q.out 4; have lc2_5 : w2.cell? ⟨q, 5, none⟩ = some (.int .i64 n) := (blk_cell BK_q.out 5).trans rfl; have lf2_5 := blk_frozen BK_q.out 5; have lc2_6 : w2.cell? ⟨q, 6, none⟩ = some (.int .i64 o) := (blk_cell BK_q.out 6).trans rfl; have lf2_6 := blk_frozen BK_q.out 6; have lc3_0 : w2.cell? ⟨z, 0, none⟩ = some (.slice none 0 0) := (blk_cell BK_z.out 0).trans rfl; have lf3_0 := blk_frozen BK_z.out 0; have lc3_1 : w2.cell? ⟨z, 1, none⟩ = some (.int .i64 0) := (blk_cell BK_z.out 1).trans rfl; have lf3_1 := blk_frozen BK_z.out 1) | (go_at_call 25; have _t := tA; refine (rhas_c SL.out _ _ (HD.out _ ?hx)).mono ?_; (case hx => (have hB := HB.out; first | rfl | omega | (simp only [wrap64]; omega))); rintro e w' ⟨rfl, rfl⟩; clear tA _t; have tB := Aside0.mk trivial) | ((with_reducible refine gate_store (p := 4) rfl ?_); refine store_event (w1 := ?_) rfl (p := 4) rfl rfl ?hr ?_; rotate_left; (case hr => go_simp; rfl); intro w4 hw_; obtain ⟨hput, HEc⟩ := put2 hw_ BK_z.out; clear hw_; have BK_qn : Aside0 (w4.heap[q]? = some (.cells #[.int .i64 3, .int .i64 (a : Int), .int .i64 (c : Int), .slice A 0 cc, .int .i64 t, .int .i64 n, .int .i64 o] 24 (0, 0))) := ⟨Ext.blk HEc BK_q.out (NE_q_z.out)⟩; have SLn : Aside0 (IsSlv 51 w4 g R (X)) := ⟨SL.out.ext HEc (fun k hk e => NS_z.out k hk e)⟩; have XTn : Aside0 (Ext (Fp g R) w w4) := ⟨XT.out.step HEc (fun k e => .inr (by rw [show k = z from e]; exact RG_z.out))⟩; clear BK_q SL XT; have BK_q := BK_qn; have SL := SLn; have XT := XTn; clear BK_qn SLn XTn; clear BK_z HV; have BK_z : Aside0 (w4.heap[z]? = some (.cells #[.slice none 0 0, .int .i64 2] 30 (0, 0))) := ⟨hput⟩; have HST := Aside0.mk HEc; clear hput HEc))
  refine bodyPost_ret (results_cell_row rfl _ _ z 30 #[.slice none 0 0, .int .i64 2] (0, 0) _ rfl BK_z.out Try.underlying30 rfl (by kernel_rfl)) rfl ?_
  exact ⟨none, 0, rfl, Nat.le_refl _, SL.out, XT.out, fun M hM => Ever.nil _⟩
set_option maxHeartbeats 4000000 in
set_option maxRecDepth 100000 in
theorem rdo_r2_yes {w : World} {g : Nat} {R : Nat → Nat} {X : Nat → List Int} (h : IsSlv 51 w g R X) {A : Option Addr} {cc : Nat} {v : List Int} (hn : v.length = 0) (hV : Ever (Fp g R) w (fun W => Kd.C (Kd.int .i64) W A v.length v)) {a c : Nat} {t n o : Int} (hb : a ≤ 1000000 ∧ c ≤ 1000000 ∧ 0 < c) (hfit : a + c ≤ (X 2).length) : Calls Try.prog 21 #[.pointer (some ⟨g, 0, none⟩), .agg #[.int .i64 3, .int .i64 (a : Int), .int .i64 (c : Int), .slice A 0 cc, .int .i64 t, .int .i64 n, .int .i64 o]] w fun e w' => ∃ AA cA, e = .returned (.agg #[.slice AA (rdAt (X 2) a c).length cA, .int .i64 0]) ∧ (rdAt (X 2) a c).length ≤ cA ∧ IsSlv 51 w' g R (X) ∧ Ext (Fp g R) w w' ∧ IsAns w w' AA (rdAt (X 2) a c) := by
  have SL : Aside0 (IsSlv 51 w g R (X)) := ⟨h⟩; have XT : Aside0 (Ext (Fp g R) w w) := ⟨Ext.refl _ _⟩; have HV := Aside0.mk hV; have HN := Aside0.mk hn; have tA := Aside0.mk trivial
  have HB := Aside0.mk hb
  have HFIT := Aside0.mk hfit
  have HD : Aside0 (∀ ad : Int, ad = (a : Int) + (c : Int) - 1 → decide (has X 3 ad) = true) := ⟨fun ad e => decide_eq_true (by rw [e]; unfold has; rw [show ((3 : Int) - 1).toNat = 2 from rfl]; omega)⟩
  clear hb hfit
  clear h hV hn
  go_enter Try.func21, Try.ntmps21
  go_wp2_with (first | ((with_reducible refine gate_dst (N := 3) rfl ?_); refine box_event ?hg (N := 3) ?hd (cs := #[.int .i64 3, .int .i64 (a : Int), .int .i64 (c : Int), .slice A 0 cc, .int .i64 t, .int .i64 n, .int .i64 o]) (t := 24) ?hr ?_; (case hd => rfl); (case hg => rfl); (case hr => first | (go_simp; done) | (go_simp; rfl)); intro q hg w1 hbox HBc; have NS_q : Aside0 (∀ k, Fp g R k → k ≠ q) := ⟨fun k hk e => by have := SL.out.lt k hk; omega⟩; have RG_q : Aside0 (w.heap.size ≤ q) := ⟨Nat.le_trans XT.out.size (Nat.le_of_eq hg.symm)⟩; clear hg; have SLn : Aside0 (IsSlv 51 w1 g R (X)) := ⟨SL.out.below HBc⟩; have XTn : Aside0 (Ext (Fp g R) w w1) := ⟨XT.out.stepB HBc⟩; have HVn : Aside0 (Ever (Fp g R) w1 (fun W => Kd.C (Kd.int .i64) W A v.length v)) := ⟨HV.out.step (.of_below HBc)⟩; clear SL XT HV; have SL := SLn; have XT := XTn; have HV := HVn; clear SLn XTn HVn; have BK_q : Aside0 (w1.heap[q]? = some (.cells #[.int .i64 3, .int .i64 (a : Int), .int .i64 (c : Int), .slice A 0 cc, .int .i64 t, .int .i64 n, .int .i64 o] 24 (0, 0))) := ⟨hbox⟩; clear hbox HBc; have lc1_0 : w1.cell? ⟨q, 0, none⟩ = some (.int .i64 3) := (blk_cell BK_q.out 0).trans rfl; have lf1_0 := blk_frozen BK_q.out 0; have lc1_1 : w1.cell? ⟨q, 1, none⟩ = some (.int .i64 (a : Int)) := (blk_cell BK_q.out 1).trans rfl; have lf1_1 := blk_frozen BK_q.out 1; have lc1_2 : w1.cell? ⟨q, 2, none⟩ = some (.int .i64 (c : Int)) := (blk_cell BK_q.out 2).trans rfl; have lf1_2 := blk_frozen BK_q.out 2; have lc1_3 : w1.cell? ⟨q, 3, none⟩ = some (.slice A 0 cc) := (blk_cell BK_q.out 3).trans rfl; have lf1_3 := blk_frozen BK_q.out 3; have lc1_4 : w1.cell? ⟨q, 4, none⟩ = some (.int .i64 t) := (blk_cell BK_q.out 4).trans rfl; have lf1_4 := blk_frozen BK_q.out 4; have lc1_5 : w1.cell? ⟨q, 5, none⟩ = some (.int .i64 n) := (blk_cell BK_q.out 5).trans rfl; have lf1_5 := blk_frozen BK_q.out 5; have lc1_6 : w1.cell? ⟨q, 6, none⟩ = some (.int .i64 o) := (blk_cell BK_q.out 6).trans rfl; have lf1_6 := blk_frozen BK_q.out 6) | ((with_reducible refine gate_dst (N := 4) rfl ?_); refine box_event ?hg (N := 4) ?hd (cs := #[.slice none 0 0, .int .i64 0]) (t := 30) ?hr ?_; (case hd => rfl); (case hg => rfl); (case hr => first | (go_simp; done) | (go_simp; rfl)); intro z hg w2 hbox HBc; have NS_z : Aside0 (∀ k, Fp g R k → k ≠ z) := ⟨fun k hk e => by have := SL.out.lt k hk; omega⟩; have RG_z : Aside0 (w.heap.size ≤ z) := ⟨Nat.le_trans XT.out.size (Nat.le_of_eq hg.symm)⟩; have NE_q_z : Aside0 (q ≠ z) := ⟨ne_born (blk_lt BK_q.out) hg⟩; clear hg; have BK_qn : Aside0 (w2.heap[q]? = some (.cells #[.int .i64 3, .int .i64 (a : Int), .int .i64 (c : Int), .slice A 0 cc, .int .i64 t, .int .i64 n, .int .i64 o] 24 (0, 0))) := ⟨blk_below BK_q.out HBc⟩; have SLn : Aside0 (IsSlv 51 w2 g R (X)) := ⟨SL.out.below HBc⟩; have XTn : Aside0 (Ext (Fp g R) w w2) := ⟨XT.out.stepB HBc⟩; have HVn : Aside0 (Ever (Fp g R) w2 (fun W => Kd.C (Kd.int .i64) W A v.length v)) := ⟨HV.out.step (.of_below HBc)⟩; clear BK_q SL XT HV; have BK_q := BK_qn; have SL := SLn; have XT := XTn; have HV := HVn; clear BK_qn SLn XTn HVn; have BK_z : Aside0 (w2.heap[z]? = some (.cells #[.slice none 0 0, .int .i64 0] 30 (0, 0))) := ⟨hbox⟩; clear hbox HBc; have lc2_0 : w2.cell? ⟨q, 0, none⟩ = some (.int .i64 3) := (blk_cell BK_q.out 0).trans rfl; have lf2_0 := blk_frozen BK_q.out 0; have lc2_1 : w2.cell? ⟨q, 1, none⟩ = some (.int .i64 (a : Int)) := (blk_cell BK_q.out 1).trans rfl; have lf2_1 := blk_frozen BK_q.out 1; have lc2_2 : w2.cell? ⟨q, 2, none⟩ = some (.int .i64 (c : Int)) := (blk_cell BK_q.out 2).trans rfl; have lf2_2 := blk_frozen BK_q.out 2; have lc2_3 : w2.cell? ⟨q, 3, none⟩ = some (.slice A 0 cc) := (blk_cell BK_q.out 3).trans rfl; have lf2_3 := blk_frozen BK_q.out 3; have lc2_4 : w2.cell? ⟨q, 4, none⟩ = some (.int .i64 t) := (blk_cell BK_q.out 4).trans rfl; have lf2_4 := blk_frozen BK_q.out 4; have lc2_5 : w2.cell? ⟨q, 5, none⟩ = some (.int .i64 n) := (blk_cell BK_q.out 5).trans rfl; have lf2_5 := blk_frozen BK_q.out 5; have lc2_6 : w2.cell? ⟨q, 6, none⟩ = some (.int .i64 o) := (blk_cell BK_q.out 6).trans rfl; have lf2_6 := blk_frozen BK_q.out 6; have lc3_0 : w2.cell? ⟨z, 0, none⟩ = some (.slice none 0 0) := (blk_cell BK_z.out 0).trans rfl; have lf3_0 := blk_frozen BK_z.out 0; have lc3_1 : w2.cell? ⟨z, 1, none⟩ = some (.int .i64 0) := (blk_cell BK_z.out 1).trans rfl; have lf3_1 := blk_frozen BK_z.out 1) | (go_at_call 25; have _t := tA; refine (rhas_c SL.out _ _ (HD.out _ ?hx)).mono ?_; (case hx => (have hB := HB.out; first | rfl | omega | (simp only [wrap64]; omega))); rintro e w' ⟨rfl, rfl⟩; clear tA _t; have tB := Aside0.mk trivial) | ((with_reducible refine gate_dst (N := 9) rfl ?_); refine box_event ?hg (N := 9) ?hd (cs := #[.slice none 0 0, .int .i64 0]) (t := 30) ?hr ?_; (case hd => rfl); (case hg => rfl); (case hr => first | (go_simp; done) | (go_simp; rfl)); intro y hg w3 hbox HBc; have NS_y : Aside0 (∀ k, Fp g R k → k ≠ y) := ⟨fun k hk e => by have := SL.out.lt k hk; omega⟩; have RG_y : Aside0 (w.heap.size ≤ y) := ⟨Nat.le_trans XT.out.size (Nat.le_of_eq hg.symm)⟩; have NE_q_y : Aside0 (q ≠ y) := ⟨ne_born (blk_lt BK_q.out) hg⟩; have NE_z_y : Aside0 (z ≠ y) := ⟨ne_born (blk_lt BK_z.out) hg⟩; clear hg; have BK_qn : Aside0 (w3.heap[q]? = some (.cells #[.int .i64 3, .int .i64 (a : Int), .int .i64 (c : Int), .slice A 0 cc, .int .i64 t, .int .i64 n, .int .i64 o] 24 (0, 0))) := ⟨blk_below BK_q.out HBc⟩; have BK_zn : Aside0 (w3.heap[z]? = some (.cells #[.slice none 0 0, .int .i64 0] 30 (0, 0))) := ⟨blk_below BK_z.out HBc⟩; have SLn : Aside0 (IsSlv 51 w3 g R (X)) := ⟨SL.out.below HBc⟩; have XTn : Aside0 (Ext (Fp g R) w w3) := ⟨XT.out.stepB HBc⟩; have HVn : Aside0 (Ever (Fp g R) w3 (fun W => Kd.C (Kd.int .i64) W A v.length v)) := ⟨HV.out.step (.of_below HBc)⟩; clear BK_q BK_z SL XT HV; have BK_q := BK_qn; have BK_z := BK_zn; have SL := SLn; have XT := XTn; have HV := HVn; clear BK_qn BK_zn SLn XTn HVn; have BK_y : Aside0 (w3.heap[y]? = some (.cells #[.slice none 0 0, .int .i64 0] 30 (0, 0))) := ⟨hbox⟩; clear hbox HBc; have lc4_0 : w3.cell? ⟨q, 0, none⟩ = some (.int .i64 3) := (blk_cell BK_q.out 0).trans rfl; have lf4_0 := blk_frozen BK_q.out 0; have lc4_1 : w3.cell? ⟨q, 1, none⟩ = some (.int .i64 (a : Int)) := (blk_cell BK_q.out 1).trans rfl; have lf4_1 := blk_frozen BK_q.out 1; have lc4_2 : w3.cell? ⟨q, 2, none⟩ = some (.int .i64 (c : Int)) := (blk_cell BK_q.out 2).trans rfl; have lf4_2 := blk_frozen BK_q.out 2; have lc4_3 : w3.cell? ⟨q, 3, none⟩ = some (.slice A 0 cc) := (blk_cell BK_q.out 3).trans rfl; have lf4_3 := blk_frozen BK_q.out 3; have lc4_4 : w3.cell? ⟨q, 4, none⟩ = some (.int .i64 t) := (blk_cell BK_q.out 4).trans rfl; have lf4_4 := blk_frozen BK_q.out 4; have lc4_5 : w3.cell? ⟨q, 5, none⟩ = some (.int .i64 n) := (blk_cell BK_q.out 5).trans rfl; have lf4_5 := blk_frozen BK_q.out 5; have lc4_6 : w3.cell? ⟨q, 6, none⟩ = some (.int .i64 o) := (blk_cell BK_q.out 6).trans rfl; have lf4_6 := blk_frozen BK_q.out 6; have lc5_0 : w3.cell? ⟨z, 0, none⟩ = some (.slice none 0 0) := (blk_cell BK_z.out 0).trans rfl; have lf5_0 := blk_frozen BK_z.out 0; have lc5_1 : w3.cell? ⟨z, 1, none⟩ = some (.int .i64 0) := (blk_cell BK_z.out 1).trans rfl; have lf5_1 := blk_frozen BK_z.out 1; have lc6_0 : w3.cell? ⟨y, 0, none⟩ = some (.slice none 0 0) := (blk_cell BK_y.out 0).trans rfl; have lf6_0 := blk_frozen BK_y.out 0; have lc6_1 : w3.cell? ⟨y, 1, none⟩ = some (.int .i64 0) := (blk_cell BK_y.out 1).trans rfl; have lf6_1 := blk_frozen BK_y.out 1))
  have HSZ : Aside0 (w.heap.size ≤ w3.heap.size ∧ z < w3.heap.size) := ⟨⟨XT.out.size, blk_lt BK_z.out⟩⟩
  obtain ⟨xs, hxs⟩ : ∃ xs, (X) 2 = xs := ⟨_, rfl⟩; have HXS := Aside0.mk hxs
  obtain ⟨r, hr⟩ : ∃ r, R 2 = r := ⟨_, rfl⟩; have HR := Aside0.mk hr
  obtain ⟨L, hL⟩ : ∃ L, xs.length = L := ⟨_, rfl⟩; have HL := Aside0.mk hL
  have HFX : Aside0 (a + c ≤ L) := ⟨by rw [← hL, ← hxs]; exact HFIT.out⟩; have HLB : Aside0 (L ≤ 65536) := ⟨by rw [← hL, ← hxs]; exact SL.out.len 2 (by omega)⟩
  have HROW : Aside0 (w3.heap[r]? = some (.cells (xs.map (Value.int .i64)).toArray 3 (0, 0))) := ⟨by have h1 := SL.out.row 2 (by omega); rw [hr, hxs] at h1; exact h1⟩
  have HGC : Aside0 (w3.cell? ⟨g, 2, none⟩ = some (.slice (some ⟨r, 0, none⟩) L L)) := ⟨by have h1 := SL.out.cell (k := 2) (by omega); unfold sl at h1; rw [hr, hxs, hL] at h1; exact h1⟩
  have HLTS : Aside0 (y < w3.heap.size ∧ q < w3.heap.size ∧ g < w3.heap.size ∧ r < w3.heap.size) := ⟨⟨blk_lt BK_y.out, blk_lt BK_q.out, blk_lt SL.out.blk, blk_lt HROW.out⟩⟩
  have NGY : Aside0 (g ≠ y ∧ r ≠ y) := ⟨⟨NS_y.out g (.inl rfl), NS_y.out r (.inr ⟨2, by omega, hr.symm⟩)⟩⟩
  clear hxs hr hL
  go_loopw [10] (fun u wr => ∃ k : Nat, k ≤ c ∧ u = .int .i64 k ∧ Aside0 (∃ vv, wr.heap[y]? = some (.cells #[vv, .int .i64 0] 30 (0, 0)) ∧ Kd.R (Kd.int .i64) 3 wr w3.heap.size (fun _ => True) vv ((rdAt xs a c).take k)) ∧ Aside0 (Ext (fun k => k = y) w3 wr)) (fun u _ => c - (intOf u).toNat)
  case atStart => exact ⟨0, by omega, rfl, ⟨_, BK_y.out, Kd.R_nil _ _ _ _ _⟩, ⟨Ext.refl _ _⟩⟩
  case round =>
    obtain ⟨k, hk, rfl, HV2, HE⟩ := hrel
    obtain ⟨vv, hby, hRv⟩ := HV2.out
    clear HV2
    have BY := Aside0.mk hby; have HRV := Aside0.mk hRv; clear hby hRv
    have BQ : Aside0 (wr.heap[q]? = some (.cells #[.int .i64 3, .int .i64 (a : Int), .int .i64 (c : Int), .slice A 0 cc, .int .i64 t, .int .i64 n, .int .i64 o] 24 (0, 0))) := ⟨Ext.blk HE.out BK_q.out NE_q_y.out⟩
    have lq0 : wr.cell? ⟨q, 0, none⟩ = some (.int .i64 3) := (blk_cell BQ.out 0).trans rfl; have lqf0 := blk_frozen BQ.out 0
    have lq1 : wr.cell? ⟨q, 1, none⟩ = some (.int .i64 (a : Int)) := (blk_cell BQ.out 1).trans rfl; have lqf1 := blk_frozen BQ.out 1
    have lq2 : wr.cell? ⟨q, 2, none⟩ = some (.int .i64 (c : Int)) := (blk_cell BQ.out 2).trans rfl; have lqf2 := blk_frozen BQ.out 2
    have lq3 : wr.cell? ⟨q, 3, none⟩ = some (.slice A 0 cc) := (blk_cell BQ.out 3).trans rfl; have lqf3 := blk_frozen BQ.out 3
    have lq4 : wr.cell? ⟨q, 4, none⟩ = some (.int .i64 t) := (blk_cell BQ.out 4).trans rfl; have lqf4 := blk_frozen BQ.out 4
    have lq5 : wr.cell? ⟨q, 5, none⟩ = some (.int .i64 n) := (blk_cell BQ.out 5).trans rfl; have lqf5 := blk_frozen BQ.out 5
    have lq6 : wr.cell? ⟨q, 6, none⟩ = some (.int .i64 o) := (blk_cell BQ.out 6).trans rfl; have lqf6 := blk_frozen BQ.out 6
    by_cases hlt : k < c
    · have t1 : decide (k < c) = true := decide_eq_true hlt
      have t2 : decide ((k : Int) < (c : Int)) = true := decide_eq_true (by omega)
      have HKC : Aside0 (k < c) := ⟨hlt⟩
      obtain ⟨p, hp⟩ : ∃ p, a + k = p := ⟨_, rfl⟩; have hpL : p < L := (by have := HFX.out; omega); have HP := Aside0.mk hp
      have hp0 := eq_true (show (0 : Int) ≤ (p : Int) by omega); have hp1 := eq_true (show (p : Int) < (L : Int) by omega); have hp2 := eq_true hpL
      have HWP : Aside0 (wrap64 ((a : Int) + (k : Int)) = (p : Int)) := ⟨by have := HLB.out; rw [wrap64_of (by omega) (by omega)]; omega⟩
      have hc0 : Aside0 (w3.cell? ⟨r, p, none⟩ = some (.int .i64 (xs.getD p 0))) := ⟨row_cell HROW.out (by rw [HL.out]; exact hpL)⟩
      obtain ⟨x, hx⟩ : ∃ x, xs.getD p 0 = x := ⟨_, rfl⟩; rw [hx] at hc0; have HX := Aside0.mk hx; clear hx hp hlt
      have HK : Aside0 (∀ W, Below w3.heap.size wr W → ((W.cell? ⟨y, 0, none⟩ = some vv ∧ W.cell? ⟨q, 1, none⟩ = some (.int .i64 a)) ∧ (W.cell? ⟨g, 2, none⟩ = some (.slice (some ⟨r, 0, none⟩) L L) ∧ W.cell? ⟨r, p, none⟩ = some (.int .i64 x))) ∧ W.frozen? ⟨y, 0, none⟩ = false) := ⟨fun W hB => ⟨⟨⟨(hB.cell (p := ⟨y, 0, none⟩) HLTS.out.1).trans ((blk_cell BY.out 0).trans rfl), (hB.cell (p := ⟨q, 1, none⟩) HLTS.out.2.1).trans ((blk_cell BQ.out 1).trans rfl)⟩, (hB.cell (p := ⟨g, 2, none⟩) HLTS.out.2.2.1).trans ((HE.out.cellb HLTS.out.2.2.1 NGY.out.1).trans HGC.out), (hB.cell (p := ⟨r, p, none⟩) HLTS.out.2.2.2).trans ((HE.out.cellb HLTS.out.2.2.2 NGY.out.2).trans hc0.out)⟩, (hB.frozen (p := ⟨y, 0, none⟩) HLTS.out.1).trans (blk_frozen BY.out 0)⟩⟩
      have HSW : Aside0 (w3.heap.size ≤ wr.heap.size) := ⟨HE.out.size⟩
      have HW1 : Aside0 (wrap64 ((k : Int) + 1) = (k : Int) + 1) := ⟨wrap64_of (by omega) (by have := HB.out; omega)⟩
      have HBR : Aside0 (Below w3.heap.size wr wr) := ⟨Below.refl _ _⟩
      go_upto_region 29 with (fail)
      refine start_ (n := 19) (S := fun W => ((W.cell? ⟨y, 0, none⟩ = some vv ∧ W.cell? ⟨q, 1, none⟩ = some (.int .i64 a)) ∧ (W.cell? ⟨g, 2, none⟩ = some (.slice (some ⟨r, 0, none⟩) L L) ∧ W.cell? ⟨r, p, none⟩ = some (.int .i64 x))) ∧ W.frozen? ⟨y, 0, none⟩ = false) (ds := [18]) #[false, false, false, false, false, false, false, false, false, false, false, false, false, false, false, false, false, false, false] (by kernel_rfl) rfl rfl ?_ (fun hHeld => ?_)
      · exact HK.out _ (by repeat (first | (with_reducible first | exact HB9.out | refine below_allocb HSW.out ?_ _ | apply pw_below_drewN | apply below_drew1) | (with_reducible exact HBR.out) | exact HB9.out | exact HBR.out))
      refine pure_ (i := 0) (N := some 96) (v := ?_) (a' := ?_) #[true, false, false, false, false, false, false, false, false, false, false, false, false, false, false, false, false, false, false] rfl rfl (by kernel_rfl) (fun _ _ _ h => h) (Or.inl ⟨by rfl, ?_⟩) ?_ ?_
      rotate_left
      · intro w'
        go_simp
        with_reducible rfl
      rotate_left
      · simp only [Act.put, List.setIfInBounds_toArray, List.set_cons_zero, List.set_cons_succ, i64_w, i32_w, HWP.out, wk1, wk2, wk3, wk4]
        rfl
      refine take_ (i := 1) (N := some 97) (v := ?_) (a' := ?_) #[true, true, false, false, false, false, false, false, false, false, false, false, false, false, false, false, false, false, false] rfl rfl (by kernel_rfl) (fun _ _ _ h => h) (Or.inl ⟨by rfl, ?_⟩) hHeld ?_ ?_
      rotate_left
      · rintro w' ⟨⟨⟨s0, s1⟩, s2, s3⟩, s4⟩
        go_simp
        with_reducible rfl
      rotate_left
      · simp only [Act.put, List.setIfInBounds_toArray, List.set_cons_zero, List.set_cons_succ, i64_w, i32_w, HWP.out, wk1, wk2, wk3, wk4]
        rfl
      refine pure_ (i := 2) (N := some 98) (v := ?_) (a' := ?_) #[true, true, true, false, false, false, false, false, false, false, false, false, false, false, false, false, false, false, false] rfl rfl (by kernel_rfl) (fun _ _ _ h => h) (Or.inl ⟨by rfl, ?_⟩) ?_ ?_
      rotate_left
      · intro w'
        go_simp
        with_reducible rfl
      rotate_left
      · simp only [Act.put, List.setIfInBounds_toArray, List.set_cons_zero, List.set_cons_succ, i64_w, i32_w, HWP.out, wk1, wk2, wk3, wk4]
        rfl
      refine pure_ (i := 3) (N := some 99) (v := ?_) (a' := ?_) #[true, true, true, true, false, false, false, false, false, false, false, false, false, false, false, false, false, false, false] rfl rfl (by kernel_rfl) (fun _ _ _ h => h) (Or.inl ⟨by rfl, ?_⟩) ?_ ?_
      rotate_left
      · intro w'
        go_simp
        with_reducible rfl
      rotate_left
      · simp only [Act.put, List.setIfInBounds_toArray, List.set_cons_zero, List.set_cons_succ, i64_w, i32_w, HWP.out, wk1, wk2, wk3, wk4]
        rfl
      refine pure_ (i := 4) (N := some 100) (v := ?_) (a' := ?_) #[true, true, true, true, true, false, false, false, false, false, false, false, false, false, false, false, false, false, false] rfl rfl (by kernel_rfl) (fun _ _ _ h => h) (Or.inl ⟨by rfl, ?_⟩) ?_ ?_
      rotate_left
      · intro w'
        go_simp
        with_reducible rfl
      rotate_left
      · simp only [Act.put, List.setIfInBounds_toArray, List.set_cons_zero, List.set_cons_succ, i64_w, i32_w, HWP.out, wk1, wk2, wk3, wk4]
        rfl
      refine pure_ (i := 5) (N := some 101) (v := ?_) (a' := ?_) #[true, true, true, true, true, true, false, false, false, false, false, false, false, false, false, false, false, false, false] rfl rfl (by kernel_rfl) (fun _ _ _ h => h) (Or.inl ⟨by rfl, ?_⟩) ?_ ?_
      rotate_left
      · intro w'
        go_simp
        with_reducible rfl
      rotate_left
      · simp only [Act.put, List.setIfInBounds_toArray, List.set_cons_zero, List.set_cons_succ, i64_w, i32_w, HWP.out, wk1, wk2, wk3, wk4]
        rfl
      refine pure_ (i := 6) (N := some 102) (v := ?_) (a' := ?_) #[true, true, true, true, true, true, true, false, false, false, false, false, false, false, false, false, false, false, false] rfl rfl (by kernel_rfl) (fun _ _ _ h => h) (Or.inl ⟨by rfl, ?_⟩) ?_ ?_
      rotate_left
      · intro w'
        go_simp
        with_reducible rfl
      rotate_left
      · simp only [Act.put, List.setIfInBounds_toArray, List.set_cons_zero, List.set_cons_succ, i64_w, i32_w, HWP.out, wk1, wk2, wk3, wk4]
        rfl
      refine take_ (i := 7) (N := some 103) (v := ?_) (a' := ?_) #[true, true, true, true, true, true, true, true, false, false, false, false, false, false, false, false, false, false, false] rfl rfl (by kernel_rfl) (fun _ _ _ h => h) (Or.inl ⟨by rfl, ?_⟩) hHeld ?_ ?_
      rotate_left
      · rintro w' ⟨⟨⟨s0, s1⟩, s2, s3⟩, s4⟩
        go_simp
        with_reducible rfl
      rotate_left
      · simp only [Act.put, List.setIfInBounds_toArray, List.set_cons_zero, List.set_cons_succ, i64_w, i32_w, HWP.out, wk1, wk2, wk3, wk4]
        rfl
      refine take_ (i := 8) (N := some 104) (v := ?_) (a' := ?_) #[true, true, true, true, true, true, true, true, true, false, false, false, false, false, false, false, false, false, false] rfl rfl (by kernel_rfl) (fun _ _ _ h => h) (Or.inl ⟨by rfl, ?_⟩) hHeld ?_ ?_
      rotate_left
      · rintro w' ⟨⟨⟨s0, s1⟩, s2, s3⟩, s4⟩
        go_simp
        with_reducible rfl
      rotate_left
      · simp only [Act.put, List.setIfInBounds_toArray, List.set_cons_zero, List.set_cons_succ, i64_w, i32_w, HWP.out, wk1, wk2, wk3, wk4]
        rfl
      refine pure_ (i := 9) (N := some 105) (v := ?_) (a' := ?_) #[true, true, true, true, true, true, true, true, true, true, false, false, false, false, false, false, false, false, false] rfl rfl (by kernel_rfl) (fun _ _ _ h => h) (Or.inl ⟨by rfl, ?_⟩) ?_ ?_
      rotate_left
      · intro w'
        go_simp
        with_reducible rfl
      rotate_left
      · simp only [Act.put, List.setIfInBounds_toArray, List.set_cons_zero, List.set_cons_succ, i64_w, i32_w, HWP.out, wk1, wk2, wk3, wk4]
        rfl
      refine take_ (i := 10) (N := some 106) (v := ?_) (a' := ?_) #[true, true, true, true, true, true, true, true, true, true, true, false, false, false, false, false, false, false, false] rfl rfl (by kernel_rfl) (fun _ _ _ h => h) (Or.inl ⟨by rfl, ?_⟩) hHeld ?_ ?_
      rotate_left
      · rintro w' ⟨⟨⟨s0, s1⟩, s2, s3⟩, s4⟩
        go_simp
        with_reducible rfl
      rotate_left
      · simp only [Act.put, List.setIfInBounds_toArray, List.set_cons_zero, List.set_cons_succ, i64_w, i32_w, HWP.out, wk1, wk2, wk3, wk4]
        rfl
      refine pure_ (i := 11) (N := some 107) (v := ?_) (a' := ?_) #[true, true, true, true, true, true, true, true, true, true, true, true, false, false, false, false, false, false, false] rfl rfl (by kernel_rfl) (fun _ _ _ h => h) (Or.inl ⟨by rfl, ?_⟩) ?_ ?_
      rotate_left
      · intro w'
        go_simp
        with_reducible rfl
      rotate_left
      · simp only [Act.put, List.setIfInBounds_toArray, List.set_cons_zero, List.set_cons_succ, i64_w, i32_w, HWP.out, wk1, wk2, wk3, wk4]
        rfl
      refine pure_ (i := 12) (N := some 108) (v := ?_) (a' := ?_) #[true, true, true, true, true, true, true, true, true, true, true, true, true, false, false, false, false, false, false] rfl rfl (by kernel_rfl) (fun _ _ _ h => h) (Or.inl ⟨by rfl, ?_⟩) ?_ ?_
      rotate_left
      · intro w'
        go_simp
        with_reducible rfl
      rotate_left
      · simp only [Act.put, List.setIfInBounds_toArray, List.set_cons_zero, List.set_cons_succ, i64_w, i32_w, HWP.out, wk1, wk2, wk3, wk4]
        rfl
      refine take_ (i := 13) (N := some 109) (v := ?_) (a' := ?_) #[true, true, true, true, true, true, true, true, true, true, true, true, true, true, false, false, false, false, false] rfl rfl (by kernel_rfl) (fun _ _ _ h => h) (Or.inl ⟨by rfl, ?_⟩) hHeld ?_ ?_
      rotate_left
      · rintro w' ⟨⟨⟨s0, s1⟩, s2, s3⟩, s4⟩
        go_simp
        with_reducible rfl
      rotate_left
      · simp only [Act.put, List.setIfInBounds_toArray, List.set_cons_zero, List.set_cons_succ, i64_w, i32_w, HWP.out, wk1, wk2, wk3, wk4]
        rfl
      refine take_ (i := 14) (N := some 110) (v := ?_) (a' := ?_) #[true, true, true, true, true, true, true, true, true, true, true, true, true, true, true, false, false, false, false] rfl rfl (by kernel_rfl) (fun _ _ _ h => h) (Or.inl ⟨by rfl, ?_⟩) hHeld ?_ ?_
      rotate_left
      · rintro w' ⟨⟨⟨s0, s1⟩, s2, s3⟩, s4⟩
        go_simp
        with_reducible rfl
      rotate_left
      · simp only [Act.put, List.setIfInBounds_toArray, List.set_cons_zero, List.set_cons_succ, i64_w, i32_w, HWP.out, wk1, wk2, wk3, wk4]
        rfl
      refine one_ (i := 15) (N := some 111) #[true, true, true, true, true, true, true, true, true, true, true, true, true, true, true, true, false, false, false] rfl rfl (by kernel_rfl) (by decide) (fun K hK => ?_)
      refine value_ (v := ?vv) (w1 := ?ww) (by rfl) rfl ?hr ?kk
      case hr => (go_simp; refine And.intro ?_ ?_ <;> rfl)
      refine hK.out _ _ ?_ (fun hHeld => ?_)
      · exact HK.out _ (by repeat (first | (with_reducible first | exact HB9.out | refine below_allocb HSW.out ?_ _ | apply pw_below_drewN | apply below_drew1) | (with_reducible exact HBR.out) | exact HB9.out | exact HBR.out))
      clear hK K
      refine norm_ (a' := ?_) ?_ ?_
      rotate_left
      · show Act.put _ (some 111) _ = _
        simp only [Act.put, List.setIfInBounds_toArray, List.set_cons_zero, List.set_cons_succ, i64_w, i32_w, HWP.out, wk1, wk2, wk3, wk4]
        rfl
      refine one_ (i := 16) (N := some 112) #[true, true, true, true, true, true, true, true, true, true, true, true, true, true, true, true, true, false, false] rfl rfl (by kernel_rfl) (by decide) (fun K hK => ?_)
      refine Kd.R_append_step (Kd.int .i64) (w0 := wr) (W := wr.drew) w3.heap.size ?aW (.tmp 97) (.tmp 111) 22 3 (.int .i64 0) 8 rfl Try.underlying22 info3 rfl (by decide) (by decide) vv ((rdAt xs a c).take k) x [.int .i64 x] (fun _ => True) (fun _ => False) rfl rfl ?aP (fun _ e => e.elim) (fun _ _ => trivial) ?aO ?aB ?aS ?aL ?_
      case aW => rfl
      case aP => exact rfl
      case aO => (with_reducible repeat (first | apply Kd.R_alloc | apply Kd.R_drewN | apply Kd.R_drew)); exact HRV.out
      case aB => exact (by repeat (first | (with_reducible first | exact HB9.out | refine below_allocb HSW.out ?_ _ | apply pw_below_drewN | apply below_drew1) | (with_reducible exact HBR.out) | exact HB9.out | exact HBR.out))
      case aS => exact Nat.le_trans HE.out.size (by first | exact Nat.le_refl _ | (simp; done) | (simp; omega))
      case aL => (have := HKC.out; have := HFX.out; have := HLB.out; rw [List.length_take]; omega)
      intro v1 w9 HO9 HB9 hg9 hat9
      obtain ⟨A9, c9, e9⟩ := Kd.R_slice HO9
      obtain ⟨m9, hm9⟩ : ∃ m, ((rdAt xs a c).take k ++ [x]).length = m := ⟨_, rfl⟩
      rw [hm9] at e9; subst e9; clear hm9 hg9 hat9
      have HO9 := Aside0.mk HO9; have HB9 := Aside0.mk HB9
      have hy9 := (HK.out _ HB9.out).1.1.1; have hyf9 := (HK.out _ HB9.out).2
      refine hK.out _ _ ?_ (fun hHeld => ?_)
      · exact HK.out _ (by repeat (first | (with_reducible first | exact HB9.out | refine below_allocb HSW.out ?_ _ | apply pw_below_drewN | apply below_drew1) | (with_reducible exact HBR.out) | exact HB9.out | exact HBR.out))
      clear hK K
      refine norm_ (a' := ?_) ?_ ?_
      rotate_left
      · show Act.put _ (some 112) _ = _
        simp only [Act.put, List.setIfInBounds_toArray, List.set_cons_zero, List.set_cons_succ, i64_w, i32_w, HWP.out, wk1, wk2, wk3, wk4]
        rfl
      refine pure_ (i := 17) (N := some 113) (v := ?_) (a' := ?_) #[true, true, true, true, true, true, true, true, true, true, true, true, true, true, true, true, true, true, false] rfl rfl (by kernel_rfl) (fun _ _ _ h => h) (Or.inl ⟨by rfl, ?_⟩) ?_ ?_
      rotate_left
      · intro w'
        go_simp
        with_reducible rfl
      rotate_left
      · simp only [Act.put, List.setIfInBounds_toArray, List.set_cons_zero, List.set_cons_succ, i64_w, i32_w, HWP.out, wk1, wk2, wk3, wk4]
        rfl
      refine last_ (i := 18) (N := none) #[true, true, true, true, true, true, true, true, true, true, true, true, true, true, true, true, true, true, true] rfl rfl (by kernel_rfl) (by decide) (fun K hK => ?_)
      refine skip_ (w1 := ?_) (by rfl) rfl ?_ ?_
      rotate_left
      · go_simp
        rfl
      refine hK.out _ _ ?_
      clear hK K
      refine done_ (by kernel_rfl) ?_
      have BY2 : Aside0 ((w9.setCell ⟨y, 0, none⟩ (.slice A9 m9 c9)).heap[y]? = some (.cells #[(.slice A9 m9 c9), .int .i64 0] 30 (0, 0))) := ⟨blk_put ((HB9.out.block y HLTS.out.1).trans BY.out) 0 (.slice A9 m9 c9) rfl⟩
      have HR2 : Aside0 (Kd.R (Kd.int .i64) 3 (w9.setCell ⟨y, 0, none⟩ (.slice A9 m9 c9)) w3.heap.size (fun _ => True) (.slice A9 m9 c9) ((rdAt xs a c).take (k + 1))) := ⟨by
        have e1 : (rdAt xs a c).take (k + 1) = (rdAt xs a c).take k ++ [x] := by
          have hl : (rdAt xs a c).length = c := rdAt_len (by rw [HL.out]; exact HFX.out)
          have hkc := HKC.out
          rw [List.take_succ_eq_append_getElem (by omega)]
          congr 2
          have hx := HX.out
          have hpp := HP.out
          have hfx := HFX.out; have hll := HL.out
          rw [List.getD_eq_getElem?_getD, List.getElem?_eq_getElem (by omega), Option.getD_some] at hx
          rw [← hx]
          simp only [rdAt, List.getElem_take, List.getElem_drop]
          congr 1
        rw [e1]
        exact Kd.R_mono (Kd.R_move (Kd.R_bound HO9.out) (fun j hj => by
          refine Below.heap_setCell _ _ _ _ ?_
          have := hj.2.1; have := HLTS.out.1
          show j ≠ y
          omega)) (fun _ _ => trivial)⟩
      have HE2 : Aside0 (Ext (fun k => k = y) w3 (w9.setCell ⟨y, 0, none⟩ (.slice A9 m9 c9))) := ⟨(HE.out.grow (M' := fun k => w3.heap.size ≤ k) ⟨HB9.out.os, HB9.out.tape, HB9.out.output, HB9.out.size, fun k hk hn => HB9.out.block k (by omega)⟩ (fun k e => .inr e)).setg _⟩
      clear hy9 hyf9 HRV BY HK HBR HO9 HB9 HE BQ
      clear lq0 lqf0 lq1 lqf1 lq2 lqf2 lq3 lqf3 lq4 lqf4 lq5 lqf5 lq6 lqf6
      go_wp2_with (fail)
      go_roundw
      case rel => exact ⟨k + 1, by have := HKC.out; omega, by rw [HW1.out]; exact congrArg (Value.int .i64) (by omega), ⟨(.slice A9 m9 c9), BY2.out, HR2.out⟩, HE2⟩
      case measure => exact meas HKC.out HW1.out
    · have t1 : decide (k < c) = false := decide_eq_false hlt
      have t2 : decide ((k : Int) < (c : Int)) = false := decide_eq_false (by omega)
      have ek : (rdAt xs a c).take k = rdAt xs a c := List.take_of_length_le (by rw [rdAt_len (by rw [HL.out]; exact HFX.out)]; omega)
      have hRv := HRV.out; rw [ek] at hRv; obtain ⟨AA, cA, rfl⟩ := Kd.R_slice hRv
      have HCA : Aside0 ((rdAt xs a c).length ≤ cA) := ⟨(Kd.R_reads' hRv).2.1⟩
      have HRB := Aside0.mk hRv; clear hRv HRV ek hlt
      have BK_qn : Aside0 (wr.heap[q]? = some (.cells #[.int .i64 3, .int .i64 (a : Int), .int .i64 (c : Int), .slice A 0 cc, .int .i64 t, .int .i64 n, .int .i64 o] 24 (0, 0))) := ⟨BQ.out⟩
      have BK_zn : Aside0 (wr.heap[z]? = some (.cells #[.slice none 0 0, .int .i64 0] 30 (0, 0))) := ⟨Ext.blk HE.out BK_z.out NE_z_y.out⟩
      have BK_yn : Aside0 (wr.heap[y]? = some (.cells #[.slice AA (rdAt xs a c).length cA, .int .i64 0] 30 (0, 0))) := ⟨BY.out⟩
      have SLn : Aside0 (IsSlv 51 wr g R (X)) := ⟨SL.out.ext HE.out (fun k hk e => NS_y.out k hk e)⟩
      have XTn : Aside0 (Ext (Fp g R) w wr) := ⟨XT.out.step HE.out (fun k e => .inr (by rw [show k = y from e]; exact RG_y.out))⟩
      clear BK_y BK_q BK_z SL XT
      have BK_y := BK_yn
      have BK_q := BK_qn
      have BK_z := BK_zn
      have SL := SLn
      have XT := XTn
      clear BK_yn BK_qn BK_zn SLn XTn
      clear BY BQ HV
      clear lq0 lqf0 lq1 lqf1 lq2 lqf2 lq3 lqf3 lq4 lqf4 lq5 lqf5 lq6 lqf6
      have lc7_0 : wr.cell? ⟨q, 0, none⟩ = some (.int .i64 3) := (blk_cell BK_q.out 0).trans rfl; have lf7_0 := blk_frozen BK_q.out 0
      have lc7_1 : wr.cell? ⟨q, 1, none⟩ = some (.int .i64 (a : Int)) := (blk_cell BK_q.out 1).trans rfl; have lf7_1 := blk_frozen BK_q.out 1
      have lc7_2 : wr.cell? ⟨q, 2, none⟩ = some (.int .i64 (c : Int)) := (blk_cell BK_q.out 2).trans rfl; have lf7_2 := blk_frozen BK_q.out 2
      have lc7_3 : wr.cell? ⟨q, 3, none⟩ = some (.slice A 0 cc) := (blk_cell BK_q.out 3).trans rfl; have lf7_3 := blk_frozen BK_q.out 3
      have lc7_4 : wr.cell? ⟨q, 4, none⟩ = some (.int .i64 t) := (blk_cell BK_q.out 4).trans rfl; have lf7_4 := blk_frozen BK_q.out 4
      have lc7_5 : wr.cell? ⟨q, 5, none⟩ = some (.int .i64 n) := (blk_cell BK_q.out 5).trans rfl; have lf7_5 := blk_frozen BK_q.out 5
      have lc7_6 : wr.cell? ⟨q, 6, none⟩ = some (.int .i64 o) := (blk_cell BK_q.out 6).trans rfl; have lf7_6 := blk_frozen BK_q.out 6
      have lc8_0 : wr.cell? ⟨z, 0, none⟩ = some (.slice none 0 0) := (blk_cell BK_z.out 0).trans rfl; have lf8_0 := blk_frozen BK_z.out 0
      have lc8_1 : wr.cell? ⟨z, 1, none⟩ = some (.int .i64 0) := (blk_cell BK_z.out 1).trans rfl; have lf8_1 := blk_frozen BK_z.out 1
      have lc9_0 : wr.cell? ⟨y, 0, none⟩ = some (.slice AA (rdAt xs a c).length cA) := (blk_cell BK_y.out 0).trans rfl; have lf9_0 := blk_frozen BK_y.out 0
      have lc9_1 : wr.cell? ⟨y, 1, none⟩ = some (.int .i64 0) := (blk_cell BK_y.out 1).trans rfl; have lf9_1 := blk_frozen BK_y.out 1
      go_wp2_with (first | ((with_reducible refine gate_store (p := 4) rfl ?_); refine store_event (w1 := ?_) rfl (p := 4) rfl rfl ?hr ?_; rotate_left; (case hr => go_simp; rfl); intro w5 hw_; obtain ⟨hput, HEc⟩ := put2 hw_ BK_z.out; clear hw_; have BK_qn : Aside0 (w5.heap[q]? = some (.cells #[.int .i64 3, .int .i64 (a : Int), .int .i64 (c : Int), .slice A 0 cc, .int .i64 t, .int .i64 n, .int .i64 o] 24 (0, 0))) := ⟨Ext.blk HEc BK_q.out (NE_q_z.out)⟩; have BK_yn : Aside0 (w5.heap[y]? = some (.cells #[.slice AA (rdAt xs a c).length cA, .int .i64 0] 30 (0, 0))) := ⟨Ext.blk HEc BK_y.out (fun e => NE_z_y.out e.symm)⟩; have SLn : Aside0 (IsSlv 51 w5 g R (X)) := ⟨SL.out.ext HEc (fun k hk e => NS_z.out k hk e)⟩; have XTn : Aside0 (Ext (Fp g R) w w5) := ⟨XT.out.step HEc (fun k e => .inr (by rw [show k = z from e]; exact RG_z.out))⟩; clear BK_q BK_y SL XT; have BK_q := BK_qn; have BK_y := BK_yn; have SL := SLn; have XT := XTn; clear BK_qn BK_yn SLn XTn; clear BK_z; have BK_z : Aside0 (w5.heap[z]? = some (.cells #[.slice AA (rdAt xs a c).length cA, .int .i64 0] 30 (0, 0))) := ⟨hput⟩; have HST := Aside0.mk HEc; clear hput HEc))
      refine bodyPost_ret (results_cell_row rfl _ _ z 30 #[.slice AA (rdAt xs a c).length cA, .int .i64 0] (0, 0) _ rfl BK_z.out Try.underlying30 rfl (by kernel_rfl)) rfl ?_
      rw [HXS.out]
      refine ⟨AA, cA, rfl, HCA.out, SL.out, XT.out, fun M hM => ?_⟩
      have hEv := Ever.R (M := fun k => M k ∨ k = z) HRB.out (fun k hk => by rcases hk with hk | hk; exact Nat.lt_of_lt_of_le (hM k hk) HSZ.out.1; rw [hk]; exact HSZ.out.2)
      exact hEv.grow (HST.out.sub (fun k e => .inr e)) (fun k hk => .inl (.inl hk))
set_option maxHeartbeats 4000000 in
set_option maxRecDepth 100000 in
theorem rdo_r3_no {w : World} {g : Nat} {R : Nat → Nat} {X : Nat → List Int} (h : IsSlv 51 w g R X) {A : Option Addr} {cc : Nat} {v : List Int} (hn : v.length = 0) (hV : Ever (Fp g R) w (fun W => Kd.C (Kd.int .i64) W A v.length v)) {a c : Nat} {t n o : Int} (hb : a ≤ 1000000 ∧ c ≤ 1000000 ∧ 0 < c) (hlt : (X 3).length < a + c) : Calls Try.prog 21 #[.pointer (some ⟨g, 0, none⟩), .agg #[.int .i64 4, .int .i64 (a : Int), .int .i64 (c : Int), .slice A 0 cc, .int .i64 t, .int .i64 n, .int .i64 o]] w fun e w' => ∃ AA cA, e = .returned (.agg #[.slice AA (([] : List Int)).length cA, .int .i64 2]) ∧ (([] : List Int)).length ≤ cA ∧ IsSlv 51 w' g R (X) ∧ Ext (Fp g R) w w' ∧ IsAns w w' AA (([] : List Int)) := by
  have SL : Aside0 (IsSlv 51 w g R (X)) := ⟨h⟩; have XT : Aside0 (Ext (Fp g R) w w) := ⟨Ext.refl _ _⟩; have HV := Aside0.mk hV; have HN := Aside0.mk hn; have tA := Aside0.mk trivial
  have HB := Aside0.mk hb
  have HD : Aside0 (∀ ad : Int, ad = (a : Int) + (c : Int) - 1 → decide (has X 4 ad) = false) := ⟨fun ad e => decide_eq_false (by rw [e]; unfold has; rw [show ((4 : Int) - 1).toNat = 3 from rfl]; omega)⟩
  clear hb hlt
  clear h hV hn
  go_enter Try.func21, Try.ntmps21
  go_wp2_with (first | ((with_reducible refine gate_dst (N := 3) rfl ?_); refine box_event ?hg (N := 3) ?hd (cs := #[.int .i64 4, .int .i64 (a : Int), .int .i64 (c : Int), .slice A 0 cc, .int .i64 t, .int .i64 n, .int .i64 o]) (t := 24) ?hr ?_; (case hd => rfl); (case hg => rfl); (case hr => first | (go_simp; done) | (go_simp; rfl)); intro q hg w1 hbox HBc; have NS_q : Aside0 (∀ k, Fp g R k → k ≠ q) := ⟨fun k hk e => by have := SL.out.lt k hk; omega⟩; have RG_q : Aside0 (w.heap.size ≤ q) := ⟨Nat.le_trans XT.out.size (Nat.le_of_eq hg.symm)⟩; clear hg; have SLn : Aside0 (IsSlv 51 w1 g R (X)) := ⟨SL.out.below HBc⟩; have XTn : Aside0 (Ext (Fp g R) w w1) := ⟨XT.out.stepB HBc⟩; have HVn : Aside0 (Ever (Fp g R) w1 (fun W => Kd.C (Kd.int .i64) W A v.length v)) := ⟨HV.out.step (.of_below HBc)⟩; clear SL XT HV; have SL := SLn; have XT := XTn; have HV := HVn; clear SLn XTn HVn; have BK_q : Aside0 (w1.heap[q]? = some (.cells #[.int .i64 4, .int .i64 (a : Int), .int .i64 (c : Int), .slice A 0 cc, .int .i64 t, .int .i64 n, .int .i64 o] 24 (0, 0))) := ⟨hbox⟩; clear hbox HBc; have lc1_0 : w1.cell? ⟨q, 0, none⟩ = some (.int .i64 4) := (blk_cell BK_q.out 0).trans rfl; have lf1_0 := blk_frozen BK_q.out 0; have lc1_1 : w1.cell? ⟨q, 1, none⟩ = some (.int .i64 (a : Int)) := (blk_cell BK_q.out 1).trans rfl; have lf1_1 := blk_frozen BK_q.out 1; have lc1_2 : w1.cell? ⟨q, 2, none⟩ = some (.int .i64 (c : Int)) := (blk_cell BK_q.out 2).trans rfl; have lf1_2 := blk_frozen BK_q.out 2; have lc1_3 : w1.cell? ⟨q, 3, none⟩ = some (.slice A 0 cc) := (blk_cell BK_q.out 3).trans rfl; have lf1_3 := blk_frozen BK_q.out 3; have lc1_4 : w1.cell? ⟨q, 4, none⟩ = some (.int .i64 t) := (blk_cell BK_q.out 4).trans rfl; have lf1_4 := blk_frozen BK_q.out 4; have lc1_5 : w1.cell? ⟨q, 5, none⟩ = some (.int .i64 n) := (blk_cell BK_q.out 5).trans rfl; have lf1_5 := blk_frozen BK_q.out 5; have lc1_6 : w1.cell? ⟨q, 6, none⟩ = some (.int .i64 o) := (blk_cell BK_q.out 6).trans rfl; have lf1_6 := blk_frozen BK_q.out 6) | ((with_reducible refine gate_dst (N := 4) rfl ?_); refine box_event ?hg (N := 4) ?hd (cs := #[.slice none 0 0, .int .i64 0]) (t := 30) ?hr ?_; (case hd => rfl); (case hg => rfl); (case hr => first | (go_simp; done) | (go_simp; rfl)); intro z hg w2 hbox HBc; have NS_z : Aside0 (∀ k, Fp g R k → k ≠ z) := ⟨fun k hk e => by have := SL.out.lt k hk; omega⟩; have RG_z : Aside0 (w.heap.size ≤ z) := ⟨Nat.le_trans XT.out.size (Nat.le_of_eq hg.symm)⟩; have NE_q_z : Aside0 (q ≠ z) := ⟨ne_born (blk_lt BK_q.out) hg⟩; clear hg; have BK_qn : Aside0 (w2.heap[q]? = some (.cells #[.int .i64 4, .int .i64 (a : Int), .int .i64 (c : Int), .slice A 0 cc, .int .i64 t, .int .i64 n, .int .i64 o] 24 (0, 0))) := ⟨blk_below BK_q.out HBc⟩; have SLn : Aside0 (IsSlv 51 w2 g R (X)) := ⟨SL.out.below HBc⟩; have XTn : Aside0 (Ext (Fp g R) w w2) := ⟨XT.out.stepB HBc⟩; have HVn : Aside0 (Ever (Fp g R) w2 (fun W => Kd.C (Kd.int .i64) W A v.length v)) := ⟨HV.out.step (.of_below HBc)⟩; clear BK_q SL XT HV; have BK_q := BK_qn; have SL := SLn; have XT := XTn; have HV := HVn; clear BK_qn SLn XTn HVn; have BK_z : Aside0 (w2.heap[z]? = some (.cells #[.slice none 0 0, .int .i64 0] 30 (0, 0))) := ⟨hbox⟩; clear hbox HBc; have lc2_0 : w2.cell? ⟨q, 0, none⟩ = some (.int .i64 4) := (blk_cell BK_q.out 0).trans rfl; have lf2_0 := blk_frozen BK_q.out 0; have lc2_1 : w2.cell? ⟨q, 1, none⟩ = some (.int .i64 (a : Int)) := (blk_cell BK_q.out 1).trans rfl; have lf2_1 := blk_frozen BK_q.out 1; have lc2_2 : w2.cell? ⟨q, 2, none⟩ = some (.int .i64 (c : Int)) := (blk_cell BK_q.out 2).trans rfl; have lf2_2 := blk_frozen BK_q.out 2; have lc2_3 : w2.cell? ⟨q, 3, none⟩ = some (.slice A 0 cc) := (blk_cell BK_q.out 3).trans rfl; have lf2_3 := blk_frozen BK_q.out 3; have lc2_4 : w2.cell? ⟨q, 4, none⟩ = some (.int .i64 t) := (blk_cell BK_q.out 4).trans rfl; have lf2_4 := blk_frozen BK_q.out 4; have lc2_5 : w2.cell? ⟨q, 5, none⟩ = some (.int .i64 n) := (blk_cell BK_q.out 5).trans rfl; have lf2_5 := blk_frozen BK_q.out 5; have lc2_6 : w2.cell? ⟨q, 6, none⟩ = some (.int .i64 o) := (blk_cell BK_q.out 6).trans rfl; have lf2_6 := blk_frozen BK_q.out 6; have lc3_0 : w2.cell? ⟨z, 0, none⟩ = some (.slice none 0 0) := (blk_cell BK_z.out 0).trans rfl; have lf3_0 := blk_frozen BK_z.out 0; have lc3_1 : w2.cell? ⟨z, 1, none⟩ = some (.int .i64 0) := (blk_cell BK_z.out 1).trans rfl; have lf3_1 := blk_frozen BK_z.out 1) | (go_at_call 25; have _t := tA; refine (rhas_c SL.out _ _ (HD.out _ ?hx)).mono ?_; (case hx => (have hB := HB.out; first | rfl | omega | (simp only [wrap64]; omega))); rintro e w' ⟨rfl, rfl⟩; clear tA _t; have tB := Aside0.mk trivial) | ((with_reducible refine gate_store (p := 4) rfl ?_); refine store_event (w1 := ?_) rfl (p := 4) rfl rfl ?hr ?_; rotate_left; (case hr => go_simp; rfl); intro w4 hw_; obtain ⟨hput, HEc⟩ := put2 hw_ BK_z.out; clear hw_; have BK_qn : Aside0 (w4.heap[q]? = some (.cells #[.int .i64 4, .int .i64 (a : Int), .int .i64 (c : Int), .slice A 0 cc, .int .i64 t, .int .i64 n, .int .i64 o] 24 (0, 0))) := ⟨Ext.blk HEc BK_q.out (NE_q_z.out)⟩; have SLn : Aside0 (IsSlv 51 w4 g R (X)) := ⟨SL.out.ext HEc (fun k hk e => NS_z.out k hk e)⟩; have XTn : Aside0 (Ext (Fp g R) w w4) := ⟨XT.out.step HEc (fun k e => .inr (by rw [show k = z from e]; exact RG_z.out))⟩; clear BK_q SL XT; have BK_q := BK_qn; have SL := SLn; have XT := XTn; clear BK_qn SLn XTn; clear BK_z HV; have BK_z : Aside0 (w4.heap[z]? = some (.cells #[.slice none 0 0, .int .i64 2] 30 (0, 0))) := ⟨hput⟩; have HST := Aside0.mk HEc; clear hput HEc))
  refine bodyPost_ret (results_cell_row rfl _ _ z 30 #[.slice none 0 0, .int .i64 2] (0, 0) _ rfl BK_z.out Try.underlying30 rfl (by kernel_rfl)) rfl ?_
  exact ⟨none, 0, rfl, Nat.le_refl _, SL.out, XT.out, fun M hM => Ever.nil _⟩
set_option maxHeartbeats 4000000 in
set_option maxRecDepth 100000 in
theorem rdo_r3_yes {w : World} {g : Nat} {R : Nat → Nat} {X : Nat → List Int} (h : IsSlv 51 w g R X) {A : Option Addr} {cc : Nat} {v : List Int} (hn : v.length = 0) (hV : Ever (Fp g R) w (fun W => Kd.C (Kd.int .i64) W A v.length v)) {a c : Nat} {t n o : Int} (hb : a ≤ 1000000 ∧ c ≤ 1000000 ∧ 0 < c) (hfit : a + c ≤ (X 3).length) : Calls Try.prog 21 #[.pointer (some ⟨g, 0, none⟩), .agg #[.int .i64 4, .int .i64 (a : Int), .int .i64 (c : Int), .slice A 0 cc, .int .i64 t, .int .i64 n, .int .i64 o]] w fun e w' => ∃ AA cA, e = .returned (.agg #[.slice AA (rdAt (X 3) a c).length cA, .int .i64 0]) ∧ (rdAt (X 3) a c).length ≤ cA ∧ IsSlv 51 w' g R (X) ∧ Ext (Fp g R) w w' ∧ IsAns w w' AA (rdAt (X 3) a c) := by
  have SL : Aside0 (IsSlv 51 w g R (X)) := ⟨h⟩; have XT : Aside0 (Ext (Fp g R) w w) := ⟨Ext.refl _ _⟩; have HV := Aside0.mk hV; have HN := Aside0.mk hn; have tA := Aside0.mk trivial
  have HB := Aside0.mk hb
  have HFIT := Aside0.mk hfit
  have HD : Aside0 (∀ ad : Int, ad = (a : Int) + (c : Int) - 1 → decide (has X 4 ad) = true) := ⟨fun ad e => decide_eq_true (by rw [e]; unfold has; rw [show ((4 : Int) - 1).toNat = 3 from rfl]; omega)⟩
  clear hb hfit
  clear h hV hn
  go_enter Try.func21, Try.ntmps21
  go_wp2_with (first | ((with_reducible refine gate_dst (N := 3) rfl ?_); refine box_event ?hg (N := 3) ?hd (cs := #[.int .i64 4, .int .i64 (a : Int), .int .i64 (c : Int), .slice A 0 cc, .int .i64 t, .int .i64 n, .int .i64 o]) (t := 24) ?hr ?_; (case hd => rfl); (case hg => rfl); (case hr => first | (go_simp; done) | (go_simp; rfl)); intro q hg w1 hbox HBc; have NS_q : Aside0 (∀ k, Fp g R k → k ≠ q) := ⟨fun k hk e => by have := SL.out.lt k hk; omega⟩; have RG_q : Aside0 (w.heap.size ≤ q) := ⟨Nat.le_trans XT.out.size (Nat.le_of_eq hg.symm)⟩; clear hg; have SLn : Aside0 (IsSlv 51 w1 g R (X)) := ⟨SL.out.below HBc⟩; have XTn : Aside0 (Ext (Fp g R) w w1) := ⟨XT.out.stepB HBc⟩; have HVn : Aside0 (Ever (Fp g R) w1 (fun W => Kd.C (Kd.int .i64) W A v.length v)) := ⟨HV.out.step (.of_below HBc)⟩; clear SL XT HV; have SL := SLn; have XT := XTn; have HV := HVn; clear SLn XTn HVn; have BK_q : Aside0 (w1.heap[q]? = some (.cells #[.int .i64 4, .int .i64 (a : Int), .int .i64 (c : Int), .slice A 0 cc, .int .i64 t, .int .i64 n, .int .i64 o] 24 (0, 0))) := ⟨hbox⟩; clear hbox HBc; have lc1_0 : w1.cell? ⟨q, 0, none⟩ = some (.int .i64 4) := (blk_cell BK_q.out 0).trans rfl; have lf1_0 := blk_frozen BK_q.out 0; have lc1_1 : w1.cell? ⟨q, 1, none⟩ = some (.int .i64 (a : Int)) := (blk_cell BK_q.out 1).trans rfl; have lf1_1 := blk_frozen BK_q.out 1; have lc1_2 : w1.cell? ⟨q, 2, none⟩ = some (.int .i64 (c : Int)) := (blk_cell BK_q.out 2).trans rfl; have lf1_2 := blk_frozen BK_q.out 2; have lc1_3 : w1.cell? ⟨q, 3, none⟩ = some (.slice A 0 cc) := (blk_cell BK_q.out 3).trans rfl; have lf1_3 := blk_frozen BK_q.out 3; have lc1_4 : w1.cell? ⟨q, 4, none⟩ = some (.int .i64 t) := (blk_cell BK_q.out 4).trans rfl; have lf1_4 := blk_frozen BK_q.out 4; have lc1_5 : w1.cell? ⟨q, 5, none⟩ = some (.int .i64 n) := (blk_cell BK_q.out 5).trans rfl; have lf1_5 := blk_frozen BK_q.out 5; have lc1_6 : w1.cell? ⟨q, 6, none⟩ = some (.int .i64 o) := (blk_cell BK_q.out 6).trans rfl; have lf1_6 := blk_frozen BK_q.out 6) | ((with_reducible refine gate_dst (N := 4) rfl ?_); refine box_event ?hg (N := 4) ?hd (cs := #[.slice none 0 0, .int .i64 0]) (t := 30) ?hr ?_; (case hd => rfl); (case hg => rfl); (case hr => first | (go_simp; done) | (go_simp; rfl)); intro z hg w2 hbox HBc; have NS_z : Aside0 (∀ k, Fp g R k → k ≠ z) := ⟨fun k hk e => by have := SL.out.lt k hk; omega⟩; have RG_z : Aside0 (w.heap.size ≤ z) := ⟨Nat.le_trans XT.out.size (Nat.le_of_eq hg.symm)⟩; have NE_q_z : Aside0 (q ≠ z) := ⟨ne_born (blk_lt BK_q.out) hg⟩; clear hg; have BK_qn : Aside0 (w2.heap[q]? = some (.cells #[.int .i64 4, .int .i64 (a : Int), .int .i64 (c : Int), .slice A 0 cc, .int .i64 t, .int .i64 n, .int .i64 o] 24 (0, 0))) := ⟨blk_below BK_q.out HBc⟩; have SLn : Aside0 (IsSlv 51 w2 g R (X)) := ⟨SL.out.below HBc⟩; have XTn : Aside0 (Ext (Fp g R) w w2) := ⟨XT.out.stepB HBc⟩; have HVn : Aside0 (Ever (Fp g R) w2 (fun W => Kd.C (Kd.int .i64) W A v.length v)) := ⟨HV.out.step (.of_below HBc)⟩; clear BK_q SL XT HV; have BK_q := BK_qn; have SL := SLn; have XT := XTn; have HV := HVn; clear BK_qn SLn XTn HVn; have BK_z : Aside0 (w2.heap[z]? = some (.cells #[.slice none 0 0, .int .i64 0] 30 (0, 0))) := ⟨hbox⟩; clear hbox HBc; have lc2_0 : w2.cell? ⟨q, 0, none⟩ = some (.int .i64 4) := (blk_cell BK_q.out 0).trans rfl; have lf2_0 := blk_frozen BK_q.out 0; have lc2_1 : w2.cell? ⟨q, 1, none⟩ = some (.int .i64 (a : Int)) := (blk_cell BK_q.out 1).trans rfl; have lf2_1 := blk_frozen BK_q.out 1; have lc2_2 : w2.cell? ⟨q, 2, none⟩ = some (.int .i64 (c : Int)) := (blk_cell BK_q.out 2).trans rfl; have lf2_2 := blk_frozen BK_q.out 2; have lc2_3 : w2.cell? ⟨q, 3, none⟩ = some (.slice A 0 cc) := (blk_cell BK_q.out 3).trans rfl; have lf2_3 := blk_frozen BK_q.out 3; have lc2_4 : w2.cell? ⟨q, 4, none⟩ = some (.int .i64 t) := (blk_cell BK_q.out 4).trans rfl; have lf2_4 := blk_frozen BK_q.out 4; have lc2_5 : w2.cell? ⟨q, 5, none⟩ = some (.int .i64 n) := (blk_cell BK_q.out 5).trans rfl; have lf2_5 := blk_frozen BK_q.out 5; have lc2_6 : w2.cell? ⟨q, 6, none⟩ = some (.int .i64 o) := (blk_cell BK_q.out 6).trans rfl; have lf2_6 := blk_frozen BK_q.out 6; have lc3_0 : w2.cell? ⟨z, 0, none⟩ = some (.slice none 0 0) := (blk_cell BK_z.out 0).trans rfl; have lf3_0 := blk_frozen BK_z.out 0; have lc3_1 : w2.cell? ⟨z, 1, none⟩ = some (.int .i64 0) := (blk_cell BK_z.out 1).trans rfl; have lf3_1 := blk_frozen BK_z.out 1) | (go_at_call 25; have _t := tA; refine (rhas_c SL.out _ _ (HD.out _ ?hx)).mono ?_; (case hx => (have hB := HB.out; first | rfl | omega | (simp only [wrap64]; omega))); rintro e w' ⟨rfl, rfl⟩; clear tA _t; have tB := Aside0.mk trivial) | ((with_reducible refine gate_dst (N := 9) rfl ?_); refine box_event ?hg (N := 9) ?hd (cs := #[.slice none 0 0, .int .i64 0]) (t := 30) ?hr ?_; (case hd => rfl); (case hg => rfl); (case hr => first | (go_simp; done) | (go_simp; rfl)); intro y hg w3 hbox HBc; have NS_y : Aside0 (∀ k, Fp g R k → k ≠ y) := ⟨fun k hk e => by have := SL.out.lt k hk; omega⟩; have RG_y : Aside0 (w.heap.size ≤ y) := ⟨Nat.le_trans XT.out.size (Nat.le_of_eq hg.symm)⟩; have NE_q_y : Aside0 (q ≠ y) := ⟨ne_born (blk_lt BK_q.out) hg⟩; have NE_z_y : Aside0 (z ≠ y) := ⟨ne_born (blk_lt BK_z.out) hg⟩; clear hg; have BK_qn : Aside0 (w3.heap[q]? = some (.cells #[.int .i64 4, .int .i64 (a : Int), .int .i64 (c : Int), .slice A 0 cc, .int .i64 t, .int .i64 n, .int .i64 o] 24 (0, 0))) := ⟨blk_below BK_q.out HBc⟩; have BK_zn : Aside0 (w3.heap[z]? = some (.cells #[.slice none 0 0, .int .i64 0] 30 (0, 0))) := ⟨blk_below BK_z.out HBc⟩; have SLn : Aside0 (IsSlv 51 w3 g R (X)) := ⟨SL.out.below HBc⟩; have XTn : Aside0 (Ext (Fp g R) w w3) := ⟨XT.out.stepB HBc⟩; have HVn : Aside0 (Ever (Fp g R) w3 (fun W => Kd.C (Kd.int .i64) W A v.length v)) := ⟨HV.out.step (.of_below HBc)⟩; clear BK_q BK_z SL XT HV; have BK_q := BK_qn; have BK_z := BK_zn; have SL := SLn; have XT := XTn; have HV := HVn; clear BK_qn BK_zn SLn XTn HVn; have BK_y : Aside0 (w3.heap[y]? = some (.cells #[.slice none 0 0, .int .i64 0] 30 (0, 0))) := ⟨hbox⟩; clear hbox HBc; have lc4_0 : w3.cell? ⟨q, 0, none⟩ = some (.int .i64 4) := (blk_cell BK_q.out 0).trans rfl; have lf4_0 := blk_frozen BK_q.out 0; have lc4_1 : w3.cell? ⟨q, 1, none⟩ = some (.int .i64 (a : Int)) := (blk_cell BK_q.out 1).trans rfl; have lf4_1 := blk_frozen BK_q.out 1; have lc4_2 : w3.cell? ⟨q, 2, none⟩ = some (.int .i64 (c : Int)) := (blk_cell BK_q.out 2).trans rfl; have lf4_2 := blk_frozen BK_q.out 2; have lc4_3 : w3.cell? ⟨q, 3, none⟩ = some (.slice A 0 cc) := (blk_cell BK_q.out 3).trans rfl; have lf4_3 := blk_frozen BK_q.out 3; have lc4_4 : w3.cell? ⟨q, 4, none⟩ = some (.int .i64 t) := (blk_cell BK_q.out 4).trans rfl; have lf4_4 := blk_frozen BK_q.out 4; have lc4_5 : w3.cell? ⟨q, 5, none⟩ = some (.int .i64 n) := (blk_cell BK_q.out 5).trans rfl; have lf4_5 := blk_frozen BK_q.out 5; have lc4_6 : w3.cell? ⟨q, 6, none⟩ = some (.int .i64 o) := (blk_cell BK_q.out 6).trans rfl; have lf4_6 := blk_frozen BK_q.out 6; have lc5_0 : w3.cell? ⟨z, 0, none⟩ = some (.slice none 0 0) := (blk_cell BK_z.out 0).trans rfl; have lf5_0 := blk_frozen BK_z.out 0; have lc5_1 : w3.cell? ⟨z, 1, none⟩ = some (.int .i64 0) := (blk_cell BK_z.out 1).trans rfl; have lf5_1 := blk_frozen BK_z.out 1; have lc6_0 : w3.cell? ⟨y, 0, none⟩ = some (.slice none 0 0) := (blk_cell BK_y.out 0).trans rfl; have lf6_0 := blk_frozen BK_y.out 0; have lc6_1 : w3.cell? ⟨y, 1, none⟩ = some (.int .i64 0) := (blk_cell BK_y.out 1).trans rfl; have lf6_1 := blk_frozen BK_y.out 1))
  have HSZ : Aside0 (w.heap.size ≤ w3.heap.size ∧ z < w3.heap.size) := ⟨⟨XT.out.size, blk_lt BK_z.out⟩⟩
  obtain ⟨xs, hxs⟩ : ∃ xs, (X) 3 = xs := ⟨_, rfl⟩; have HXS := Aside0.mk hxs
  obtain ⟨r, hr⟩ : ∃ r, R 3 = r := ⟨_, rfl⟩; have HR := Aside0.mk hr
  obtain ⟨L, hL⟩ : ∃ L, xs.length = L := ⟨_, rfl⟩; have HL := Aside0.mk hL
  have HFX : Aside0 (a + c ≤ L) := ⟨by rw [← hL, ← hxs]; exact HFIT.out⟩; have HLB : Aside0 (L ≤ 65536) := ⟨by rw [← hL, ← hxs]; exact SL.out.len 3 (by omega)⟩
  have HROW : Aside0 (w3.heap[r]? = some (.cells (xs.map (Value.int .i64)).toArray 3 (0, 0))) := ⟨by have h1 := SL.out.row 3 (by omega); rw [hr, hxs] at h1; exact h1⟩
  have HGC : Aside0 (w3.cell? ⟨g, 3, none⟩ = some (.slice (some ⟨r, 0, none⟩) L L)) := ⟨by have h1 := SL.out.cell (k := 3) (by omega); unfold sl at h1; rw [hr, hxs, hL] at h1; exact h1⟩
  have HLTS : Aside0 (y < w3.heap.size ∧ q < w3.heap.size ∧ g < w3.heap.size ∧ r < w3.heap.size) := ⟨⟨blk_lt BK_y.out, blk_lt BK_q.out, blk_lt SL.out.blk, blk_lt HROW.out⟩⟩
  have NGY : Aside0 (g ≠ y ∧ r ≠ y) := ⟨⟨NS_y.out g (.inl rfl), NS_y.out r (.inr ⟨3, by omega, hr.symm⟩)⟩⟩
  clear hxs hr hL
  go_loopw [10] (fun u wr => ∃ k : Nat, k ≤ c ∧ u = .int .i64 k ∧ Aside0 (∃ vv, wr.heap[y]? = some (.cells #[vv, .int .i64 0] 30 (0, 0)) ∧ Kd.R (Kd.int .i64) 3 wr w3.heap.size (fun _ => True) vv ((rdAt xs a c).take k)) ∧ Aside0 (Ext (fun k => k = y) w3 wr)) (fun u _ => c - (intOf u).toNat)
  case atStart => exact ⟨0, by omega, rfl, ⟨_, BK_y.out, Kd.R_nil _ _ _ _ _⟩, ⟨Ext.refl _ _⟩⟩
  case round =>
    obtain ⟨k, hk, rfl, HV2, HE⟩ := hrel
    obtain ⟨vv, hby, hRv⟩ := HV2.out
    clear HV2
    have BY := Aside0.mk hby; have HRV := Aside0.mk hRv; clear hby hRv
    have BQ : Aside0 (wr.heap[q]? = some (.cells #[.int .i64 4, .int .i64 (a : Int), .int .i64 (c : Int), .slice A 0 cc, .int .i64 t, .int .i64 n, .int .i64 o] 24 (0, 0))) := ⟨Ext.blk HE.out BK_q.out NE_q_y.out⟩
    have lq0 : wr.cell? ⟨q, 0, none⟩ = some (.int .i64 4) := (blk_cell BQ.out 0).trans rfl; have lqf0 := blk_frozen BQ.out 0
    have lq1 : wr.cell? ⟨q, 1, none⟩ = some (.int .i64 (a : Int)) := (blk_cell BQ.out 1).trans rfl; have lqf1 := blk_frozen BQ.out 1
    have lq2 : wr.cell? ⟨q, 2, none⟩ = some (.int .i64 (c : Int)) := (blk_cell BQ.out 2).trans rfl; have lqf2 := blk_frozen BQ.out 2
    have lq3 : wr.cell? ⟨q, 3, none⟩ = some (.slice A 0 cc) := (blk_cell BQ.out 3).trans rfl; have lqf3 := blk_frozen BQ.out 3
    have lq4 : wr.cell? ⟨q, 4, none⟩ = some (.int .i64 t) := (blk_cell BQ.out 4).trans rfl; have lqf4 := blk_frozen BQ.out 4
    have lq5 : wr.cell? ⟨q, 5, none⟩ = some (.int .i64 n) := (blk_cell BQ.out 5).trans rfl; have lqf5 := blk_frozen BQ.out 5
    have lq6 : wr.cell? ⟨q, 6, none⟩ = some (.int .i64 o) := (blk_cell BQ.out 6).trans rfl; have lqf6 := blk_frozen BQ.out 6
    by_cases hlt : k < c
    · have t1 : decide (k < c) = true := decide_eq_true hlt
      have t2 : decide ((k : Int) < (c : Int)) = true := decide_eq_true (by omega)
      have HKC : Aside0 (k < c) := ⟨hlt⟩
      obtain ⟨p, hp⟩ : ∃ p, a + k = p := ⟨_, rfl⟩; have hpL : p < L := (by have := HFX.out; omega); have HP := Aside0.mk hp
      have hp0 := eq_true (show (0 : Int) ≤ (p : Int) by omega); have hp1 := eq_true (show (p : Int) < (L : Int) by omega); have hp2 := eq_true hpL
      have HWP : Aside0 (wrap64 ((a : Int) + (k : Int)) = (p : Int)) := ⟨by have := HLB.out; rw [wrap64_of (by omega) (by omega)]; omega⟩
      have hc0 : Aside0 (w3.cell? ⟨r, p, none⟩ = some (.int .i64 (xs.getD p 0))) := ⟨row_cell HROW.out (by rw [HL.out]; exact hpL)⟩
      obtain ⟨x, hx⟩ : ∃ x, xs.getD p 0 = x := ⟨_, rfl⟩; rw [hx] at hc0; have HX := Aside0.mk hx; clear hx hp hlt
      have HK : Aside0 (∀ W, Below w3.heap.size wr W → ((W.cell? ⟨y, 0, none⟩ = some vv ∧ W.cell? ⟨q, 1, none⟩ = some (.int .i64 a)) ∧ (W.cell? ⟨g, 3, none⟩ = some (.slice (some ⟨r, 0, none⟩) L L) ∧ W.cell? ⟨r, p, none⟩ = some (.int .i64 x))) ∧ W.frozen? ⟨y, 0, none⟩ = false) := ⟨fun W hB => ⟨⟨⟨(hB.cell (p := ⟨y, 0, none⟩) HLTS.out.1).trans ((blk_cell BY.out 0).trans rfl), (hB.cell (p := ⟨q, 1, none⟩) HLTS.out.2.1).trans ((blk_cell BQ.out 1).trans rfl)⟩, (hB.cell (p := ⟨g, 3, none⟩) HLTS.out.2.2.1).trans ((HE.out.cellb HLTS.out.2.2.1 NGY.out.1).trans HGC.out), (hB.cell (p := ⟨r, p, none⟩) HLTS.out.2.2.2).trans ((HE.out.cellb HLTS.out.2.2.2 NGY.out.2).trans hc0.out)⟩, (hB.frozen (p := ⟨y, 0, none⟩) HLTS.out.1).trans (blk_frozen BY.out 0)⟩⟩
      have HSW : Aside0 (w3.heap.size ≤ wr.heap.size) := ⟨HE.out.size⟩
      have HW1 : Aside0 (wrap64 ((k : Int) + 1) = (k : Int) + 1) := ⟨wrap64_of (by omega) (by have := HB.out; omega)⟩
      have HBR : Aside0 (Below w3.heap.size wr wr) := ⟨Below.refl _ _⟩
      go_upto_region 29 with (fail)
      refine start_ (n := 19) (S := fun W => ((W.cell? ⟨y, 0, none⟩ = some vv ∧ W.cell? ⟨q, 1, none⟩ = some (.int .i64 a)) ∧ (W.cell? ⟨g, 3, none⟩ = some (.slice (some ⟨r, 0, none⟩) L L) ∧ W.cell? ⟨r, p, none⟩ = some (.int .i64 x))) ∧ W.frozen? ⟨y, 0, none⟩ = false) (ds := [18]) #[false, false, false, false, false, false, false, false, false, false, false, false, false, false, false, false, false, false, false] (by kernel_rfl) rfl rfl ?_ (fun hHeld => ?_)
      · exact HK.out _ (by repeat (first | (with_reducible first | exact HB9.out | refine below_allocb HSW.out ?_ _ | apply pw_below_drewN | apply below_drew1) | (with_reducible exact HBR.out) | exact HB9.out | exact HBR.out))
      refine pure_ (i := 0) (N := some 96) (v := ?_) (a' := ?_) #[true, false, false, false, false, false, false, false, false, false, false, false, false, false, false, false, false, false, false] rfl rfl (by kernel_rfl) (fun _ _ _ h => h) (Or.inl ⟨by rfl, ?_⟩) ?_ ?_
      rotate_left
      · intro w'
        go_simp
        with_reducible rfl
      rotate_left
      · simp only [Act.put, List.setIfInBounds_toArray, List.set_cons_zero, List.set_cons_succ, i64_w, i32_w, HWP.out, wk1, wk2, wk3, wk4]
        rfl
      refine take_ (i := 1) (N := some 97) (v := ?_) (a' := ?_) #[true, true, false, false, false, false, false, false, false, false, false, false, false, false, false, false, false, false, false] rfl rfl (by kernel_rfl) (fun _ _ _ h => h) (Or.inl ⟨by rfl, ?_⟩) hHeld ?_ ?_
      rotate_left
      · rintro w' ⟨⟨⟨s0, s1⟩, s2, s3⟩, s4⟩
        go_simp
        with_reducible rfl
      rotate_left
      · simp only [Act.put, List.setIfInBounds_toArray, List.set_cons_zero, List.set_cons_succ, i64_w, i32_w, HWP.out, wk1, wk2, wk3, wk4]
        rfl
      refine pure_ (i := 2) (N := some 98) (v := ?_) (a' := ?_) #[true, true, true, false, false, false, false, false, false, false, false, false, false, false, false, false, false, false, false] rfl rfl (by kernel_rfl) (fun _ _ _ h => h) (Or.inl ⟨by rfl, ?_⟩) ?_ ?_
      rotate_left
      · intro w'
        go_simp
        with_reducible rfl
      rotate_left
      · simp only [Act.put, List.setIfInBounds_toArray, List.set_cons_zero, List.set_cons_succ, i64_w, i32_w, HWP.out, wk1, wk2, wk3, wk4]
        rfl
      refine pure_ (i := 3) (N := some 99) (v := ?_) (a' := ?_) #[true, true, true, true, false, false, false, false, false, false, false, false, false, false, false, false, false, false, false] rfl rfl (by kernel_rfl) (fun _ _ _ h => h) (Or.inl ⟨by rfl, ?_⟩) ?_ ?_
      rotate_left
      · intro w'
        go_simp
        with_reducible rfl
      rotate_left
      · simp only [Act.put, List.setIfInBounds_toArray, List.set_cons_zero, List.set_cons_succ, i64_w, i32_w, HWP.out, wk1, wk2, wk3, wk4]
        rfl
      refine pure_ (i := 4) (N := some 100) (v := ?_) (a' := ?_) #[true, true, true, true, true, false, false, false, false, false, false, false, false, false, false, false, false, false, false] rfl rfl (by kernel_rfl) (fun _ _ _ h => h) (Or.inl ⟨by rfl, ?_⟩) ?_ ?_
      rotate_left
      · intro w'
        go_simp
        with_reducible rfl
      rotate_left
      · simp only [Act.put, List.setIfInBounds_toArray, List.set_cons_zero, List.set_cons_succ, i64_w, i32_w, HWP.out, wk1, wk2, wk3, wk4]
        rfl
      refine pure_ (i := 5) (N := some 101) (v := ?_) (a' := ?_) #[true, true, true, true, true, true, false, false, false, false, false, false, false, false, false, false, false, false, false] rfl rfl (by kernel_rfl) (fun _ _ _ h => h) (Or.inl ⟨by rfl, ?_⟩) ?_ ?_
      rotate_left
      · intro w'
        go_simp
        with_reducible rfl
      rotate_left
      · simp only [Act.put, List.setIfInBounds_toArray, List.set_cons_zero, List.set_cons_succ, i64_w, i32_w, HWP.out, wk1, wk2, wk3, wk4]
        rfl
      refine pure_ (i := 6) (N := some 102) (v := ?_) (a' := ?_) #[true, true, true, true, true, true, true, false, false, false, false, false, false, false, false, false, false, false, false] rfl rfl (by kernel_rfl) (fun _ _ _ h => h) (Or.inl ⟨by rfl, ?_⟩) ?_ ?_
      rotate_left
      · intro w'
        go_simp
        with_reducible rfl
      rotate_left
      · simp only [Act.put, List.setIfInBounds_toArray, List.set_cons_zero, List.set_cons_succ, i64_w, i32_w, HWP.out, wk1, wk2, wk3, wk4]
        rfl
      refine take_ (i := 7) (N := some 103) (v := ?_) (a' := ?_) #[true, true, true, true, true, true, true, true, false, false, false, false, false, false, false, false, false, false, false] rfl rfl (by kernel_rfl) (fun _ _ _ h => h) (Or.inl ⟨by rfl, ?_⟩) hHeld ?_ ?_
      rotate_left
      · rintro w' ⟨⟨⟨s0, s1⟩, s2, s3⟩, s4⟩
        go_simp
        with_reducible rfl
      rotate_left
      · simp only [Act.put, List.setIfInBounds_toArray, List.set_cons_zero, List.set_cons_succ, i64_w, i32_w, HWP.out, wk1, wk2, wk3, wk4]
        rfl
      refine take_ (i := 8) (N := some 104) (v := ?_) (a' := ?_) #[true, true, true, true, true, true, true, true, true, false, false, false, false, false, false, false, false, false, false] rfl rfl (by kernel_rfl) (fun _ _ _ h => h) (Or.inl ⟨by rfl, ?_⟩) hHeld ?_ ?_
      rotate_left
      · rintro w' ⟨⟨⟨s0, s1⟩, s2, s3⟩, s4⟩
        go_simp
        with_reducible rfl
      rotate_left
      · simp only [Act.put, List.setIfInBounds_toArray, List.set_cons_zero, List.set_cons_succ, i64_w, i32_w, HWP.out, wk1, wk2, wk3, wk4]
        rfl
      refine pure_ (i := 9) (N := some 105) (v := ?_) (a' := ?_) #[true, true, true, true, true, true, true, true, true, true, false, false, false, false, false, false, false, false, false] rfl rfl (by kernel_rfl) (fun _ _ _ h => h) (Or.inl ⟨by rfl, ?_⟩) ?_ ?_
      rotate_left
      · intro w'
        go_simp
        with_reducible rfl
      rotate_left
      · simp only [Act.put, List.setIfInBounds_toArray, List.set_cons_zero, List.set_cons_succ, i64_w, i32_w, HWP.out, wk1, wk2, wk3, wk4]
        rfl
      refine take_ (i := 10) (N := some 106) (v := ?_) (a' := ?_) #[true, true, true, true, true, true, true, true, true, true, true, false, false, false, false, false, false, false, false] rfl rfl (by kernel_rfl) (fun _ _ _ h => h) (Or.inl ⟨by rfl, ?_⟩) hHeld ?_ ?_
      rotate_left
      · rintro w' ⟨⟨⟨s0, s1⟩, s2, s3⟩, s4⟩
        go_simp
        with_reducible rfl
      rotate_left
      · simp only [Act.put, List.setIfInBounds_toArray, List.set_cons_zero, List.set_cons_succ, i64_w, i32_w, HWP.out, wk1, wk2, wk3, wk4]
        rfl
      refine pure_ (i := 11) (N := some 107) (v := ?_) (a' := ?_) #[true, true, true, true, true, true, true, true, true, true, true, true, false, false, false, false, false, false, false] rfl rfl (by kernel_rfl) (fun _ _ _ h => h) (Or.inl ⟨by rfl, ?_⟩) ?_ ?_
      rotate_left
      · intro w'
        go_simp
        with_reducible rfl
      rotate_left
      · simp only [Act.put, List.setIfInBounds_toArray, List.set_cons_zero, List.set_cons_succ, i64_w, i32_w, HWP.out, wk1, wk2, wk3, wk4]
        rfl
      refine pure_ (i := 12) (N := some 108) (v := ?_) (a' := ?_) #[true, true, true, true, true, true, true, true, true, true, true, true, true, false, false, false, false, false, false] rfl rfl (by kernel_rfl) (fun _ _ _ h => h) (Or.inl ⟨by rfl, ?_⟩) ?_ ?_
      rotate_left
      · intro w'
        go_simp
        with_reducible rfl
      rotate_left
      · simp only [Act.put, List.setIfInBounds_toArray, List.set_cons_zero, List.set_cons_succ, i64_w, i32_w, HWP.out, wk1, wk2, wk3, wk4]
        rfl
      refine take_ (i := 13) (N := some 109) (v := ?_) (a' := ?_) #[true, true, true, true, true, true, true, true, true, true, true, true, true, true, false, false, false, false, false] rfl rfl (by kernel_rfl) (fun _ _ _ h => h) (Or.inl ⟨by rfl, ?_⟩) hHeld ?_ ?_
      rotate_left
      · rintro w' ⟨⟨⟨s0, s1⟩, s2, s3⟩, s4⟩
        go_simp
        with_reducible rfl
      rotate_left
      · simp only [Act.put, List.setIfInBounds_toArray, List.set_cons_zero, List.set_cons_succ, i64_w, i32_w, HWP.out, wk1, wk2, wk3, wk4]
        rfl
      refine take_ (i := 14) (N := some 110) (v := ?_) (a' := ?_) #[true, true, true, true, true, true, true, true, true, true, true, true, true, true, true, false, false, false, false] rfl rfl (by kernel_rfl) (fun _ _ _ h => h) (Or.inl ⟨by rfl, ?_⟩) hHeld ?_ ?_
      rotate_left
      · rintro w' ⟨⟨⟨s0, s1⟩, s2, s3⟩, s4⟩
        go_simp
        with_reducible rfl
      rotate_left
      · simp only [Act.put, List.setIfInBounds_toArray, List.set_cons_zero, List.set_cons_succ, i64_w, i32_w, HWP.out, wk1, wk2, wk3, wk4]
        rfl
      refine one_ (i := 15) (N := some 111) #[true, true, true, true, true, true, true, true, true, true, true, true, true, true, true, true, false, false, false] rfl rfl (by kernel_rfl) (by decide) (fun K hK => ?_)
      refine value_ (v := ?vv) (w1 := ?ww) (by rfl) rfl ?hr ?kk
      case hr => (go_simp; refine And.intro ?_ ?_ <;> rfl)
      refine hK.out _ _ ?_ (fun hHeld => ?_)
      · exact HK.out _ (by repeat (first | (with_reducible first | exact HB9.out | refine below_allocb HSW.out ?_ _ | apply pw_below_drewN | apply below_drew1) | (with_reducible exact HBR.out) | exact HB9.out | exact HBR.out))
      clear hK K
      refine norm_ (a' := ?_) ?_ ?_
      rotate_left
      · show Act.put _ (some 111) _ = _
        simp only [Act.put, List.setIfInBounds_toArray, List.set_cons_zero, List.set_cons_succ, i64_w, i32_w, HWP.out, wk1, wk2, wk3, wk4]
        rfl
      refine one_ (i := 16) (N := some 112) #[true, true, true, true, true, true, true, true, true, true, true, true, true, true, true, true, true, false, false] rfl rfl (by kernel_rfl) (by decide) (fun K hK => ?_)
      refine Kd.R_append_step (Kd.int .i64) (w0 := wr) (W := wr.drew) w3.heap.size ?aW (.tmp 97) (.tmp 111) 22 3 (.int .i64 0) 8 rfl Try.underlying22 info3 rfl (by decide) (by decide) vv ((rdAt xs a c).take k) x [.int .i64 x] (fun _ => True) (fun _ => False) rfl rfl ?aP (fun _ e => e.elim) (fun _ _ => trivial) ?aO ?aB ?aS ?aL ?_
      case aW => rfl
      case aP => exact rfl
      case aO => (with_reducible repeat (first | apply Kd.R_alloc | apply Kd.R_drewN | apply Kd.R_drew)); exact HRV.out
      case aB => exact (by repeat (first | (with_reducible first | exact HB9.out | refine below_allocb HSW.out ?_ _ | apply pw_below_drewN | apply below_drew1) | (with_reducible exact HBR.out) | exact HB9.out | exact HBR.out))
      case aS => exact Nat.le_trans HE.out.size (by first | exact Nat.le_refl _ | (simp; done) | (simp; omega))
      case aL => (have := HKC.out; have := HFX.out; have := HLB.out; rw [List.length_take]; omega)
      intro v1 w9 HO9 HB9 hg9 hat9
      obtain ⟨A9, c9, e9⟩ := Kd.R_slice HO9
      obtain ⟨m9, hm9⟩ : ∃ m, ((rdAt xs a c).take k ++ [x]).length = m := ⟨_, rfl⟩
      rw [hm9] at e9; subst e9; clear hm9 hg9 hat9
      have HO9 := Aside0.mk HO9; have HB9 := Aside0.mk HB9
      have hy9 := (HK.out _ HB9.out).1.1.1; have hyf9 := (HK.out _ HB9.out).2
      refine hK.out _ _ ?_ (fun hHeld => ?_)
      · exact HK.out _ (by repeat (first | (with_reducible first | exact HB9.out | refine below_allocb HSW.out ?_ _ | apply pw_below_drewN | apply below_drew1) | (with_reducible exact HBR.out) | exact HB9.out | exact HBR.out))
      clear hK K
      refine norm_ (a' := ?_) ?_ ?_
      rotate_left
      · show Act.put _ (some 112) _ = _
        simp only [Act.put, List.setIfInBounds_toArray, List.set_cons_zero, List.set_cons_succ, i64_w, i32_w, HWP.out, wk1, wk2, wk3, wk4]
        rfl
      refine pure_ (i := 17) (N := some 113) (v := ?_) (a' := ?_) #[true, true, true, true, true, true, true, true, true, true, true, true, true, true, true, true, true, true, false] rfl rfl (by kernel_rfl) (fun _ _ _ h => h) (Or.inl ⟨by rfl, ?_⟩) ?_ ?_
      rotate_left
      · intro w'
        go_simp
        with_reducible rfl
      rotate_left
      · simp only [Act.put, List.setIfInBounds_toArray, List.set_cons_zero, List.set_cons_succ, i64_w, i32_w, HWP.out, wk1, wk2, wk3, wk4]
        rfl
      refine last_ (i := 18) (N := none) #[true, true, true, true, true, true, true, true, true, true, true, true, true, true, true, true, true, true, true] rfl rfl (by kernel_rfl) (by decide) (fun K hK => ?_)
      refine skip_ (w1 := ?_) (by rfl) rfl ?_ ?_
      rotate_left
      · go_simp
        rfl
      refine hK.out _ _ ?_
      clear hK K
      refine done_ (by kernel_rfl) ?_
      have BY2 : Aside0 ((w9.setCell ⟨y, 0, none⟩ (.slice A9 m9 c9)).heap[y]? = some (.cells #[(.slice A9 m9 c9), .int .i64 0] 30 (0, 0))) := ⟨blk_put ((HB9.out.block y HLTS.out.1).trans BY.out) 0 (.slice A9 m9 c9) rfl⟩
      have HR2 : Aside0 (Kd.R (Kd.int .i64) 3 (w9.setCell ⟨y, 0, none⟩ (.slice A9 m9 c9)) w3.heap.size (fun _ => True) (.slice A9 m9 c9) ((rdAt xs a c).take (k + 1))) := ⟨by
        have e1 : (rdAt xs a c).take (k + 1) = (rdAt xs a c).take k ++ [x] := by
          have hl : (rdAt xs a c).length = c := rdAt_len (by rw [HL.out]; exact HFX.out)
          have hkc := HKC.out
          rw [List.take_succ_eq_append_getElem (by omega)]
          congr 2
          have hx := HX.out
          have hpp := HP.out
          have hfx := HFX.out; have hll := HL.out
          rw [List.getD_eq_getElem?_getD, List.getElem?_eq_getElem (by omega), Option.getD_some] at hx
          rw [← hx]
          simp only [rdAt, List.getElem_take, List.getElem_drop]
          congr 1
        rw [e1]
        exact Kd.R_mono (Kd.R_move (Kd.R_bound HO9.out) (fun j hj => by
          refine Below.heap_setCell _ _ _ _ ?_
          have := hj.2.1; have := HLTS.out.1
          show j ≠ y
          omega)) (fun _ _ => trivial)⟩
      have HE2 : Aside0 (Ext (fun k => k = y) w3 (w9.setCell ⟨y, 0, none⟩ (.slice A9 m9 c9))) := ⟨(HE.out.grow (M' := fun k => w3.heap.size ≤ k) ⟨HB9.out.os, HB9.out.tape, HB9.out.output, HB9.out.size, fun k hk hn => HB9.out.block k (by omega)⟩ (fun k e => .inr e)).setg _⟩
      clear hy9 hyf9 HRV BY HK HBR HO9 HB9 HE BQ
      clear lq0 lqf0 lq1 lqf1 lq2 lqf2 lq3 lqf3 lq4 lqf4 lq5 lqf5 lq6 lqf6
      go_wp2_with (fail)
      go_roundw
      case rel => exact ⟨k + 1, by have := HKC.out; omega, by rw [HW1.out]; exact congrArg (Value.int .i64) (by omega), ⟨(.slice A9 m9 c9), BY2.out, HR2.out⟩, HE2⟩
      case measure => exact meas HKC.out HW1.out
    · have t1 : decide (k < c) = false := decide_eq_false hlt
      have t2 : decide ((k : Int) < (c : Int)) = false := decide_eq_false (by omega)
      have ek : (rdAt xs a c).take k = rdAt xs a c := List.take_of_length_le (by rw [rdAt_len (by rw [HL.out]; exact HFX.out)]; omega)
      have hRv := HRV.out; rw [ek] at hRv; obtain ⟨AA, cA, rfl⟩ := Kd.R_slice hRv
      have HCA : Aside0 ((rdAt xs a c).length ≤ cA) := ⟨(Kd.R_reads' hRv).2.1⟩
      have HRB := Aside0.mk hRv; clear hRv HRV ek hlt
      have BK_qn : Aside0 (wr.heap[q]? = some (.cells #[.int .i64 4, .int .i64 (a : Int), .int .i64 (c : Int), .slice A 0 cc, .int .i64 t, .int .i64 n, .int .i64 o] 24 (0, 0))) := ⟨BQ.out⟩
      have BK_zn : Aside0 (wr.heap[z]? = some (.cells #[.slice none 0 0, .int .i64 0] 30 (0, 0))) := ⟨Ext.blk HE.out BK_z.out NE_z_y.out⟩
      have BK_yn : Aside0 (wr.heap[y]? = some (.cells #[.slice AA (rdAt xs a c).length cA, .int .i64 0] 30 (0, 0))) := ⟨BY.out⟩
      have SLn : Aside0 (IsSlv 51 wr g R (X)) := ⟨SL.out.ext HE.out (fun k hk e => NS_y.out k hk e)⟩
      have XTn : Aside0 (Ext (Fp g R) w wr) := ⟨XT.out.step HE.out (fun k e => .inr (by rw [show k = y from e]; exact RG_y.out))⟩
      clear BK_y BK_q BK_z SL XT
      have BK_y := BK_yn
      have BK_q := BK_qn
      have BK_z := BK_zn
      have SL := SLn
      have XT := XTn
      clear BK_yn BK_qn BK_zn SLn XTn
      clear BY BQ HV
      clear lq0 lqf0 lq1 lqf1 lq2 lqf2 lq3 lqf3 lq4 lqf4 lq5 lqf5 lq6 lqf6
      have lc7_0 : wr.cell? ⟨q, 0, none⟩ = some (.int .i64 4) := (blk_cell BK_q.out 0).trans rfl; have lf7_0 := blk_frozen BK_q.out 0
      have lc7_1 : wr.cell? ⟨q, 1, none⟩ = some (.int .i64 (a : Int)) := (blk_cell BK_q.out 1).trans rfl; have lf7_1 := blk_frozen BK_q.out 1
      have lc7_2 : wr.cell? ⟨q, 2, none⟩ = some (.int .i64 (c : Int)) := (blk_cell BK_q.out 2).trans rfl; have lf7_2 := blk_frozen BK_q.out 2
      have lc7_3 : wr.cell? ⟨q, 3, none⟩ = some (.slice A 0 cc) := (blk_cell BK_q.out 3).trans rfl; have lf7_3 := blk_frozen BK_q.out 3
      have lc7_4 : wr.cell? ⟨q, 4, none⟩ = some (.int .i64 t) := (blk_cell BK_q.out 4).trans rfl; have lf7_4 := blk_frozen BK_q.out 4
      have lc7_5 : wr.cell? ⟨q, 5, none⟩ = some (.int .i64 n) := (blk_cell BK_q.out 5).trans rfl; have lf7_5 := blk_frozen BK_q.out 5
      have lc7_6 : wr.cell? ⟨q, 6, none⟩ = some (.int .i64 o) := (blk_cell BK_q.out 6).trans rfl; have lf7_6 := blk_frozen BK_q.out 6
      have lc8_0 : wr.cell? ⟨z, 0, none⟩ = some (.slice none 0 0) := (blk_cell BK_z.out 0).trans rfl; have lf8_0 := blk_frozen BK_z.out 0
      have lc8_1 : wr.cell? ⟨z, 1, none⟩ = some (.int .i64 0) := (blk_cell BK_z.out 1).trans rfl; have lf8_1 := blk_frozen BK_z.out 1
      have lc9_0 : wr.cell? ⟨y, 0, none⟩ = some (.slice AA (rdAt xs a c).length cA) := (blk_cell BK_y.out 0).trans rfl; have lf9_0 := blk_frozen BK_y.out 0
      have lc9_1 : wr.cell? ⟨y, 1, none⟩ = some (.int .i64 0) := (blk_cell BK_y.out 1).trans rfl; have lf9_1 := blk_frozen BK_y.out 1
      go_wp2_with (first | ((with_reducible refine gate_store (p := 4) rfl ?_); refine store_event (w1 := ?_) rfl (p := 4) rfl rfl ?hr ?_; rotate_left; (case hr => go_simp; rfl); intro w5 hw_; obtain ⟨hput, HEc⟩ := put2 hw_ BK_z.out; clear hw_; have BK_qn : Aside0 (w5.heap[q]? = some (.cells #[.int .i64 4, .int .i64 (a : Int), .int .i64 (c : Int), .slice A 0 cc, .int .i64 t, .int .i64 n, .int .i64 o] 24 (0, 0))) := ⟨Ext.blk HEc BK_q.out (NE_q_z.out)⟩; have BK_yn : Aside0 (w5.heap[y]? = some (.cells #[.slice AA (rdAt xs a c).length cA, .int .i64 0] 30 (0, 0))) := ⟨Ext.blk HEc BK_y.out (fun e => NE_z_y.out e.symm)⟩; have SLn : Aside0 (IsSlv 51 w5 g R (X)) := ⟨SL.out.ext HEc (fun k hk e => NS_z.out k hk e)⟩; have XTn : Aside0 (Ext (Fp g R) w w5) := ⟨XT.out.step HEc (fun k e => .inr (by rw [show k = z from e]; exact RG_z.out))⟩; clear BK_q BK_y SL XT; have BK_q := BK_qn; have BK_y := BK_yn; have SL := SLn; have XT := XTn; clear BK_qn BK_yn SLn XTn; clear BK_z; have BK_z : Aside0 (w5.heap[z]? = some (.cells #[.slice AA (rdAt xs a c).length cA, .int .i64 0] 30 (0, 0))) := ⟨hput⟩; have HST := Aside0.mk HEc; clear hput HEc))
      refine bodyPost_ret (results_cell_row rfl _ _ z 30 #[.slice AA (rdAt xs a c).length cA, .int .i64 0] (0, 0) _ rfl BK_z.out Try.underlying30 rfl (by kernel_rfl)) rfl ?_
      rw [HXS.out]
      refine ⟨AA, cA, rfl, HCA.out, SL.out, XT.out, fun M hM => ?_⟩
      have hEv := Ever.R (M := fun k => M k ∨ k = z) HRB.out (fun k hk => by rcases hk with hk | hk; exact Nat.lt_of_lt_of_le (hM k hk) HSZ.out.1; rw [hk]; exact HSZ.out.2)
      exact hEv.grow (HST.out.sub (fun k e => .inr e)) (fun k hk => .inl (.inl hk))
end Go.Proofs.Ytocicifgglkaeaa.SlvI
end

/- The words, contracts and walks that this claim leans on, put together by a program of this session (part 4). -/
import Derived.Test.YtlalpooiegganaaZO3
section
namespace Go.Proofs.Ytlalpooiegganaa.MstG
open Go.RowKit Go.Proofs.YtlalpooiegganaaW.PrintWords Go.Proofs.YtlalpooiegganaaW.PrintLast Go.Proofs.YtlalpooiegganaaW.PrintMore Go.Proofs.Ytlalpooiegganaa.Core Go.Proofs.Ytlalpooiegganaa.Wk Go.Proofs.Ytlalpooiegganaa.PMasterWaits Go.Proofs.Ytlalpooiegganaa.Mst Go.Proofs.Ytlalpooiegganaa.MstB Go.Proofs.Ytlalpooiegganaa.MstC Go.Proofs.Ytlalpooiegganaa.MstD
set_option linter.unusedVariables false
set_option linter.unusedSimpArgs false
theorem own7 {W : World} {base : Nat} {v : Value} (h : Kd.R (Kd.int .i64) 3 W base (fun _ => True) v [7]) : ∃ gv cap cur, v = .slice (some ⟨gv, 0, none⟩) 1 cap ∧ base ≤ gv ∧ W.heap[gv]? = some (.cells cur 3 (0, 0)) ∧ cur[0]? = some (.int .i64 7) := by
  have ho := Kd.own_of_R h
  have h0 := ho
  obtain ⟨hn, h2⟩ := h0
  rcases h2 with ⟨_, h3⟩ | ⟨g, cap, cur, e, hg, hh, hnc, hcap, hs, hx⟩
  · simp at h3
  · refine ⟨g, cap, cur, e, hg, hh, ?_⟩
    subst e
    have hc := ho.cells rfl 0 (.int .i64 7) rfl
    rw [show (⟨g, 0, none⟩ : Addr).add 0 = ⟨g, 0, none⟩ from by simp [Addr.add]] at hc
    rw [← blk_cell hh 0]
    exact hc
theorem ap1 : Aside0 (PQ.pdu_AnswerParse.f 60 3 0 1 [] 0 0 0 [3, 2, 0, 7] = some ([7], 0, 0)) := ⟨by decide +kernel⟩
set_option maxHeartbeats 4000000 in
set_option maxRecDepth 100000 in
theorem came_c {B : Nat} {w : World} {g m : Nat} {wait again pause now tk times last : Int} {rest : Int → Int} {line : List (Int × Int)} {ot ou : Int} (h : IsM B w g m ⟨wait, again, pause, now, tk, line, some (ot, ou), times, last, rest⟩) (hB : B ≤ w.heap.size) (t : Int) (h0 : 0 ≤ t) (h1 : now ≤ t) (A : Option Addr) (c : Nat) (hc : 4 ≤ c) (hV : Ever (fun k => k = g) w (fun W => Kd.C (Kd.int .u8) W A 4 [3, 2, 0, 7])) : Calls Try.prog 14 #[.pointer (some ⟨g, 0, none⟩), .int .i64 t, .int .i64 ou, .slice A 4 c] w fun e w' => ∃ gd gv cap cur, e = .returned (.tuple #[.slice (some ⟨gd, 0, none⟩) 1 1, .int .i64 0]) ∧ w'.heap[gd]? = some (.cells #[.int .i64 ot, .slice (some ⟨gv, 0, none⟩) 1 cap, .int .i64 0, .bool false] 48 (0, 0)) ∧ w'.heap[gv]? = some (.cells cur 3 (0, 0)) ∧ cur[0]? = some (.int .i64 7) ∧ IsM B w' g m ⟨wait, again, pause, t, tk, line, none, times, last, rest⟩ ∧ Ext (fun k => k = g) w w' := by
  have H := Aside0.mk h; have HB := Aside0.mk hB; have T0 := Aside0.mk h0; have T1 := Aside0.mk h1; have HC := Aside0.mk hc; have HV := Aside0.mk hV
  clear h hB h0 h1 hc hV
  have hu31 := Try.underlying31; have hu39 := Try.underlying39; have hu46 := Try.underlying46; have hu48 := Try.underlying48
  go_enter Try.func14, Try.ntmps14
  go_upto_region 4 with (go_at_call 31; refine (goon_f H.out HB.out t T0.out T1.out).mono ?_; rintro e w1 ⟨rfl, HI, HX⟩; have HI := Aside0.mk HI; have HX := Aside0.mk HX)
  clear H
  have HBW : Aside0 (B ≤ w1.heap.size) := ⟨Nat.le_trans HB.out HX.out.size⟩; have HV1 : Aside0 (Kd.C (Kd.int .u8) w1 A 4 [3, 2, 0, 7]) := ⟨HV.out.at_ _ HX.out⟩
  obtain ⟨⟨vl, vo, hb, hl, ho⟩, ⟨f, n, hm, hf⟩, bg, bm⟩ := HI.out
  clear HI
  obtain ⟨go, rfl, hgo, bgo, nlo⟩ := ho
  have BK_g : Aside0 (w1.heap[g]? = some (.cells #[.int .i64 wait, .int .i64 again, .int .i64 pause, .int .i64 t, .int .i64 tk, vl, .pointer (some ⟨go, 0, none⟩), .int .i64 times, .int .i64 last, .map (some m)] 73 (0, 0))) := ⟨hb⟩
  have OB_l : Aside0 (OwnE ks (fun _ => False) 39 B w1 vl (line)) := ⟨hl⟩
  have MP_m := Aside0.mk hm; have HF := Aside0.mk hf; have BG := Aside0.mk bg; have BM := Aside0.mk bm
  have NE_l_g : Aside0 (∀ k, (vl).ownBlock = some k → k ≠ g) := ⟨ks_ne hl hb (by decide)⟩; have NE_l_m : Aside0 (∀ k, (vl).ownBlock = some k → k ≠ m) := ⟨ks_nm hl hm⟩; have NE_g_m : Aside0 (g ≠ m) := ⟨cell_nm hb hm⟩; have NE_m_g : Aside0 (m ≠ g) := ⟨fun e => NE_g_m.out e.symm⟩; have F_g : Aside0 (∀ k, k = g → k = g ∨ w1.heap.size ≤ k) := ⟨fun k e => .inl e⟩
  have BK_go : Aside0 (w1.heap[go]? = some (.cells #[.int .i64 (ot), .int .i64 (ou), .int .i64 3, .int .i64 0, .int .i64 1, .slice none 0 0, .int .i64 0, .int .i64 0, .int .i64 0] 39 (0, 0))) := ⟨hgo⟩; have BGO := Aside0.mk bgo; have NE_l_go : Aside0 (∀ k, (vl).ownBlock = some k → k ≠ go) := ⟨nlo⟩; have NE_go_g : Aside0 (go ≠ g) := ⟨blk_ne hgo hb (by decide)⟩; have NE_g_go : Aside0 (g ≠ go) := ⟨fun e => NE_go_g.out e.symm⟩; have NE_go_m : Aside0 (go ≠ m) := ⟨cell_nm hgo hm⟩; have NE_m_go : Aside0 (m ≠ go) := ⟨fun e => NE_go_m.out e.symm⟩; clear hgo bgo nlo
  clear hb hl hm hf bg bm
  have XT : Aside0 (Ext (fun k => k = g) w1 w1) := ⟨Ext.refl _ _⟩
  have lc1_0 : w1.cell? ⟨g, 0, none⟩ = some (.int .i64 wait) := (blk_cell BK_g.out 0).trans rfl
  have lf1_0 := blk_frozen BK_g.out 0
  have lc1_1 : w1.cell? ⟨g, 1, none⟩ = some (.int .i64 again) := (blk_cell BK_g.out 1).trans rfl
  have lf1_1 := blk_frozen BK_g.out 1
  have lc1_2 : w1.cell? ⟨g, 2, none⟩ = some (.int .i64 pause) := (blk_cell BK_g.out 2).trans rfl
  have lf1_2 := blk_frozen BK_g.out 2
  have lc1_3 : w1.cell? ⟨g, 3, none⟩ = some (.int .i64 t) := (blk_cell BK_g.out 3).trans rfl
  have lf1_3 := blk_frozen BK_g.out 3
  have lc1_4 : w1.cell? ⟨g, 4, none⟩ = some (.int .i64 tk) := (blk_cell BK_g.out 4).trans rfl
  have lf1_4 := blk_frozen BK_g.out 4
  have lc1_5 : w1.cell? ⟨g, 5, none⟩ = some (vl) := (blk_cell BK_g.out 5).trans rfl
  have lf1_5 := blk_frozen BK_g.out 5
  have lc1_6 : w1.cell? ⟨g, 6, none⟩ = some (.pointer (some ⟨go, 0, none⟩)) := (blk_cell BK_g.out 6).trans rfl
  have lf1_6 := blk_frozen BK_g.out 6
  have lc1_7 : w1.cell? ⟨g, 7, none⟩ = some (.int .i64 times) := (blk_cell BK_g.out 7).trans rfl
  have lf1_7 := blk_frozen BK_g.out 7
  have lc1_8 : w1.cell? ⟨g, 8, none⟩ = some (.int .i64 last) := (blk_cell BK_g.out 8).trans rfl
  have lf1_8 := blk_frozen BK_g.out 8
  have lc1_9 : w1.cell? ⟨g, 9, none⟩ = some (.map (some m)) := (blk_cell BK_g.out 9).trans rfl
  have lf1_9 := blk_frozen BK_g.out 9
  have lc2_0 : w1.cell? ⟨go, 0, none⟩ = some (.int .i64 (ot)) := (blk_cell BK_go.out 0).trans rfl
  have lf2_0 := blk_frozen BK_go.out 0
  have lc2_1 : w1.cell? ⟨go, 1, none⟩ = some (.int .i64 (ou)) := (blk_cell BK_go.out 1).trans rfl
  have lf2_1 := blk_frozen BK_go.out 1
  have lc2_2 : w1.cell? ⟨go, 2, none⟩ = some (.int .i64 3) := (blk_cell BK_go.out 2).trans rfl
  have lf2_2 := blk_frozen BK_go.out 2
  have lc2_3 : w1.cell? ⟨go, 3, none⟩ = some (.int .i64 0) := (blk_cell BK_go.out 3).trans rfl
  have lf2_3 := blk_frozen BK_go.out 3
  have lc2_4 : w1.cell? ⟨go, 4, none⟩ = some (.int .i64 1) := (blk_cell BK_go.out 4).trans rfl
  have lf2_4 := blk_frozen BK_go.out 4
  have lc2_5 : w1.cell? ⟨go, 5, none⟩ = some (.slice none 0 0) := (blk_cell BK_go.out 5).trans rfl
  have lf2_5 := blk_frozen BK_go.out 5
  have lc2_6 : w1.cell? ⟨go, 6, none⟩ = some (.int .i64 0) := (blk_cell BK_go.out 6).trans rfl
  have lf2_6 := blk_frozen BK_go.out 6
  have lc2_7 : w1.cell? ⟨go, 7, none⟩ = some (.int .i64 0) := (blk_cell BK_go.out 7).trans rfl
  have lf2_7 := blk_frozen BK_go.out 7
  have lc2_8 : w1.cell? ⟨go, 8, none⟩ = some (.int .i64 0) := (blk_cell BK_go.out 8).trans rfl
  have lf2_8 := blk_frozen BK_go.out 8
  go_upto_region 9 with (first | (go_at_call 35; refine (PQ.pdu_AnswerParse.calls 60 3 0 1 none 0 [] 0 0 0 A c [3, 2, 0, 7] [7] 0 0 _ (Kd.C_nil _ _) (Nat.le_refl _) HV1.out HC.out ap1.out).mono ?_; rintro e w2 ⟨v, rfl, HR, HBc⟩; obtain ⟨gv, cap, cur, rfl, hgv, hcur, hc7⟩ := own7 HR; have HC7 := Aside0.mk hc7; have LTg := blk_lt BK_g.out; have LTo := blk_lt BK_go.out; have LTm := IsMap.lt MP_m.out; have NE_g_gv : Aside0 (g ≠ gv) := ⟨fun e => by omega⟩; have NE_gv_g : Aside0 (gv ≠ g) := ⟨fun e => by omega⟩; have NE_go_gv : Aside0 (go ≠ gv) := ⟨fun e => by omega⟩; have NE_gv_go : Aside0 (gv ≠ go) := ⟨fun e => by omega⟩; have NE_m_gv : Aside0 (m ≠ gv) := ⟨fun e => by omega⟩; have NE_gv_m : Aside0 (gv ≠ m) := ⟨fun e => by omega⟩; have NE_l_gv : Aside0 (∀ k, (vl).ownBlock = some k → k ≠ gv) := ⟨fun k hk e => by have := OwnE.lt OB_l.out k hk; omega⟩; clear LTg LTo LTm HR hc7 hgv; have OBn_l : Aside0 (OwnE ks (fun _ => False) 39 B w2 vl (line)) := ⟨ks_mv OB_l.out (Ext.none_ HBc) (fun _ _ e => e)⟩; clear OB_l; have OB_l := OBn_l; clear OBn_l; clear lc1_0 lf1_0 lc1_1 lf1_1 lc1_2 lf1_2 lc1_3 lf1_3 lc1_4 lf1_4 lc1_5 lf1_5 lc1_6 lf1_6 lc1_7 lf1_7 lc1_8 lf1_8 lc1_9 lf1_9 lc2_0 lf2_0 lc2_1 lf2_1 lc2_2 lf2_2 lc2_3 lf2_3 lc2_4 lf2_4 lc2_5 lf2_5 lc2_6 lf2_6 lc2_7 lf2_7 lc2_8 lf2_8; have BKn_g : Aside0 (w2.heap[g]? = some (.cells #[.int .i64 wait, .int .i64 again, .int .i64 pause, .int .i64 t, .int .i64 tk, vl, .pointer (some ⟨go, 0, none⟩), .int .i64 times, .int .i64 last, .map (some m)] 73 (0, 0))) := ⟨Ext.blk (Ext.none_ HBc) BK_g.out (fun e => e)⟩; have BKn_go : Aside0 (w2.heap[go]? = some (.cells #[.int .i64 (ot), .int .i64 (ou), .int .i64 3, .int .i64 0, .int .i64 1, .slice none 0 0, .int .i64 0, .int .i64 0, .int .i64 0] 39 (0, 0))) := ⟨Ext.blk (Ext.none_ HBc) BK_go.out (fun e => e)⟩; have MPn_m : Aside0 (IsMap w2 m (f) (n)) := ⟨IsMap.ext MP_m.out (Ext.none_ HBc) (fun e => e)⟩; have XTn : Aside0 (Ext (fun k => k = g) w1 w2) := ⟨XT.out.stepB HBc⟩; clear BK_g BK_go MP_m XT; have BK_g := BKn_g; have BK_go := BKn_go; have MP_m := MPn_m; have XT := XTn; clear BKn_g BKn_go MPn_m XTn; have BK_gv : Aside0 (w2.heap[gv]? = some (.cells cur 3 (0, 0))) := ⟨hcur⟩; clear hcur HBc HV1; have lc3_0 : w2.cell? ⟨g, 0, none⟩ = some (.int .i64 wait) := (blk_cell BK_g.out 0).trans rfl; have lf3_0 := blk_frozen BK_g.out 0; have lc3_1 : w2.cell? ⟨g, 1, none⟩ = some (.int .i64 again) := (blk_cell BK_g.out 1).trans rfl; have lf3_1 := blk_frozen BK_g.out 1; have lc3_2 : w2.cell? ⟨g, 2, none⟩ = some (.int .i64 pause) := (blk_cell BK_g.out 2).trans rfl; have lf3_2 := blk_frozen BK_g.out 2; have lc3_3 : w2.cell? ⟨g, 3, none⟩ = some (.int .i64 t) := (blk_cell BK_g.out 3).trans rfl; have lf3_3 := blk_frozen BK_g.out 3; have lc3_4 : w2.cell? ⟨g, 4, none⟩ = some (.int .i64 tk) := (blk_cell BK_g.out 4).trans rfl; have lf3_4 := blk_frozen BK_g.out 4; have lc3_5 : w2.cell? ⟨g, 5, none⟩ = some (vl) := (blk_cell BK_g.out 5).trans rfl; have lf3_5 := blk_frozen BK_g.out 5; have lc3_6 : w2.cell? ⟨g, 6, none⟩ = some (.pointer (some ⟨go, 0, none⟩)) := (blk_cell BK_g.out 6).trans rfl; have lf3_6 := blk_frozen BK_g.out 6; have lc3_7 : w2.cell? ⟨g, 7, none⟩ = some (.int .i64 times) := (blk_cell BK_g.out 7).trans rfl; have lf3_7 := blk_frozen BK_g.out 7; have lc3_8 : w2.cell? ⟨g, 8, none⟩ = some (.int .i64 last) := (blk_cell BK_g.out 8).trans rfl; have lf3_8 := blk_frozen BK_g.out 8; have lc3_9 : w2.cell? ⟨g, 9, none⟩ = some (.map (some m)) := (blk_cell BK_g.out 9).trans rfl; have lf3_9 := blk_frozen BK_g.out 9; have lc4_0 : w2.cell? ⟨go, 0, none⟩ = some (.int .i64 (ot)) := (blk_cell BK_go.out 0).trans rfl; have lf4_0 := blk_frozen BK_go.out 0; have lc4_1 : w2.cell? ⟨go, 1, none⟩ = some (.int .i64 (ou)) := (blk_cell BK_go.out 1).trans rfl; have lf4_1 := blk_frozen BK_go.out 1; have lc4_2 : w2.cell? ⟨go, 2, none⟩ = some (.int .i64 3) := (blk_cell BK_go.out 2).trans rfl; have lf4_2 := blk_frozen BK_go.out 2; have lc4_3 : w2.cell? ⟨go, 3, none⟩ = some (.int .i64 0) := (blk_cell BK_go.out 3).trans rfl; have lf4_3 := blk_frozen BK_go.out 3; have lc4_4 : w2.cell? ⟨go, 4, none⟩ = some (.int .i64 1) := (blk_cell BK_go.out 4).trans rfl; have lf4_4 := blk_frozen BK_go.out 4; have lc4_5 : w2.cell? ⟨go, 5, none⟩ = some (.slice none 0 0) := (blk_cell BK_go.out 5).trans rfl; have lf4_5 := blk_frozen BK_go.out 5; have lc4_6 : w2.cell? ⟨go, 6, none⟩ = some (.int .i64 0) := (blk_cell BK_go.out 6).trans rfl; have lf4_6 := blk_frozen BK_go.out 6; have lc4_7 : w2.cell? ⟨go, 7, none⟩ = some (.int .i64 0) := (blk_cell BK_go.out 7).trans rfl; have lf4_7 := blk_frozen BK_go.out 7; have lc4_8 : w2.cell? ⟨go, 8, none⟩ = some (.int .i64 0) := (blk_cell BK_go.out 8).trans rfl; have lf4_8 := blk_frozen BK_go.out 8) | ((with_reducible refine gate_dst (N := 11) rfl ?_); refine box_event ?hg (N := 11) ?hd (cs := #[.slice none 0 0, .int .i64 0]) (t := 46) ?hr ?_; (case hd => rfl); (case hg => rfl); (case hr => first | (go_simp; done) | (go_simp; rfl)); intro a hg w3 hbox HBc; have NE_l_a : Aside0 (∀ k, (vl).ownBlock = some k → k ≠ a) := ⟨fun k hk e => by have := OwnE.lt OB_l.out k hk; omega⟩; have NE_g_a : Aside0 (g ≠ a) := ⟨ne_born (blk_lt BK_g.out) hg⟩; have NE_a_g : Aside0 (a ≠ g) := ⟨fun e => NE_g_a.out e.symm⟩; have NE_go_a : Aside0 (go ≠ a) := ⟨ne_born (blk_lt BK_go.out) hg⟩; have NE_a_go : Aside0 (a ≠ go) := ⟨fun e => NE_go_a.out e.symm⟩; have NE_gv_a : Aside0 (gv ≠ a) := ⟨ne_born (blk_lt BK_gv.out) hg⟩; have NE_a_gv : Aside0 (a ≠ gv) := ⟨fun e => NE_gv_a.out e.symm⟩; have NE_m_a : Aside0 (m ≠ a) := ⟨ne_born (IsMap.lt MP_m.out) hg⟩; have NE_a_m : Aside0 (a ≠ m) := ⟨fun e => NE_m_a.out e.symm⟩; have F_a : Aside0 (∀ k, k = a → (fun k => k = g) k ∨ w1.heap.size ≤ k) := ⟨fnew hg XT.out.size⟩; have RG_a : Aside0 (w1.heap.size ≤ a) := ⟨Nat.le_trans XT.out.size (Nat.le_of_eq hg.symm)⟩; have BG_a : Aside0 (B ≤ a) := ⟨Nat.le_trans HBW.out RG_a.out⟩; clear hg; have OBn_l : Aside0 (OwnE ks (fun _ => False) 39 B w3 vl (line)) := ⟨ks_mv OB_l.out (Ext.none_ HBc) (fun _ _ e => e)⟩; clear OB_l; have OB_l := OBn_l; clear OBn_l; clear lc3_0 lf3_0 lc3_1 lf3_1 lc3_2 lf3_2 lc3_3 lf3_3 lc3_4 lf3_4 lc3_5 lf3_5 lc3_6 lf3_6 lc3_7 lf3_7 lc3_8 lf3_8 lc3_9 lf3_9 lc4_0 lf4_0 lc4_1 lf4_1 lc4_2 lf4_2 lc4_3 lf4_3 lc4_4 lf4_4 lc4_5 lf4_5 lc4_6 lf4_6 lc4_7 lf4_7 lc4_8 lf4_8; have BKn_g : Aside0 (w3.heap[g]? = some (.cells #[.int .i64 wait, .int .i64 again, .int .i64 pause, .int .i64 t, .int .i64 tk, vl, .pointer (some ⟨go, 0, none⟩), .int .i64 times, .int .i64 last, .map (some m)] 73 (0, 0))) := ⟨Ext.blk (Ext.none_ HBc) BK_g.out (fun e => e)⟩; have BKn_go : Aside0 (w3.heap[go]? = some (.cells #[.int .i64 (ot), .int .i64 (ou), .int .i64 3, .int .i64 0, .int .i64 1, .slice none 0 0, .int .i64 0, .int .i64 0, .int .i64 0] 39 (0, 0))) := ⟨Ext.blk (Ext.none_ HBc) BK_go.out (fun e => e)⟩; have BKn_gv : Aside0 (w3.heap[gv]? = some (.cells cur 3 (0, 0))) := ⟨Ext.blk (Ext.none_ HBc) BK_gv.out (fun e => e)⟩; have MPn_m : Aside0 (IsMap w3 m (f) (n)) := ⟨IsMap.ext MP_m.out (Ext.none_ HBc) (fun e => e)⟩; have XTn : Aside0 (Ext (fun k => k = g) w1 w3) := ⟨XT.out.stepB HBc⟩; clear BK_g BK_go BK_gv MP_m XT; have BK_g := BKn_g; have BK_go := BKn_go; have BK_gv := BKn_gv; have MP_m := MPn_m; have XT := XTn; clear BKn_g BKn_go BKn_gv MPn_m XTn; have BK_a : Aside0 (w3.heap[a]? = some (.cells #[.slice none 0 0, .int .i64 0] 46 (0, 0))) := ⟨hbox⟩; clear hbox HBc; have lc5_0 : w3.cell? ⟨g, 0, none⟩ = some (.int .i64 wait) := (blk_cell BK_g.out 0).trans rfl; have lf5_0 := blk_frozen BK_g.out 0; have lc5_1 : w3.cell? ⟨g, 1, none⟩ = some (.int .i64 again) := (blk_cell BK_g.out 1).trans rfl; have lf5_1 := blk_frozen BK_g.out 1; have lc5_2 : w3.cell? ⟨g, 2, none⟩ = some (.int .i64 pause) := (blk_cell BK_g.out 2).trans rfl; have lf5_2 := blk_frozen BK_g.out 2; have lc5_3 : w3.cell? ⟨g, 3, none⟩ = some (.int .i64 t) := (blk_cell BK_g.out 3).trans rfl; have lf5_3 := blk_frozen BK_g.out 3; have lc5_4 : w3.cell? ⟨g, 4, none⟩ = some (.int .i64 tk) := (blk_cell BK_g.out 4).trans rfl; have lf5_4 := blk_frozen BK_g.out 4; have lc5_5 : w3.cell? ⟨g, 5, none⟩ = some (vl) := (blk_cell BK_g.out 5).trans rfl; have lf5_5 := blk_frozen BK_g.out 5; have lc5_6 : w3.cell? ⟨g, 6, none⟩ = some (.pointer (some ⟨go, 0, none⟩)) := (blk_cell BK_g.out 6).trans rfl; have lf5_6 := blk_frozen BK_g.out 6; have lc5_7 : w3.cell? ⟨g, 7, none⟩ = some (.int .i64 times) := (blk_cell BK_g.out 7).trans rfl; have lf5_7 := blk_frozen BK_g.out 7; have lc5_8 : w3.cell? ⟨g, 8, none⟩ = some (.int .i64 last) := (blk_cell BK_g.out 8).trans rfl; have lf5_8 := blk_frozen BK_g.out 8; have lc5_9 : w3.cell? ⟨g, 9, none⟩ = some (.map (some m)) := (blk_cell BK_g.out 9).trans rfl; have lf5_9 := blk_frozen BK_g.out 9; have lc6_0 : w3.cell? ⟨go, 0, none⟩ = some (.int .i64 (ot)) := (blk_cell BK_go.out 0).trans rfl; have lf6_0 := blk_frozen BK_go.out 0; have lc6_1 : w3.cell? ⟨go, 1, none⟩ = some (.int .i64 (ou)) := (blk_cell BK_go.out 1).trans rfl; have lf6_1 := blk_frozen BK_go.out 1; have lc6_2 : w3.cell? ⟨go, 2, none⟩ = some (.int .i64 3) := (blk_cell BK_go.out 2).trans rfl; have lf6_2 := blk_frozen BK_go.out 2; have lc6_3 : w3.cell? ⟨go, 3, none⟩ = some (.int .i64 0) := (blk_cell BK_go.out 3).trans rfl; have lf6_3 := blk_frozen BK_go.out 3; have lc6_4 : w3.cell? ⟨go, 4, none⟩ = some (.int .i64 1) := (blk_cell BK_go.out 4).trans rfl; have lf6_4 := blk_frozen BK_go.out 4; have lc6_5 : w3.cell? ⟨go, 5, none⟩ = some (.slice none 0 0) := (blk_cell BK_go.out 5).trans rfl; have lf6_5 := blk_frozen BK_go.out 5; have lc6_6 : w3.cell? ⟨go, 6, none⟩ = some (.int .i64 0) := (blk_cell BK_go.out 6).trans rfl; have lf6_6 := blk_frozen BK_go.out 6; have lc6_7 : w3.cell? ⟨go, 7, none⟩ = some (.int .i64 0) := (blk_cell BK_go.out 7).trans rfl; have lf6_7 := blk_frozen BK_go.out 7; have lc6_8 : w3.cell? ⟨go, 8, none⟩ = some (.int .i64 0) := (blk_cell BK_go.out 8).trans rfl; have lf6_8 := blk_frozen BK_go.out 8; have lc7_0 : w3.cell? ⟨a, 0, none⟩ = some (.slice none 0 0) := (blk_cell BK_a.out 0).trans rfl; have lf7_0 := blk_frozen BK_a.out 0; have lc7_1 : w3.cell? ⟨a, 1, none⟩ = some (.int .i64 0) := (blk_cell BK_a.out 1).trans rfl; have lf7_1 := blk_frozen BK_a.out 1) | ((with_reducible refine gate_store (p := 11) rfl ?_); refine store_event (w1 := ?_) rfl (p := 11) rfl rfl ?hr ?_; rotate_left; (case hr => go_simp; rfl); intro w4 hw_; have hput : w4.heap[a]? = some (.cells #[.slice (some ⟨gv, 0, none⟩) 1 cap, .int .i64 0] 46 (0, 0)) := (by rw [hw_]; refine blk_put (cs := #[.slice (some ⟨gv, 0, none⟩) 1 cap, .int .i64 0]) ?_ 1 _ rfl; refine blk_put (cs := #[.slice none 0 0, .int .i64 0]) ?_ 0 _ rfl; exact BK_a.out); have HEc : Ext (fun k => k = a) w3 w4 := (by rw [hw_]; exact (((Ext.refl _ _).setg _).setg _)); clear hw_; have OBn_l : Aside0 (OwnE ks (fun _ => False) 39 B w4 vl (line)) := ⟨ks_mv OB_l.out HEc NE_l_a.out⟩; clear OB_l; have OB_l := OBn_l; clear OBn_l; clear lc5_0 lf5_0 lc5_1 lf5_1 lc5_2 lf5_2 lc5_3 lf5_3 lc5_4 lf5_4 lc5_5 lf5_5 lc5_6 lf5_6 lc5_7 lf5_7 lc5_8 lf5_8 lc5_9 lf5_9 lc6_0 lf6_0 lc6_1 lf6_1 lc6_2 lf6_2 lc6_3 lf6_3 lc6_4 lf6_4 lc6_5 lf6_5 lc6_6 lf6_6 lc6_7 lf6_7 lc6_8 lf6_8 lc7_0 lf7_0 lc7_1 lf7_1; have BKn_g : Aside0 (w4.heap[g]? = some (.cells #[.int .i64 wait, .int .i64 again, .int .i64 pause, .int .i64 t, .int .i64 tk, vl, .pointer (some ⟨go, 0, none⟩), .int .i64 times, .int .i64 last, .map (some m)] 73 (0, 0))) := ⟨Ext.blk HEc BK_g.out NE_g_a.out⟩; have BKn_go : Aside0 (w4.heap[go]? = some (.cells #[.int .i64 (ot), .int .i64 (ou), .int .i64 3, .int .i64 0, .int .i64 1, .slice none 0 0, .int .i64 0, .int .i64 0, .int .i64 0] 39 (0, 0))) := ⟨Ext.blk HEc BK_go.out NE_go_a.out⟩; have BKn_gv : Aside0 (w4.heap[gv]? = some (.cells cur 3 (0, 0))) := ⟨Ext.blk HEc BK_gv.out NE_gv_a.out⟩; have MPn_m : Aside0 (IsMap w4 m (f) (n)) := ⟨IsMap.ext MP_m.out HEc NE_m_a.out⟩; have XTn : Aside0 (Ext (fun k => k = g) w1 w4) := ⟨XT.out.step HEc (F_a.out)⟩; clear BK_g BK_go BK_gv MP_m XT; have BK_g := BKn_g; have BK_go := BKn_go; have BK_gv := BKn_gv; have MP_m := MPn_m; have XT := XTn; clear BKn_g BKn_go BKn_gv MPn_m XTn; clear BK_a; have BK_a : Aside0 (w4.heap[a]? = some (.cells #[.slice (some ⟨gv, 0, none⟩) 1 cap, .int .i64 0] 46 (0, 0))) := ⟨hput⟩; clear hput HEc; have lc8_0 : w4.cell? ⟨g, 0, none⟩ = some (.int .i64 wait) := (blk_cell BK_g.out 0).trans rfl; have lf8_0 := blk_frozen BK_g.out 0; have lc8_1 : w4.cell? ⟨g, 1, none⟩ = some (.int .i64 again) := (blk_cell BK_g.out 1).trans rfl; have lf8_1 := blk_frozen BK_g.out 1; have lc8_2 : w4.cell? ⟨g, 2, none⟩ = some (.int .i64 pause) := (blk_cell BK_g.out 2).trans rfl; have lf8_2 := blk_frozen BK_g.out 2; have lc8_3 : w4.cell? ⟨g, 3, none⟩ = some (.int .i64 t) := (blk_cell BK_g.out 3).trans rfl; have lf8_3 := blk_frozen BK_g.out 3; have lc8_4 : w4.cell? ⟨g, 4, none⟩ = some (.int .i64 tk) := (blk_cell BK_g.out 4).trans rfl; have lf8_4 := blk_frozen BK_g.out 4; have lc8_5 : w4.cell? ⟨g, 5, none⟩ = some (vl) := (blk_cell BK_g.out 5).trans rfl; have lf8_5 := blk_frozen BK_g.out 5; have lc8_6 : w4.cell? ⟨g, 6, none⟩ = some (.pointer (some ⟨go, 0, none⟩)) := (blk_cell BK_g.out 6).trans rfl; have lf8_6 := blk_frozen BK_g.out 6; have lc8_7 : w4.cell? ⟨g, 7, none⟩ = some (.int .i64 times) := (blk_cell BK_g.out 7).trans rfl; have lf8_7 := blk_frozen BK_g.out 7; have lc8_8 : w4.cell? ⟨g, 8, none⟩ = some (.int .i64 last) := (blk_cell BK_g.out 8).trans rfl; have lf8_8 := blk_frozen BK_g.out 8; have lc8_9 : w4.cell? ⟨g, 9, none⟩ = some (.map (some m)) := (blk_cell BK_g.out 9).trans rfl; have lf8_9 := blk_frozen BK_g.out 9; have lc9_0 : w4.cell? ⟨go, 0, none⟩ = some (.int .i64 (ot)) := (blk_cell BK_go.out 0).trans rfl; have lf9_0 := blk_frozen BK_go.out 0; have lc9_1 : w4.cell? ⟨go, 1, none⟩ = some (.int .i64 (ou)) := (blk_cell BK_go.out 1).trans rfl; have lf9_1 := blk_frozen BK_go.out 1; have lc9_2 : w4.cell? ⟨go, 2, none⟩ = some (.int .i64 3) := (blk_cell BK_go.out 2).trans rfl; have lf9_2 := blk_frozen BK_go.out 2; have lc9_3 : w4.cell? ⟨go, 3, none⟩ = some (.int .i64 0) := (blk_cell BK_go.out 3).trans rfl; have lf9_3 := blk_frozen BK_go.out 3; have lc9_4 : w4.cell? ⟨go, 4, none⟩ = some (.int .i64 1) := (blk_cell BK_go.out 4).trans rfl; have lf9_4 := blk_frozen BK_go.out 4; have lc9_5 : w4.cell? ⟨go, 5, none⟩ = some (.slice none 0 0) := (blk_cell BK_go.out 5).trans rfl; have lf9_5 := blk_frozen BK_go.out 5; have lc9_6 : w4.cell? ⟨go, 6, none⟩ = some (.int .i64 0) := (blk_cell BK_go.out 6).trans rfl; have lf9_6 := blk_frozen BK_go.out 6; have lc9_7 : w4.cell? ⟨go, 7, none⟩ = some (.int .i64 0) := (blk_cell BK_go.out 7).trans rfl; have lf9_7 := blk_frozen BK_go.out 7; have lc9_8 : w4.cell? ⟨go, 8, none⟩ = some (.int .i64 0) := (blk_cell BK_go.out 8).trans rfl; have lf9_8 := blk_frozen BK_go.out 8; have lc10_0 : w4.cell? ⟨a, 0, none⟩ = some (.slice (some ⟨gv, 0, none⟩) 1 cap) := (blk_cell BK_a.out 0).trans rfl; have lf10_0 := blk_frozen BK_a.out 0; have lc10_1 : w4.cell? ⟨a, 1, none⟩ = some (.int .i64 0) := (blk_cell BK_a.out 1).trans rfl; have lf10_1 := blk_frozen BK_a.out 1))
  clear lc8_0 lf8_0 lc8_1 lf8_1 lc8_2 lf8_2 lc8_3 lf8_3 lc8_4 lf8_4 lc8_5 lf8_5 lc8_6 lf8_6 lc8_7 lf8_7 lc8_8 lf8_8 lc8_9 lf8_9 lc9_0 lf9_0 lc9_1 lf9_1 lc9_2 lf9_2 lc9_3 lf9_3 lc9_4 lf9_4 lc9_5 lf9_5 lc9_6 lf9_6 lc9_7 lf9_7 lc9_8 lf9_8 lc10_0 lf10_0 lc10_1 lf10_1
  refine start_ (n := 11) (S := fun W => W.cell? ⟨g, 6, none⟩ = some (.pointer (some ⟨go, 0, none⟩)) ∧ W.cell? ⟨go, 0, none⟩ = some (.int .i64 (ot)) ∧ W.cell? ⟨a, 0, none⟩ = some (.slice (some ⟨gv, 0, none⟩) 1 cap) ∧ W.cell? ⟨a, 1, none⟩ = some (.int .i64 0)) (ds := [10]) #[false, false, false, false, false, false, false, false, false, false, false] (by kernel_rfl) rfl rfl ?_ (fun hHeld => ?_)
  · exact ⟨(blk_cell (by (with_reducible repeat (first | refine blk_drewN ?_ _ | refine blk_drew ?_ | refine blk_alloc ?_ _)); exact BK_g.out) 6).trans rfl, (blk_cell (by (with_reducible repeat (first | refine blk_drewN ?_ _ | refine blk_drew ?_ | refine blk_alloc ?_ _)); exact BK_go.out) 0).trans rfl, (blk_cell (by (with_reducible repeat (first | refine blk_drewN ?_ _ | refine blk_drew ?_ | refine blk_alloc ?_ _)); exact BK_a.out) 0).trans rfl, (blk_cell (by (with_reducible repeat (first | refine blk_drewN ?_ _ | refine blk_drew ?_ | refine blk_alloc ?_ _)); exact BK_a.out) 1).trans rfl⟩
  refine pure_ (i := 0) (N := some 50) (v := ?_) (a' := ?_) #[true, false, false, false, false, false, false, false, false, false, false] rfl rfl (by kernel_rfl) (fun _ _ _ h => h) (Or.inl ⟨by rfl, ?_⟩) ?_ ?_
  rotate_left
  · intro w'
    go_simp
    with_reducible rfl
  rotate_left
  · simp only [Act.put, List.setIfInBounds_toArray, List.set_cons_zero, List.set_cons_succ, i64_w, i32_w]
    rfl
  refine pure_ (i := 1) (N := some 51) (v := ?_) (a' := ?_) #[true, true, false, false, false, false, false, false, false, false, false] rfl rfl (by kernel_rfl) (fun _ _ _ h => h) (Or.inl ⟨by rfl, ?_⟩) ?_ ?_
  rotate_left
  · intro w'
    go_simp
    with_reducible rfl
  rotate_left
  · simp only [Act.put, List.setIfInBounds_toArray, List.set_cons_zero, List.set_cons_succ, i64_w, i32_w]
    rfl
  refine pure_ (i := 2) (N := some 52) (v := ?_) (a' := ?_) #[true, true, true, false, false, false, false, false, false, false, false] rfl rfl (by kernel_rfl) (fun _ _ _ h => h) (Or.inl ⟨by rfl, ?_⟩) ?_ ?_
  rotate_left
  · intro w'
    go_simp
    with_reducible rfl
  rotate_left
  · simp only [Act.put, List.setIfInBounds_toArray, List.set_cons_zero, List.set_cons_succ, i64_w, i32_w]
    rfl
  refine take_ (i := 3) (N := some 53) (v := ?_) (a' := ?_) #[true, true, true, true, false, false, false, false, false, false, false] rfl rfl (by kernel_rfl) (fun _ _ _ h => h) (Or.inl ⟨by rfl, ?_⟩) hHeld ?_ ?_
  rotate_left
  · rintro w' ⟨s0, s1, s2, s3⟩
    go_simp
    with_reducible rfl
  rotate_left
  · simp only [Act.put, List.setIfInBounds_toArray, List.set_cons_zero, List.set_cons_succ, i64_w, i32_w]
    rfl
  refine pure_ (i := 4) (N := some 54) (v := ?_) (a' := ?_) #[true, true, true, true, true, false, false, false, false, false, false] rfl rfl (by kernel_rfl) (fun _ _ _ h => h) (Or.inl ⟨by rfl, ?_⟩) ?_ ?_
  rotate_left
  · intro w'
    go_simp
    with_reducible rfl
  rotate_left
  · simp only [Act.put, List.setIfInBounds_toArray, List.set_cons_zero, List.set_cons_succ, i64_w, i32_w]
    rfl
  refine pure_ (i := 5) (N := some 55) (v := ?_) (a' := ?_) #[true, true, true, true, true, true, false, false, false, false, false] rfl rfl (by kernel_rfl) (fun _ _ _ h => h) (Or.inl ⟨by rfl, ?_⟩) ?_ ?_
  rotate_left
  · intro w'
    go_simp
    with_reducible rfl
  rotate_left
  · simp only [Act.put, List.setIfInBounds_toArray, List.set_cons_zero, List.set_cons_succ, i64_w, i32_w]
    rfl
  refine take_ (i := 6) (N := some 56) (v := ?_) (a' := ?_) #[true, true, true, true, true, true, true, false, false, false, false] rfl rfl (by kernel_rfl) (fun _ _ _ h => h) (Or.inl ⟨by rfl, ?_⟩) hHeld ?_ ?_
  rotate_left
  · rintro w' ⟨s0, s1, s2, s3⟩
    go_simp
    with_reducible rfl
  rotate_left
  · simp only [Act.put, List.setIfInBounds_toArray, List.set_cons_zero, List.set_cons_succ, i64_w, i32_w]
    rfl
  refine take_ (i := 7) (N := some 57) (v := ?_) (a' := ?_) #[true, true, true, true, true, true, true, true, false, false, false] rfl rfl (by kernel_rfl) (fun _ _ _ h => h) (Or.inl ⟨by rfl, ?_⟩) hHeld ?_ ?_
  rotate_left
  · rintro w' ⟨s0, s1, s2, s3⟩
    go_simp
    with_reducible rfl
  rotate_left
  · simp only [Act.put, List.setIfInBounds_toArray, List.set_cons_zero, List.set_cons_succ, i64_w, i32_w]
    rfl
  refine pure_ (i := 8) (N := some 58) (v := ?_) (a' := ?_) #[true, true, true, true, true, true, true, true, true, false, false] rfl rfl (by kernel_rfl) (fun _ _ _ h => h) (Or.inl ⟨by rfl, ?_⟩) ?_ ?_
  rotate_left
  · intro w'
    go_simp
    with_reducible rfl
  rotate_left
  · simp only [Act.put, List.setIfInBounds_toArray, List.set_cons_zero, List.set_cons_succ, i64_w, i32_w]
    rfl
  refine one_ (i := 9) (N := some 13) #[true, true, true, true, true, true, true, true, true, true, false] rfl rfl (by kernel_rfl) (by decide) (fun K hK => ?_)
  refine box_step (by rfl) (N := 13) rfl (cs := #[.int .i64 0, .slice none 0 0, .int .i64 0, .bool false]) (t := 48) ?hr ?_
  case hr => first | (go_simp; done) | (go_simp; rfl)
  intro d hg_ w5 hbox HBc
  have hg : d = w4.heap.size := hg_
  clear hg_
  have HBd : Below w4.heap.size w4 w5 := below_step (by repeat (first | exact Below.refl _ _ | apply pw_below_drewN | apply below_drew1)) HBc
  clear HBc
  have HBc := HBd; clear HBd
  have NE_l_d : Aside0 (∀ k, (vl).ownBlock = some k → k ≠ d) := ⟨fun k hk e => by have := OwnE.lt OB_l.out k hk; omega⟩
  have NE_g_d : Aside0 (g ≠ d) := ⟨ne_born (blk_lt BK_g.out) hg⟩
  have NE_d_g : Aside0 (d ≠ g) := ⟨fun e => NE_g_d.out e.symm⟩
  have NE_go_d : Aside0 (go ≠ d) := ⟨ne_born (blk_lt BK_go.out) hg⟩
  have NE_d_go : Aside0 (d ≠ go) := ⟨fun e => NE_go_d.out e.symm⟩
  have NE_gv_d : Aside0 (gv ≠ d) := ⟨ne_born (blk_lt BK_gv.out) hg⟩
  have NE_d_gv : Aside0 (d ≠ gv) := ⟨fun e => NE_gv_d.out e.symm⟩
  have NE_a_d : Aside0 (a ≠ d) := ⟨ne_born (blk_lt BK_a.out) hg⟩
  have NE_d_a : Aside0 (d ≠ a) := ⟨fun e => NE_a_d.out e.symm⟩
  have NE_m_d : Aside0 (m ≠ d) := ⟨ne_born (IsMap.lt MP_m.out) hg⟩
  have NE_d_m : Aside0 (d ≠ m) := ⟨fun e => NE_m_d.out e.symm⟩
  have F_d : Aside0 (∀ k, k = d → (fun k => k = g) k ∨ w1.heap.size ≤ k) := ⟨fnew hg XT.out.size⟩
  have RG_d : Aside0 (w1.heap.size ≤ d) := ⟨Nat.le_trans XT.out.size (Nat.le_of_eq hg.symm)⟩
  have BG_d : Aside0 (B ≤ d) := ⟨Nat.le_trans HBW.out RG_d.out⟩
  clear hg
  have OBn_l : Aside0 (OwnE ks (fun _ => False) 39 B w5 vl (line)) := ⟨ks_mv OB_l.out (Ext.none_ HBc) (fun _ _ e => e)⟩
  clear OB_l
  have OB_l := OBn_l
  clear OBn_l
  have BKn_g : Aside0 (w5.heap[g]? = some (.cells #[.int .i64 wait, .int .i64 again, .int .i64 pause, .int .i64 t, .int .i64 tk, vl, .pointer (some ⟨go, 0, none⟩), .int .i64 times, .int .i64 last, .map (some m)] 73 (0, 0))) := ⟨Ext.blk (Ext.none_ HBc) BK_g.out (fun e => e)⟩
  have BKn_go : Aside0 (w5.heap[go]? = some (.cells #[.int .i64 (ot), .int .i64 (ou), .int .i64 3, .int .i64 0, .int .i64 1, .slice none 0 0, .int .i64 0, .int .i64 0, .int .i64 0] 39 (0, 0))) := ⟨Ext.blk (Ext.none_ HBc) BK_go.out (fun e => e)⟩
  have BKn_gv : Aside0 (w5.heap[gv]? = some (.cells cur 3 (0, 0))) := ⟨Ext.blk (Ext.none_ HBc) BK_gv.out (fun e => e)⟩
  have BKn_a : Aside0 (w5.heap[a]? = some (.cells #[.slice (some ⟨gv, 0, none⟩) 1 cap, .int .i64 0] 46 (0, 0))) := ⟨Ext.blk (Ext.none_ HBc) BK_a.out (fun e => e)⟩
  have MPn_m : Aside0 (IsMap w5 m (f) (n)) := ⟨IsMap.ext MP_m.out (Ext.none_ HBc) (fun e => e)⟩
  have XTn : Aside0 (Ext (fun k => k = g) w1 w5) := ⟨XT.out.stepB HBc⟩
  clear BK_g BK_go BK_gv BK_a MP_m XT
  have BK_g := BKn_g
  have BK_go := BKn_go
  have BK_gv := BKn_gv
  have BK_a := BKn_a
  have MP_m := MPn_m
  have XT := XTn
  clear BKn_g BKn_go BKn_gv BKn_a MPn_m XTn
  have BK_d : Aside0 (w5.heap[d]? = some (.cells #[.int .i64 0, .slice none 0 0, .int .i64 0, .bool false] 48 (0, 0))) := ⟨hbox⟩
  clear hbox HBc
  refine hK.out _ _ ?_ (fun hHeld => ?_)
  · exact ⟨(blk_cell (by (with_reducible repeat (first | refine blk_drewN ?_ _ | refine blk_drew ?_ | refine blk_alloc ?_ _)); exact BK_g.out) 6).trans rfl, (blk_cell (by (with_reducible repeat (first | refine blk_drewN ?_ _ | refine blk_drew ?_ | refine blk_alloc ?_ _)); exact BK_go.out) 0).trans rfl, (blk_cell (by (with_reducible repeat (first | refine blk_drewN ?_ _ | refine blk_drew ?_ | refine blk_alloc ?_ _)); exact BK_a.out) 0).trans rfl, (blk_cell (by (with_reducible repeat (first | refine blk_drewN ?_ _ | refine blk_drew ?_ | refine blk_alloc ?_ _)); exact BK_a.out) 1).trans rfl⟩
  clear hK K
  refine norm_ (a' := ?_) ?_ ?_
  rotate_left
  · show Act.put _ (some 13) _ = _
    simp only [Act.put, List.setIfInBounds_toArray, List.set_cons_zero, List.set_cons_succ, i64_w, i32_w]
    rfl
  refine last_ (i := 10) (N := none) #[true, true, true, true, true, true, true, true, true, true, true] rfl rfl (by kernel_rfl) (by decide) (fun K hK => ?_)
  have lc11_0 : w5.cell? ⟨d, 0, none⟩ = some (.int .i64 0) := (blk_cell BK_d.out 0).trans rfl
  have lf11_0 := blk_frozen BK_d.out 0
  have lc11_1 : w5.cell? ⟨d, 1, none⟩ = some (.slice none 0 0) := (blk_cell BK_d.out 1).trans rfl
  have lf11_1 := blk_frozen BK_d.out 1
  have lc11_2 : w5.cell? ⟨d, 2, none⟩ = some (.int .i64 0) := (blk_cell BK_d.out 2).trans rfl
  have lf11_2 := blk_frozen BK_d.out 2
  have lc11_3 : w5.cell? ⟨d, 3, none⟩ = some (.bool false) := (blk_cell BK_d.out 3).trans rfl
  have lf11_3 := blk_frozen BK_d.out 3
  refine skip_ (w1 := ?_) (by rfl) rfl ?_ ?_
  rotate_left
  · go_simp
    rfl
  clear lc11_0 lf11_0 lc11_1 lf11_1 lc11_2 lf11_2 lc11_3 lf11_3
  generalize hw_ : World.setCell (World.setCell (World.setCell (World.setCell w5 ⟨d, 0, none⟩ _) ⟨d, 1, none⟩ _) ⟨d, 2, none⟩ _) ⟨d, 3, none⟩ _ = w6
  have hput : w6.heap[d]? = some (.cells #[.int .i64 (ot), .slice (some ⟨gv, 0, none⟩) 1 cap, .int .i64 0, .bool false] 48 (0, 0)) := (by rw [← hw_]; refine blk_put (cs := #[.int .i64 (ot), .slice (some ⟨gv, 0, none⟩) 1 cap, .int .i64 0, .bool false]) ?_ 3 _ rfl; refine blk_put (cs := #[.int .i64 (ot), .slice (some ⟨gv, 0, none⟩) 1 cap, .int .i64 0, .bool false]) ?_ 2 _ rfl; refine blk_put (cs := #[.int .i64 (ot), .slice none 0 0, .int .i64 0, .bool false]) ?_ 1 _ rfl; refine blk_put (cs := #[.int .i64 0, .slice none 0 0, .int .i64 0, .bool false]) ?_ 0 _ rfl; exact BK_d.out)
  have HEc : Ext (fun k => k = d) w5 w6 := (by rw [← hw_]; exact ((((Ext.refl _ _).setg _).setg _).setg _).setg _)
  clear hw_
  have OBn_l : Aside0 (OwnE ks (fun _ => False) 39 B w6 vl (line)) := ⟨ks_mv OB_l.out HEc NE_l_d.out⟩
  clear OB_l
  have OB_l := OBn_l
  clear OBn_l
  have BKn_g : Aside0 (w6.heap[g]? = some (.cells #[.int .i64 wait, .int .i64 again, .int .i64 pause, .int .i64 t, .int .i64 tk, vl, .pointer (some ⟨go, 0, none⟩), .int .i64 times, .int .i64 last, .map (some m)] 73 (0, 0))) := ⟨Ext.blk HEc BK_g.out NE_g_d.out⟩
  have BKn_go : Aside0 (w6.heap[go]? = some (.cells #[.int .i64 (ot), .int .i64 (ou), .int .i64 3, .int .i64 0, .int .i64 1, .slice none 0 0, .int .i64 0, .int .i64 0, .int .i64 0] 39 (0, 0))) := ⟨Ext.blk HEc BK_go.out NE_go_d.out⟩
  have BKn_gv : Aside0 (w6.heap[gv]? = some (.cells cur 3 (0, 0))) := ⟨Ext.blk HEc BK_gv.out NE_gv_d.out⟩
  have BKn_a : Aside0 (w6.heap[a]? = some (.cells #[.slice (some ⟨gv, 0, none⟩) 1 cap, .int .i64 0] 46 (0, 0))) := ⟨Ext.blk HEc BK_a.out NE_a_d.out⟩
  have MPn_m : Aside0 (IsMap w6 m (f) (n)) := ⟨IsMap.ext MP_m.out HEc NE_m_d.out⟩
  have XTn : Aside0 (Ext (fun k => k = g) w1 w6) := ⟨XT.out.step HEc (F_d.out)⟩
  clear BK_g BK_go BK_gv BK_a MP_m XT
  have BK_g := BKn_g
  have BK_go := BKn_go
  have BK_gv := BKn_gv
  have BK_a := BKn_a
  have MP_m := MPn_m
  have XT := XTn
  clear BKn_g BKn_go BKn_gv BKn_a MPn_m XTn
  clear BK_d
  have BK_d : Aside0 (w6.heap[d]? = some (.cells #[.int .i64 (ot), .slice (some ⟨gv, 0, none⟩) 1 cap, .int .i64 0, .bool false] 48 (0, 0))) := ⟨hput⟩
  clear hput HEc
  refine hK.out _ _ ?_
  clear hK K
  refine done_ (by kernel_rfl) ?_
  have lc12_0 : w6.cell? ⟨g, 0, none⟩ = some (.int .i64 wait) := (blk_cell BK_g.out 0).trans rfl
  have lf12_0 := blk_frozen BK_g.out 0
  have lc12_1 : w6.cell? ⟨g, 1, none⟩ = some (.int .i64 again) := (blk_cell BK_g.out 1).trans rfl
  have lf12_1 := blk_frozen BK_g.out 1
  have lc12_2 : w6.cell? ⟨g, 2, none⟩ = some (.int .i64 pause) := (blk_cell BK_g.out 2).trans rfl
  have lf12_2 := blk_frozen BK_g.out 2
  have lc12_3 : w6.cell? ⟨g, 3, none⟩ = some (.int .i64 t) := (blk_cell BK_g.out 3).trans rfl
  have lf12_3 := blk_frozen BK_g.out 3
  have lc12_4 : w6.cell? ⟨g, 4, none⟩ = some (.int .i64 tk) := (blk_cell BK_g.out 4).trans rfl
  have lf12_4 := blk_frozen BK_g.out 4
  have lc12_5 : w6.cell? ⟨g, 5, none⟩ = some (vl) := (blk_cell BK_g.out 5).trans rfl
  have lf12_5 := blk_frozen BK_g.out 5
  have lc12_6 : w6.cell? ⟨g, 6, none⟩ = some (.pointer (some ⟨go, 0, none⟩)) := (blk_cell BK_g.out 6).trans rfl
  have lf12_6 := blk_frozen BK_g.out 6
  have lc12_7 : w6.cell? ⟨g, 7, none⟩ = some (.int .i64 times) := (blk_cell BK_g.out 7).trans rfl
  have lf12_7 := blk_frozen BK_g.out 7
  have lc12_8 : w6.cell? ⟨g, 8, none⟩ = some (.int .i64 last) := (blk_cell BK_g.out 8).trans rfl
  have lf12_8 := blk_frozen BK_g.out 8
  have lc12_9 : w6.cell? ⟨g, 9, none⟩ = some (.map (some m)) := (blk_cell BK_g.out 9).trans rfl
  have lf12_9 := blk_frozen BK_g.out 9
  have lc13_0 : w6.cell? ⟨go, 0, none⟩ = some (.int .i64 (ot)) := (blk_cell BK_go.out 0).trans rfl
  have lf13_0 := blk_frozen BK_go.out 0
  have lc13_1 : w6.cell? ⟨go, 1, none⟩ = some (.int .i64 (ou)) := (blk_cell BK_go.out 1).trans rfl
  have lf13_1 := blk_frozen BK_go.out 1
  have lc13_2 : w6.cell? ⟨go, 2, none⟩ = some (.int .i64 3) := (blk_cell BK_go.out 2).trans rfl
  have lf13_2 := blk_frozen BK_go.out 2
  have lc13_3 : w6.cell? ⟨go, 3, none⟩ = some (.int .i64 0) := (blk_cell BK_go.out 3).trans rfl
  have lf13_3 := blk_frozen BK_go.out 3
  have lc13_4 : w6.cell? ⟨go, 4, none⟩ = some (.int .i64 1) := (blk_cell BK_go.out 4).trans rfl
  have lf13_4 := blk_frozen BK_go.out 4
  have lc13_5 : w6.cell? ⟨go, 5, none⟩ = some (.slice none 0 0) := (blk_cell BK_go.out 5).trans rfl
  have lf13_5 := blk_frozen BK_go.out 5
  have lc13_6 : w6.cell? ⟨go, 6, none⟩ = some (.int .i64 0) := (blk_cell BK_go.out 6).trans rfl
  have lf13_6 := blk_frozen BK_go.out 6
  have lc13_7 : w6.cell? ⟨go, 7, none⟩ = some (.int .i64 0) := (blk_cell BK_go.out 7).trans rfl
  have lf13_7 := blk_frozen BK_go.out 7
  have lc13_8 : w6.cell? ⟨go, 8, none⟩ = some (.int .i64 0) := (blk_cell BK_go.out 8).trans rfl
  have lf13_8 := blk_frozen BK_go.out 8
  have lc14_0 : w6.cell? ⟨a, 0, none⟩ = some (.slice (some ⟨gv, 0, none⟩) 1 cap) := (blk_cell BK_a.out 0).trans rfl
  have lf14_0 := blk_frozen BK_a.out 0
  have lc14_1 : w6.cell? ⟨a, 1, none⟩ = some (.int .i64 0) := (blk_cell BK_a.out 1).trans rfl
  have lf14_1 := blk_frozen BK_a.out 1
  have lc15_0 : w6.cell? ⟨d, 0, none⟩ = some (.int .i64 (ot)) := (blk_cell BK_d.out 0).trans rfl
  have lf15_0 := blk_frozen BK_d.out 0
  have lc15_1 : w6.cell? ⟨d, 1, none⟩ = some (.slice (some ⟨gv, 0, none⟩) 1 cap) := (blk_cell BK_d.out 1).trans rfl
  have lf15_1 := blk_frozen BK_d.out 1
  have lc15_2 : w6.cell? ⟨d, 2, none⟩ = some (.int .i64 0) := (blk_cell BK_d.out 2).trans rfl
  have lf15_2 := blk_frozen BK_d.out 2
  have lc15_3 : w6.cell? ⟨d, 3, none⟩ = some (.bool false) := (blk_cell BK_d.out 3).trans rfl
  have lf15_3 := blk_frozen BK_d.out 3
  go_wp2_with (first | ((with_reducible refine gate_store (p := 61) rfl ?_); refine store_event (w1 := ?_) rfl (p := 61) rfl rfl ?hr ?_; rotate_left; (case hr => go_simp; rfl); intro w7 hw_; obtain ⟨hput, HEc⟩ := put1 (cs' := #[.int .i64 wait, .int .i64 again, .int .i64 pause, .int .i64 t, .int .i64 tk, vl, .pointer none, .int .i64 times, .int .i64 last, .map (some m)]) hw_ BK_g.out rfl; clear hw_; have OBn_l : Aside0 (OwnE ks (fun _ => False) 39 B w7 vl (line)) := ⟨ks_mv OB_l.out HEc NE_l_g.out⟩; clear OB_l; have OB_l := OBn_l; clear OBn_l; clear lc12_0 lf12_0 lc12_1 lf12_1 lc12_2 lf12_2 lc12_3 lf12_3 lc12_4 lf12_4 lc12_5 lf12_5 lc12_6 lf12_6 lc12_7 lf12_7 lc12_8 lf12_8 lc12_9 lf12_9 lc13_0 lf13_0 lc13_1 lf13_1 lc13_2 lf13_2 lc13_3 lf13_3 lc13_4 lf13_4 lc13_5 lf13_5 lc13_6 lf13_6 lc13_7 lf13_7 lc13_8 lf13_8 lc14_0 lf14_0 lc14_1 lf14_1 lc15_0 lf15_0 lc15_1 lf15_1 lc15_2 lf15_2 lc15_3 lf15_3; have BKn_go : Aside0 (w7.heap[go]? = some (.cells #[.int .i64 (ot), .int .i64 (ou), .int .i64 3, .int .i64 0, .int .i64 1, .slice none 0 0, .int .i64 0, .int .i64 0, .int .i64 0] 39 (0, 0))) := ⟨Ext.blk HEc BK_go.out NE_go_g.out⟩; have BKn_gv : Aside0 (w7.heap[gv]? = some (.cells cur 3 (0, 0))) := ⟨Ext.blk HEc BK_gv.out NE_gv_g.out⟩; have BKn_a : Aside0 (w7.heap[a]? = some (.cells #[.slice (some ⟨gv, 0, none⟩) 1 cap, .int .i64 0] 46 (0, 0))) := ⟨Ext.blk HEc BK_a.out NE_a_g.out⟩; have BKn_d : Aside0 (w7.heap[d]? = some (.cells #[.int .i64 (ot), .slice (some ⟨gv, 0, none⟩) 1 cap, .int .i64 0, .bool false] 48 (0, 0))) := ⟨Ext.blk HEc BK_d.out NE_d_g.out⟩; have MPn_m : Aside0 (IsMap w7 m (f) (n)) := ⟨IsMap.ext MP_m.out HEc NE_m_g.out⟩; have XTn : Aside0 (Ext (fun k => k = g) w1 w7) := ⟨XT.out.step HEc (F_g.out)⟩; clear BK_go BK_gv BK_a BK_d MP_m XT; have BK_go := BKn_go; have BK_gv := BKn_gv; have BK_a := BKn_a; have BK_d := BKn_d; have MP_m := MPn_m; have XT := XTn; clear BKn_go BKn_gv BKn_a BKn_d MPn_m XTn; clear BK_g; have BK_g : Aside0 (w7.heap[g]? = some (.cells #[.int .i64 wait, .int .i64 again, .int .i64 pause, .int .i64 t, .int .i64 tk, vl, .pointer none, .int .i64 times, .int .i64 last, .map (some m)] 73 (0, 0))) := ⟨hput⟩; clear hput HEc; have lc16_0 : w7.cell? ⟨g, 0, none⟩ = some (.int .i64 wait) := (blk_cell BK_g.out 0).trans rfl; have lf16_0 := blk_frozen BK_g.out 0; have lc16_1 : w7.cell? ⟨g, 1, none⟩ = some (.int .i64 again) := (blk_cell BK_g.out 1).trans rfl; have lf16_1 := blk_frozen BK_g.out 1; have lc16_2 : w7.cell? ⟨g, 2, none⟩ = some (.int .i64 pause) := (blk_cell BK_g.out 2).trans rfl; have lf16_2 := blk_frozen BK_g.out 2; have lc16_3 : w7.cell? ⟨g, 3, none⟩ = some (.int .i64 t) := (blk_cell BK_g.out 3).trans rfl; have lf16_3 := blk_frozen BK_g.out 3; have lc16_4 : w7.cell? ⟨g, 4, none⟩ = some (.int .i64 tk) := (blk_cell BK_g.out 4).trans rfl; have lf16_4 := blk_frozen BK_g.out 4; have lc16_5 : w7.cell? ⟨g, 5, none⟩ = some (vl) := (blk_cell BK_g.out 5).trans rfl; have lf16_5 := blk_frozen BK_g.out 5; have lc16_6 : w7.cell? ⟨g, 6, none⟩ = some (.pointer none) := (blk_cell BK_g.out 6).trans rfl; have lf16_6 := blk_frozen BK_g.out 6; have lc16_7 : w7.cell? ⟨g, 7, none⟩ = some (.int .i64 times) := (blk_cell BK_g.out 7).trans rfl; have lf16_7 := blk_frozen BK_g.out 7; have lc16_8 : w7.cell? ⟨g, 8, none⟩ = some (.int .i64 last) := (blk_cell BK_g.out 8).trans rfl; have lf16_8 := blk_frozen BK_g.out 8; have lc16_9 : w7.cell? ⟨g, 9, none⟩ = some (.map (some m)) := (blk_cell BK_g.out 9).trans rfl; have lf16_9 := blk_frozen BK_g.out 9; have lc17_0 : w7.cell? ⟨go, 0, none⟩ = some (.int .i64 (ot)) := (blk_cell BK_go.out 0).trans rfl; have lf17_0 := blk_frozen BK_go.out 0; have lc17_1 : w7.cell? ⟨go, 1, none⟩ = some (.int .i64 (ou)) := (blk_cell BK_go.out 1).trans rfl; have lf17_1 := blk_frozen BK_go.out 1; have lc17_2 : w7.cell? ⟨go, 2, none⟩ = some (.int .i64 3) := (blk_cell BK_go.out 2).trans rfl; have lf17_2 := blk_frozen BK_go.out 2; have lc17_3 : w7.cell? ⟨go, 3, none⟩ = some (.int .i64 0) := (blk_cell BK_go.out 3).trans rfl; have lf17_3 := blk_frozen BK_go.out 3; have lc17_4 : w7.cell? ⟨go, 4, none⟩ = some (.int .i64 1) := (blk_cell BK_go.out 4).trans rfl; have lf17_4 := blk_frozen BK_go.out 4; have lc17_5 : w7.cell? ⟨go, 5, none⟩ = some (.slice none 0 0) := (blk_cell BK_go.out 5).trans rfl; have lf17_5 := blk_frozen BK_go.out 5; have lc17_6 : w7.cell? ⟨go, 6, none⟩ = some (.int .i64 0) := (blk_cell BK_go.out 6).trans rfl; have lf17_6 := blk_frozen BK_go.out 6; have lc17_7 : w7.cell? ⟨go, 7, none⟩ = some (.int .i64 0) := (blk_cell BK_go.out 7).trans rfl; have lf17_7 := blk_frozen BK_go.out 7; have lc17_8 : w7.cell? ⟨go, 8, none⟩ = some (.int .i64 0) := (blk_cell BK_go.out 8).trans rfl; have lf17_8 := blk_frozen BK_go.out 8; have lc18_0 : w7.cell? ⟨a, 0, none⟩ = some (.slice (some ⟨gv, 0, none⟩) 1 cap) := (blk_cell BK_a.out 0).trans rfl; have lf18_0 := blk_frozen BK_a.out 0; have lc18_1 : w7.cell? ⟨a, 1, none⟩ = some (.int .i64 0) := (blk_cell BK_a.out 1).trans rfl; have lf18_1 := blk_frozen BK_a.out 1; have lc19_0 : w7.cell? ⟨d, 0, none⟩ = some (.int .i64 (ot)) := (blk_cell BK_d.out 0).trans rfl; have lf19_0 := blk_frozen BK_d.out 0; have lc19_1 : w7.cell? ⟨d, 1, none⟩ = some (.slice (some ⟨gv, 0, none⟩) 1 cap) := (blk_cell BK_d.out 1).trans rfl; have lf19_1 := blk_frozen BK_d.out 1; have lc19_2 : w7.cell? ⟨d, 2, none⟩ = some (.int .i64 0) := (blk_cell BK_d.out 2).trans rfl; have lf19_2 := blk_frozen BK_d.out 2; have lc19_3 : w7.cell? ⟨d, 3, none⟩ = some (.bool false) := (blk_cell BK_d.out 3).trans rfl; have lf19_3 := blk_frozen BK_d.out 3) | ((with_reducible refine gate_dst (N := 63) rfl ?_); refine bs_ev (N := 63) ?hg ?hd (cs := #[.int .i64 (ot), .slice (some ⟨gv, 0, none⟩) 1 cap, .int .i64 0, .bool false]) (t := 48) (n := 1) ?hr ?_; (case hd => rfl); (case hg => rfl); (case hr => first | (go_simp; done) | (go_simp; rfl)); intro gd hg w8 hbox HBc; have NE_l_gd : Aside0 (∀ k, (vl).ownBlock = some k → k ≠ gd) := ⟨fun k hk e => by have := OwnE.lt OB_l.out k hk; omega⟩; have NE_g_gd : Aside0 (g ≠ gd) := ⟨ne_born (blk_lt BK_g.out) hg⟩; have NE_gd_g : Aside0 (gd ≠ g) := ⟨fun e => NE_g_gd.out e.symm⟩; have NE_go_gd : Aside0 (go ≠ gd) := ⟨ne_born (blk_lt BK_go.out) hg⟩; have NE_gd_go : Aside0 (gd ≠ go) := ⟨fun e => NE_go_gd.out e.symm⟩; have NE_gv_gd : Aside0 (gv ≠ gd) := ⟨ne_born (blk_lt BK_gv.out) hg⟩; have NE_gd_gv : Aside0 (gd ≠ gv) := ⟨fun e => NE_gv_gd.out e.symm⟩; have NE_a_gd : Aside0 (a ≠ gd) := ⟨ne_born (blk_lt BK_a.out) hg⟩; have NE_gd_a : Aside0 (gd ≠ a) := ⟨fun e => NE_a_gd.out e.symm⟩; have NE_d_gd : Aside0 (d ≠ gd) := ⟨ne_born (blk_lt BK_d.out) hg⟩; have NE_gd_d : Aside0 (gd ≠ d) := ⟨fun e => NE_d_gd.out e.symm⟩; have NE_m_gd : Aside0 (m ≠ gd) := ⟨ne_born (IsMap.lt MP_m.out) hg⟩; have NE_gd_m : Aside0 (gd ≠ m) := ⟨fun e => NE_m_gd.out e.symm⟩; have F_gd : Aside0 (∀ k, k = gd → (fun k => k = g) k ∨ w1.heap.size ≤ k) := ⟨fnew hg XT.out.size⟩; have RG_gd : Aside0 (w1.heap.size ≤ gd) := ⟨Nat.le_trans XT.out.size (Nat.le_of_eq hg.symm)⟩; have BG_gd : Aside0 (B ≤ gd) := ⟨Nat.le_trans HBW.out RG_gd.out⟩; clear hg; have OBn_l : Aside0 (OwnE ks (fun _ => False) 39 B w8 vl (line)) := ⟨ks_mv OB_l.out (Ext.none_ HBc) (fun _ _ e => e)⟩; clear OB_l; have OB_l := OBn_l; clear OBn_l; clear lc16_0 lf16_0 lc16_1 lf16_1 lc16_2 lf16_2 lc16_3 lf16_3 lc16_4 lf16_4 lc16_5 lf16_5 lc16_6 lf16_6 lc16_7 lf16_7 lc16_8 lf16_8 lc16_9 lf16_9 lc17_0 lf17_0 lc17_1 lf17_1 lc17_2 lf17_2 lc17_3 lf17_3 lc17_4 lf17_4 lc17_5 lf17_5 lc17_6 lf17_6 lc17_7 lf17_7 lc17_8 lf17_8 lc18_0 lf18_0 lc18_1 lf18_1 lc19_0 lf19_0 lc19_1 lf19_1 lc19_2 lf19_2 lc19_3 lf19_3; have BKn_g : Aside0 (w8.heap[g]? = some (.cells #[.int .i64 wait, .int .i64 again, .int .i64 pause, .int .i64 t, .int .i64 tk, vl, .pointer none, .int .i64 times, .int .i64 last, .map (some m)] 73 (0, 0))) := ⟨Ext.blk (Ext.none_ HBc) BK_g.out (fun e => e)⟩; have BKn_go : Aside0 (w8.heap[go]? = some (.cells #[.int .i64 (ot), .int .i64 (ou), .int .i64 3, .int .i64 0, .int .i64 1, .slice none 0 0, .int .i64 0, .int .i64 0, .int .i64 0] 39 (0, 0))) := ⟨Ext.blk (Ext.none_ HBc) BK_go.out (fun e => e)⟩; have BKn_gv : Aside0 (w8.heap[gv]? = some (.cells cur 3 (0, 0))) := ⟨Ext.blk (Ext.none_ HBc) BK_gv.out (fun e => e)⟩; have BKn_a : Aside0 (w8.heap[a]? = some (.cells #[.slice (some ⟨gv, 0, none⟩) 1 cap, .int .i64 0] 46 (0, 0))) := ⟨Ext.blk (Ext.none_ HBc) BK_a.out (fun e => e)⟩; have BKn_d : Aside0 (w8.heap[d]? = some (.cells #[.int .i64 (ot), .slice (some ⟨gv, 0, none⟩) 1 cap, .int .i64 0, .bool false] 48 (0, 0))) := ⟨Ext.blk (Ext.none_ HBc) BK_d.out (fun e => e)⟩; have MPn_m : Aside0 (IsMap w8 m (f) (n)) := ⟨IsMap.ext MP_m.out (Ext.none_ HBc) (fun e => e)⟩; have XTn : Aside0 (Ext (fun k => k = g) w1 w8) := ⟨XT.out.stepB HBc⟩; clear BK_g BK_go BK_gv BK_a BK_d MP_m XT; have BK_g := BKn_g; have BK_go := BKn_go; have BK_gv := BKn_gv; have BK_a := BKn_a; have BK_d := BKn_d; have MP_m := MPn_m; have XT := XTn; clear BKn_g BKn_go BKn_gv BKn_a BKn_d MPn_m XTn; have BK_gd : Aside0 (w8.heap[gd]? = some (.cells #[.int .i64 (ot), .slice (some ⟨gv, 0, none⟩) 1 cap, .int .i64 0, .bool false] 48 (0, 0))) := ⟨hbox⟩; clear hbox HBc))
  go_ret2
  exact ⟨gd, rfl, gv, ⟨cap, BK_gd.out⟩, cur, BK_gv.out, HC7.out, ⟨⟨_, _, BK_g.out, OB_l.out, rfl⟩, ⟨_, _, MP_m.out, HF.out⟩, BG.out, BM.out⟩, HX.out.trans XT.out⟩
end Go.Proofs.Ytlalpooiegganaa.MstG
end

section
namespace Go.Proofs.Ytlalpooiegganaa.MstH
open Go.RowKit Go.Proofs.YtlalpooiegganaaW.PrintWords Go.Proofs.YtlalpooiegganaaW.PrintLast Go.Proofs.YtlalpooiegganaaW.PrintMore Go.Proofs.Ytlalpooiegganaa.Core Go.Proofs.Ytlalpooiegganaa.Wk Go.Proofs.Ytlalpooiegganaa.PMasterWaits Go.Proofs.Ytlalpooiegganaa.Mst Go.Proofs.Ytlalpooiegganaa.MstB Go.Proofs.Ytlalpooiegganaa.MstC Go.Proofs.Ytlalpooiegganaa.MstD
set_option linter.unusedVariables false
set_option linter.unusedSimpArgs false
theorem w01 : wrap64 (0 + 1) = 1 := by unfold wrap64; omega
theorem ask_a {B : Nat} {w : World} {g m : Nat} {wait again pause now times last : Int} {rest : Int → Int} {out : Option (Int × Int)} (h : IsM B w g m ⟨wait, again, pause, now, 0, [], out, times, last, rest⟩) (hB : B ≤ w.heap.size) (unit : Int) (h0 : 0 ≤ unit) (h1 : unit ≤ 247) : Calls Try.prog 11 #[.pointer (some ⟨g, 0, none⟩), .int .i64 unit, .agg #[.int .i64 3, .int .i64 0, .int .i64 1, .slice none 0 0, .int .i64 0, .int .i64 0, .int .i64 0]] w fun e w' => e = .returned (.tuple #[.int .i64 1, .int .i64 0]) ∧ IsM B w' g m ⟨wait, again, pause, now, 1, [(1, unit)], out, times, last, rest⟩ ∧ Below B w w' := by
  have h := ask_c h hB unit h0 h1 (by simp)
  rw [w01] at h
  exact h
theorem lit_V {W : World} {bb g : Nat} (h : W.heap[bb]? = some (.cells #[.int .u8 3, .int .u8 2, .int .u8 0, .int .u8 7] 5 (0, 0))) (hn : bb ≠ g) : Ever (fun k => k = g) W (fun W => Kd.C (Kd.int .u8) W (some ⟨bb, 0, none⟩) 4 [3, 2, 0, 7]) :=
  Ever.ofRow (xs := [3, 2, 0, 7]) (n := 0) h (by decide) hn
set_option maxHeartbeats 4000000 in
set_option maxRecDepth 100000 in
theorem awake_c (w : World) : Calls Try.prog 9 #[] w fun e w' => e = .returned (.bool true) ∧ Below w.heap.size w w' := by
  have hu39 := Try.underlying39; have hu48 := Try.underlying48; have hu46 := Try.underlying46
  go_enter Try.func9, Try.ntmps9
  go_wp2_with (first | (go_at_call 8; refine (new_c _ 10 1 50 (by decide) (by decide) (by decide) (by decide)).mono ?_; rintro e w1 ⟨g, m, rfl, HI1, HB1⟩; have HI := Aside0.mk HI1; have HB := Aside0.mk HB1; clear HI1 HB1) | (go_at_call 17; refine (read_c _).mono ?_; rintro e w2 ⟨rfl, HBc⟩; have HI2 := Aside0.mk (HI.out.below HBc); have HB2 : Aside0 (Below w.heap.size w w2) := ⟨below_step HB.out HBc⟩; clear HBc HI HB) | (go_at_call 11; refine (ask_a HI2.out HB2.out.size 1 (by decide) (by decide)).mono ?_; rintro e w3 ⟨rfl, HIx, HX⟩; have HI3 := Aside0.mk HIx; have HB3 : Aside0 (Below w.heap.size w w3) := ⟨belowT HB2.out HX⟩; clear HIx HX HI2 HB2) | (go_at_call 12; refine (MstE.step_send (xs := []) HI3.out HB3.out.size 0 (by decide) (by decide) (by decide) (by decide)).mono ?_; rintro e w4 ⟨va, vd, rfl, ⟨ga, ca, rfl, hga⟩, hd, HIx, HX⟩; obtain rfl : vd = .slice none 0 0 := hd; have HI4 := Aside0.mk HIx; have HB4 : Aside0 (Below w.heap.size w w4) := ⟨belowT HB3.out HX⟩; have BKa := Aside0.mk hga; clear HIx HX HI3 HB3 hga) | ((with_reducible refine gate_dst (N := 34) rfl ?_); refine bs_ev (N := 34) ?hg ?hd (cs := #[.int .u8 3, .int .u8 2, .int .u8 0, .int .u8 7]) (t := 5) (n := 4) ?hr ?_; (case hd => rfl); (case hg => rfl); (case hr => first | (go_simp; done) | (go_simp; rfl)); intro bb hbb w5 hbox HBc; have HG := (IsM.outS HI4.out).2; have HVb := Aside0.mk (lit_V (g := g) hbox (by omega)); have BKa5 := Aside0.mk (blk_below BKa.out HBc); have HI5 := Aside0.mk (HI4.out.below HBc); have HB5 : Aside0 (Below w.heap.size w w5) := ⟨below_step HB4.out HBc⟩; clear HBc hbox hbb HI4 HB4 BKa HG) | (go_at_call 14; refine (MstG.came_c HI5.out HB5.out.size 3 (by decide) (by decide) (some ⟨bb, 0, none⟩) 4 (by decide) HVb.out).mono ?_; rintro e w6 ⟨gd, gv, cap, cur, rfl, hgd, hgv, hc7, HIx, HX⟩; obtain ⟨vl0, vo0, hg0, _, _⟩ := HI5.out.out; have BKa6 := Ext.blk HX BKa5.out (fun e => (blk_ne BKa5.out hg0 (by decide)) e); have la : w6.cell? ⟨ga, 1, none⟩ = some (.int .i64 1) := (blk_cell BKa6 1).trans rfl; have ld : w6.cell? ⟨gd, 1, none⟩ = some (.slice (some ⟨gv, 0, none⟩) 1 cap) := (blk_cell hgd 1).trans rfl; have lv : w6.cell? ⟨gv, 0, none⟩ = some (.int .i64 7) := (blk_cell hgv 0).trans hc7; have HI6 := Aside0.mk HIx; have HB6 : Aside0 (Below w.heap.size w w6) := ⟨belowT HB5.out (extB (HX.sub (fun k e => by rw [e]; exact HI5.out.bg)) HB5.out.size)⟩; clear HIx HX HI5 HB5 hgd hgv hc7 BKa6 BKa5 HVb hg0) | (go_at_call 16; refine (count_none HI6.out HB6.out.size (by decide)).mono ?_; rintro e w' ⟨rfl, rfl⟩))
  go_ret
  exact ⟨rfl, HB6.out⟩
end Go.Proofs.Ytlalpooiegganaa.MstH
end

section
namespace Go.Proofs.Ytlalpooiegganaa.MstE
open Go.RowKit Go.Proofs.YtlalpooiegganaaW.PrintWords Go.Proofs.YtlalpooiegganaaW.PrintLast Go.Proofs.YtlalpooiegganaaW.PrintMore Go.Proofs.Ytlalpooiegganaa.Core Go.Proofs.Ytlalpooiegganaa.Wk Go.Proofs.Ytlalpooiegganaa.PMasterWaits Go.Proofs.Ytlalpooiegganaa.Mst Go.Proofs.Ytlalpooiegganaa.MstB Go.Proofs.Ytlalpooiegganaa.MstC Go.Proofs.Ytlalpooiegganaa.MstD
set_option linter.unusedVariables false
set_option linter.unusedSimpArgs false
set_option maxHeartbeats 4000000 in
set_option maxRecDepth 100000 in
theorem step_late_empty {B : Nat} {w : World} {g m : Nat} {wait again pause now tk times last : Int} {rest : Int → Int} {ot ou : Int} (h : IsM B w g m ⟨wait, again, pause, now, tk, [], some (ot, ou), times, last, rest⟩) (hB : B ≤ w.heap.size) (t : Int) (h0 : 0 ≤ t) (h1 : now ≤ t) (hq : wait ≤ wrap64 (t - last)) (hr : again < times) : Calls Try.prog 12 #[.pointer (some ⟨g, 0, none⟩), .int .i64 t] w fun e w' => ∃ va vd, e = .returned (.tuple #[va, vd, .int .i64 0]) ∧ SentR w' va none ∧ DoneR w' vd (some ot) ∧ IsM B w' g m ⟨wait, again, pause, t, tk, [], none, times, last, (fun k => if k = ou then wrap64 (t + pause) else rest k)⟩ ∧ Below B w w' := by
  have H := Aside0.mk h; have HB := Aside0.mk hB; have T0 := Aside0.mk h0; have T1 := Aside0.mk h1
  have q5 : decide (wait ≤ wrap64 (t - last)) = true := decide_eq_true hq
  have q6 : decide (times ≤ again) = false := decide_eq_false (by omega)
  clear h hB h0 h1 hq hr
  have hu39 := Try.underlying39; have hu48 := Try.underlying48
  go_enter Try.func12, Try.ntmps12
  go_wp2_with (fail)
  go_step3
  go_upto_region 5 with (go_at_call 31; refine (goon_c H.out HB.out t T0.out T1.out).mono ?_; rintro e w1 ⟨rfl, HI, HBB⟩; have HI := Aside0.mk HI; have HBB := Aside0.mk HBB)
  clear H
  have HBW : Aside0 (B ≤ w1.heap.size) := ⟨Nat.le_trans HB.out HBB.out.size⟩
  obtain ⟨⟨vl, vo, hb, hl, ho⟩, ⟨f, n, hm, hf⟩, bg, bm⟩ := HI.out
  clear HI
  obtain ⟨go, rfl, hgo, bgo, nlo⟩ := ho
  have BK_g : Aside0 (w1.heap[g]? = some (.cells #[.int .i64 wait, .int .i64 again, .int .i64 pause, .int .i64 t, .int .i64 tk, vl, .pointer (some ⟨go, 0, none⟩), .int .i64 times, .int .i64 last, .map (some m)] 73 (0, 0))) := ⟨hb⟩
  have OB_l : Aside0 (OwnE ks (fun _ => False) 39 B w1 vl ([])) := ⟨hl⟩
  have MP_m := Aside0.mk hm; have HF := Aside0.mk hf; have BG := Aside0.mk bg; have BM := Aside0.mk bm
  have NE_l_g : Aside0 (∀ k, (vl).ownBlock = some k → k ≠ g) := ⟨ks_ne hl hb (by decide)⟩; have NE_l_m : Aside0 (∀ k, (vl).ownBlock = some k → k ≠ m) := ⟨ks_nm hl hm⟩; have NE_g_m : Aside0 (g ≠ m) := ⟨cell_nm hb hm⟩; have NE_m_g : Aside0 (m ≠ g) := ⟨fun e => NE_g_m.out e.symm⟩; have F_g : Aside0 (∀ k, k = g → B ≤ k ∨ w1.heap.size ≤ k) := ⟨fun k e => .inl (by rw [e]; exact bg)⟩; have F_m : Aside0 (∀ k, k = m → B ≤ k ∨ w1.heap.size ≤ k) := ⟨fun k e => .inl (by rw [e]; exact bm)⟩
  have BK_go : Aside0 (w1.heap[go]? = some (.cells #[.int .i64 (ot), .int .i64 (ou), .int .i64 3, .int .i64 0, .int .i64 1, .slice none 0 0, .int .i64 0, .int .i64 0, .int .i64 0] 39 (0, 0))) := ⟨hgo⟩; have BGO := Aside0.mk bgo; have NE_l_go : Aside0 (∀ k, (vl).ownBlock = some k → k ≠ go) := ⟨nlo⟩; have NE_go_g : Aside0 (go ≠ g) := ⟨blk_ne hgo hb (by decide)⟩; have NE_g_go : Aside0 (g ≠ go) := ⟨fun e => NE_go_g.out e.symm⟩; have NE_go_m : Aside0 (go ≠ m) := ⟨cell_nm hgo hm⟩; have NE_m_go : Aside0 (m ≠ go) := ⟨fun e => NE_go_m.out e.symm⟩; clear hgo bgo nlo
  clear hb hl hm hf bg bm
  obtain ⟨A, c, e⟩ := OB_l.out.slice
  obtain rfl : vl = (Value.slice A 0 c) := e
  have XT : Aside0 (Ext (fun k => B ≤ k) w1 w1) := ⟨Ext.refl _ _⟩
  have lc1_0 : w1.cell? ⟨g, 0, none⟩ = some (.int .i64 wait) := (blk_cell BK_g.out 0).trans rfl
  have lf1_0 := blk_frozen BK_g.out 0
  have lc1_1 : w1.cell? ⟨g, 1, none⟩ = some (.int .i64 again) := (blk_cell BK_g.out 1).trans rfl
  have lf1_1 := blk_frozen BK_g.out 1
  have lc1_2 : w1.cell? ⟨g, 2, none⟩ = some (.int .i64 pause) := (blk_cell BK_g.out 2).trans rfl
  have lf1_2 := blk_frozen BK_g.out 2
  have lc1_3 : w1.cell? ⟨g, 3, none⟩ = some (.int .i64 t) := (blk_cell BK_g.out 3).trans rfl
  have lf1_3 := blk_frozen BK_g.out 3
  have lc1_4 : w1.cell? ⟨g, 4, none⟩ = some (.int .i64 tk) := (blk_cell BK_g.out 4).trans rfl
  have lf1_4 := blk_frozen BK_g.out 4
  have lc1_5 : w1.cell? ⟨g, 5, none⟩ = some (.slice A 0 c) := (blk_cell BK_g.out 5).trans rfl
  have lf1_5 := blk_frozen BK_g.out 5
  have lc1_6 : w1.cell? ⟨g, 6, none⟩ = some (.pointer (some ⟨go, 0, none⟩)) := (blk_cell BK_g.out 6).trans rfl
  have lf1_6 := blk_frozen BK_g.out 6
  have lc1_7 : w1.cell? ⟨g, 7, none⟩ = some (.int .i64 times) := (blk_cell BK_g.out 7).trans rfl
  have lf1_7 := blk_frozen BK_g.out 7
  have lc1_8 : w1.cell? ⟨g, 8, none⟩ = some (.int .i64 last) := (blk_cell BK_g.out 8).trans rfl
  have lf1_8 := blk_frozen BK_g.out 8
  have lc1_9 : w1.cell? ⟨g, 9, none⟩ = some (.map (some m)) := (blk_cell BK_g.out 9).trans rfl
  have lf1_9 := blk_frozen BK_g.out 9
  have lc2_0 : w1.cell? ⟨go, 0, none⟩ = some (.int .i64 (ot)) := (blk_cell BK_go.out 0).trans rfl
  have lf2_0 := blk_frozen BK_go.out 0
  have lc2_1 : w1.cell? ⟨go, 1, none⟩ = some (.int .i64 (ou)) := (blk_cell BK_go.out 1).trans rfl
  have lf2_1 := blk_frozen BK_go.out 1
  have lc2_2 : w1.cell? ⟨go, 2, none⟩ = some (.int .i64 3) := (blk_cell BK_go.out 2).trans rfl
  have lf2_2 := blk_frozen BK_go.out 2
  have lc2_3 : w1.cell? ⟨go, 3, none⟩ = some (.int .i64 0) := (blk_cell BK_go.out 3).trans rfl
  have lf2_3 := blk_frozen BK_go.out 3
  have lc2_4 : w1.cell? ⟨go, 4, none⟩ = some (.int .i64 1) := (blk_cell BK_go.out 4).trans rfl
  have lf2_4 := blk_frozen BK_go.out 4
  have lc2_5 : w1.cell? ⟨go, 5, none⟩ = some (.slice none 0 0) := (blk_cell BK_go.out 5).trans rfl
  have lf2_5 := blk_frozen BK_go.out 5
  have lc2_6 : w1.cell? ⟨go, 6, none⟩ = some (.int .i64 0) := (blk_cell BK_go.out 6).trans rfl
  have lf2_6 := blk_frozen BK_go.out 6
  have lc2_7 : w1.cell? ⟨go, 7, none⟩ = some (.int .i64 0) := (blk_cell BK_go.out 7).trans rfl
  have lf2_7 := blk_frozen BK_go.out 7
  have lc2_8 : w1.cell? ⟨go, 8, none⟩ = some (.int .i64 0) := (blk_cell BK_go.out 8).trans rfl
  have lf2_8 := blk_frozen BK_go.out 8
  clear lc1_0 lf1_0 lc1_1 lf1_1 lc1_2 lf1_2 lc1_3 lf1_3 lc1_4 lf1_4 lc1_5 lf1_5 lc1_6 lf1_6 lc1_7 lf1_7 lc1_8 lf1_8 lc1_9 lf1_9 lc2_0 lf2_0 lc2_1 lf2_1 lc2_2 lf2_2 lc2_3 lf2_3 lc2_4 lf2_4 lc2_5 lf2_5 lc2_6 lf2_6 lc2_7 lf2_7 lc2_8 lf2_8
  refine start_ (n := 18) (S := fun W => W.cell? ⟨g, 6, none⟩ = some (.pointer (some ⟨go, 0, none⟩)) ∧ W.cell? ⟨g, 8, none⟩ = some (.int .i64 last) ∧ W.cell? ⟨g, 0, none⟩ = some (.int .i64 wait)) (ds := []) #[false, false, false, false, false, false, false, false, false, false, false, false, false, false, false, false, false, false] (by kernel_rfl) rfl rfl ?_ (fun hHeld => ?_)
  · exact ⟨(blk_cell (by (with_reducible repeat (first | refine blk_drewN ?_ _ | refine blk_drew ?_ | refine blk_alloc ?_ _)); exact BK_g.out) 6).trans rfl, (blk_cell (by (with_reducible repeat (first | refine blk_drewN ?_ _ | refine blk_drew ?_ | refine blk_alloc ?_ _)); exact BK_g.out) 8).trans rfl, (blk_cell (by (with_reducible repeat (first | refine blk_drewN ?_ _ | refine blk_drew ?_ | refine blk_alloc ?_ _)); exact BK_g.out) 0).trans rfl⟩
  refine pure_ (i := 0) (N := some 17) (v := ?_) (a' := ?_) #[true, false, false, false, false, false, false, false, false, false, false, false, false, false, false, false, false, false] rfl rfl (by kernel_rfl) (fun _ _ _ h => h) (Or.inl ⟨by rfl, ?_⟩) ?_ ?_
  rotate_left
  · intro w'
    go_simp
    with_reducible rfl
  rotate_left
  · simp only [Act.put, List.setIfInBounds_toArray, List.set_cons_zero, List.set_cons_succ, i64_w, i32_w]
    rfl
  refine pure_ (i := 1) (N := some 18) (v := ?_) (a' := ?_) #[true, true, false, false, false, false, false, false, false, false, false, false, false, false, false, false, false, false] rfl rfl (by kernel_rfl) (fun _ _ _ h => h) (Or.inl ⟨by rfl, ?_⟩) ?_ ?_
  rotate_left
  · intro w'
    go_simp
    with_reducible rfl
  rotate_left
  · simp only [Act.put, List.setIfInBounds_toArray, List.set_cons_zero, List.set_cons_succ, i64_w, i32_w]
    rfl
  refine pure_ (i := 2) (N := some 19) (v := ?_) (a' := ?_) #[true, true, true, false, false, false, false, false, false, false, false, false, false, false, false, false, false, false] rfl rfl (by kernel_rfl) (fun _ _ _ h => h) (Or.inl ⟨by rfl, ?_⟩) ?_ ?_
  rotate_left
  · intro w'
    go_simp
    with_reducible rfl
  rotate_left
  · simp only [Act.put, List.setIfInBounds_toArray, List.set_cons_zero, List.set_cons_succ, i64_w, i32_w]
    rfl
  refine take_ (i := 3) (N := some 20) (v := ?_) (a' := ?_) #[true, true, true, true, false, false, false, false, false, false, false, false, false, false, false, false, false, false] rfl rfl (by kernel_rfl) (fun _ _ _ h => h) (Or.inl ⟨by rfl, ?_⟩) hHeld ?_ ?_
  rotate_left
  · rintro w' ⟨s0, s1, s2⟩
    go_simp
    with_reducible rfl
  rotate_left
  · simp only [Act.put, List.setIfInBounds_toArray, List.set_cons_zero, List.set_cons_succ, i64_w, i32_w]
    rfl
  refine pure_ (i := 4) (N := some 21) (v := ?_) (a' := ?_) #[true, true, true, true, true, false, false, false, false, false, false, false, false, false, false, false, false, false] rfl rfl (by kernel_rfl) (fun _ _ _ h => h) (Or.inl ⟨by rfl, ?_⟩) ?_ ?_
  rotate_left
  · intro w'
    go_simp
    with_reducible rfl
  rotate_left
  · simp only [Act.put, List.setIfInBounds_toArray, List.set_cons_zero, List.set_cons_succ, i64_w, i32_w]
    rfl
  refine pure_ (i := 5) (N := some 22) (v := ?_) (a' := ?_) #[true, true, true, true, true, true, false, false, false, false, false, false, false, false, false, false, false, false] rfl rfl (by kernel_rfl) (fun _ _ _ h => h) (Or.inl ⟨by rfl, ?_⟩) ?_ ?_
  rotate_left
  · intro w'
    go_simp
    with_reducible rfl
  rotate_left
  · simp only [Act.put, List.setIfInBounds_toArray, List.set_cons_zero, List.set_cons_succ, i64_w, i32_w]
    rfl
  refine pure_ (i := 6) (N := some 23) (v := ?_) (a' := ?_) #[true, true, true, true, true, true, true, false, false, false, false, false, false, false, false, false, false, false] rfl rfl (by kernel_rfl) (fun _ _ _ h => h) (Or.inl ⟨by rfl, ?_⟩) ?_ ?_
  rotate_left
  · intro w'
    go_simp
    with_reducible rfl
  rotate_left
  · simp only [Act.put, List.setIfInBounds_toArray, List.set_cons_zero, List.set_cons_succ, i64_w, i32_w]
    rfl
  refine pure_ (i := 7) (N := some 24) (v := ?_) (a' := ?_) #[true, true, true, true, true, true, true, true, false, false, false, false, false, false, false, false, false, false] rfl rfl (by kernel_rfl) (fun _ _ _ h => h) (Or.inl ⟨by rfl, ?_⟩) ?_ ?_
  rotate_left
  · intro w'
    go_simp
    with_reducible rfl
  rotate_left
  · simp only [Act.put, List.setIfInBounds_toArray, List.set_cons_zero, List.set_cons_succ, i64_w, i32_w]
    rfl
  refine pure_ (i := 8) (N := some 25) (v := ?_) (a' := ?_) #[true, true, true, true, true, true, true, true, true, false, false, false, false, false, false, false, false, false] rfl rfl (by kernel_rfl) (fun _ _ _ h => h) (Or.inl ⟨by rfl, ?_⟩) ?_ ?_
  rotate_left
  · intro w'
    go_simp
    with_reducible rfl
  rotate_left
  · simp only [Act.put, List.setIfInBounds_toArray, List.set_cons_zero, List.set_cons_succ, i64_w, i32_w]
    rfl
  refine pure_ (i := 9) (N := some 26) (v := ?_) (a' := ?_) #[true, true, true, true, true, true, true, true, true, true, false, false, false, false, false, false, false, false] rfl rfl (by kernel_rfl) (fun _ _ _ h => h) (Or.inl ⟨by rfl, ?_⟩) ?_ ?_
  rotate_left
  · intro w'
    go_simp
    with_reducible rfl
  rotate_left
  · simp only [Act.put, List.setIfInBounds_toArray, List.set_cons_zero, List.set_cons_succ, i64_w, i32_w]
    rfl
  refine take_ (i := 10) (N := some 27) (v := ?_) (a' := ?_) #[true, true, true, true, true, true, true, true, true, true, true, false, false, false, false, false, false, false] rfl rfl (by kernel_rfl) (fun _ _ _ h => h) (Or.inl ⟨by rfl, ?_⟩) hHeld ?_ ?_
  rotate_left
  · rintro w' ⟨s0, s1, s2⟩
    go_simp
    with_reducible rfl
  rotate_left
  · simp only [Act.put, List.setIfInBounds_toArray, List.set_cons_zero, List.set_cons_succ, i64_w, i32_w]
    rfl
  refine pure_ (i := 11) (N := some 28) (v := ?_) (a' := ?_) #[true, true, true, true, true, true, true, true, true, true, true, true, false, false, false, false, false, false] rfl rfl (by kernel_rfl) (fun _ _ _ h => h) (Or.inl ⟨by rfl, ?_⟩) ?_ ?_
  rotate_left
  · intro w'
    go_simp
    with_reducible rfl
  rotate_left
  · simp only [Act.put, List.setIfInBounds_toArray, List.set_cons_zero, List.set_cons_succ, i64_w, i32_w]
    rfl
  refine pure_ (i := 12) (N := some 29) (v := ?_) (a' := ?_) #[true, true, true, true, true, true, true, true, true, true, true, true, true, false, false, false, false, false] rfl rfl (by kernel_rfl) (fun _ _ _ h => h) (Or.inl ⟨by rfl, ?_⟩) ?_ ?_
  rotate_left
  · intro w'
    go_simp
    with_reducible rfl
  rotate_left
  · simp only [Act.put, List.setIfInBounds_toArray, List.set_cons_zero, List.set_cons_succ, i64_w, i32_w]
    rfl
  refine pure_ (i := 13) (N := some 30) (v := ?_) (a' := ?_) #[true, true, true, true, true, true, true, true, true, true, true, true, true, true, false, false, false, false] rfl rfl (by kernel_rfl) (fun _ _ _ h => h) (Or.inl ⟨by rfl, ?_⟩) ?_ ?_
  rotate_left
  · intro w'
    go_simp
    with_reducible rfl
  rotate_left
  · simp only [Act.put, List.setIfInBounds_toArray, List.set_cons_zero, List.set_cons_succ, i64_w, i32_w]
    rfl
  refine pure_ (i := 14) (N := some 31) (v := ?_) (a' := ?_) #[true, true, true, true, true, true, true, true, true, true, true, true, true, true, true, false, false, false] rfl rfl (by kernel_rfl) (fun _ _ _ h => h) (Or.inl ⟨by rfl, ?_⟩) ?_ ?_
  rotate_left
  · intro w'
    go_simp
    with_reducible rfl
  rotate_left
  · simp only [Act.put, List.setIfInBounds_toArray, List.set_cons_zero, List.set_cons_succ, i64_w, i32_w]
    rfl
  refine take_ (i := 15) (N := some 32) (v := ?_) (a' := ?_) #[true, true, true, true, true, true, true, true, true, true, true, true, true, true, true, true, false, false] rfl rfl (by kernel_rfl) (fun _ _ _ h => h) (Or.inl ⟨by rfl, ?_⟩) hHeld ?_ ?_
  rotate_left
  · rintro w' ⟨s0, s1, s2⟩
    go_simp
    with_reducible rfl
  rotate_left
  · simp only [Act.put, List.setIfInBounds_toArray, List.set_cons_zero, List.set_cons_succ, i64_w, i32_w]
    rfl
  refine pure_ (i := 16) (N := some 33) (v := ?_) (a' := ?_) #[true, true, true, true, true, true, true, true, true, true, true, true, true, true, true, true, true, false] rfl rfl (by kernel_rfl) (fun _ _ _ h => h) (Or.inl ⟨by rfl, ?_⟩) ?_ ?_
  rotate_left
  · intro w'
    go_simp
    with_reducible rfl
  rotate_left
  · simp only [Act.put, List.setIfInBounds_toArray, List.set_cons_zero, List.set_cons_succ, i64_w, i32_w]
    rfl
  refine pure_ (i := 17) (N := some 34) (v := ?_) (a' := ?_) #[true, true, true, true, true, true, true, true, true, true, true, true, true, true, true, true, true, true] rfl rfl (by kernel_rfl) (fun _ _ _ h => h) (Or.inl ⟨by rfl, ?_⟩) ?_ ?_
  rotate_left
  · intro w'
    go_simp
    with_reducible rfl
  rotate_left
  · simp only [Act.put, List.setIfInBounds_toArray, List.set_cons_zero, List.set_cons_succ, i64_w, i32_w]
    rfl
  refine done_ (by kernel_rfl) ?_
  generalize hwd : World.drew w1 = w2
  have HBc : Below w1.heap.size w1 w2 := (by rw [← hwd]; exact below_drew (Below.refl _ _))
  clear hwd
  have OBn_l : Aside0 (OwnE ks (fun _ => False) 39 B w2 (Value.slice A 0 c) ([])) := ⟨ks_mv OB_l.out (Ext.none_ HBc) (fun _ _ e => e)⟩
  clear OB_l
  have OB_l := OBn_l
  clear OBn_l
  have BKn_g : Aside0 (w2.heap[g]? = some (.cells #[.int .i64 wait, .int .i64 again, .int .i64 pause, .int .i64 t, .int .i64 tk, .slice A 0 c, .pointer (some ⟨go, 0, none⟩), .int .i64 times, .int .i64 last, .map (some m)] 73 (0, 0))) := ⟨Ext.blk (Ext.none_ HBc) BK_g.out (fun e => e)⟩
  have BKn_go : Aside0 (w2.heap[go]? = some (.cells #[.int .i64 (ot), .int .i64 (ou), .int .i64 3, .int .i64 0, .int .i64 1, .slice none 0 0, .int .i64 0, .int .i64 0, .int .i64 0] 39 (0, 0))) := ⟨Ext.blk (Ext.none_ HBc) BK_go.out (fun e => e)⟩
  have MPn_m : Aside0 (IsMap w2 m (f) (n)) := ⟨IsMap.ext MP_m.out (Ext.none_ HBc) (fun e => e)⟩
  have XTn : Aside0 (Ext (fun k => B ≤ k) w1 w2) := ⟨XT.out.stepB HBc⟩
  clear BK_g BK_go MP_m XT
  have BK_g := BKn_g
  have BK_go := BKn_go
  have MP_m := MPn_m
  have XT := XTn
  clear BKn_g BKn_go MPn_m XTn
  clear HBc
  have lc3_0 : w2.cell? ⟨g, 0, none⟩ = some (.int .i64 wait) := (blk_cell BK_g.out 0).trans rfl
  have lf3_0 := blk_frozen BK_g.out 0
  have lc3_1 : w2.cell? ⟨g, 1, none⟩ = some (.int .i64 again) := (blk_cell BK_g.out 1).trans rfl
  have lf3_1 := blk_frozen BK_g.out 1
  have lc3_2 : w2.cell? ⟨g, 2, none⟩ = some (.int .i64 pause) := (blk_cell BK_g.out 2).trans rfl
  have lf3_2 := blk_frozen BK_g.out 2
  have lc3_3 : w2.cell? ⟨g, 3, none⟩ = some (.int .i64 t) := (blk_cell BK_g.out 3).trans rfl
  have lf3_3 := blk_frozen BK_g.out 3
  have lc3_4 : w2.cell? ⟨g, 4, none⟩ = some (.int .i64 tk) := (blk_cell BK_g.out 4).trans rfl
  have lf3_4 := blk_frozen BK_g.out 4
  have lc3_5 : w2.cell? ⟨g, 5, none⟩ = some (.slice A 0 c) := (blk_cell BK_g.out 5).trans rfl
  have lf3_5 := blk_frozen BK_g.out 5
  have lc3_6 : w2.cell? ⟨g, 6, none⟩ = some (.pointer (some ⟨go, 0, none⟩)) := (blk_cell BK_g.out 6).trans rfl
  have lf3_6 := blk_frozen BK_g.out 6
  have lc3_7 : w2.cell? ⟨g, 7, none⟩ = some (.int .i64 times) := (blk_cell BK_g.out 7).trans rfl
  have lf3_7 := blk_frozen BK_g.out 7
  have lc3_8 : w2.cell? ⟨g, 8, none⟩ = some (.int .i64 last) := (blk_cell BK_g.out 8).trans rfl
  have lf3_8 := blk_frozen BK_g.out 8
  have lc3_9 : w2.cell? ⟨g, 9, none⟩ = some (.map (some m)) := (blk_cell BK_g.out 9).trans rfl
  have lf3_9 := blk_frozen BK_g.out 9
  have lc4_0 : w2.cell? ⟨go, 0, none⟩ = some (.int .i64 (ot)) := (blk_cell BK_go.out 0).trans rfl
  have lf4_0 := blk_frozen BK_go.out 0
  have lc4_1 : w2.cell? ⟨go, 1, none⟩ = some (.int .i64 (ou)) := (blk_cell BK_go.out 1).trans rfl
  have lf4_1 := blk_frozen BK_go.out 1
  have lc4_2 : w2.cell? ⟨go, 2, none⟩ = some (.int .i64 3) := (blk_cell BK_go.out 2).trans rfl
  have lf4_2 := blk_frozen BK_go.out 2
  have lc4_3 : w2.cell? ⟨go, 3, none⟩ = some (.int .i64 0) := (blk_cell BK_go.out 3).trans rfl
  have lf4_3 := blk_frozen BK_go.out 3
  have lc4_4 : w2.cell? ⟨go, 4, none⟩ = some (.int .i64 1) := (blk_cell BK_go.out 4).trans rfl
  have lf4_4 := blk_frozen BK_go.out 4
  have lc4_5 : w2.cell? ⟨go, 5, none⟩ = some (.slice none 0 0) := (blk_cell BK_go.out 5).trans rfl
  have lf4_5 := blk_frozen BK_go.out 5
  have lc4_6 : w2.cell? ⟨go, 6, none⟩ = some (.int .i64 0) := (blk_cell BK_go.out 6).trans rfl
  have lf4_6 := blk_frozen BK_go.out 6
  have lc4_7 : w2.cell? ⟨go, 7, none⟩ = some (.int .i64 0) := (blk_cell BK_go.out 7).trans rfl
  have lf4_7 := blk_frozen BK_go.out 7
  have lc4_8 : w2.cell? ⟨go, 8, none⟩ = some (.int .i64 0) := (blk_cell BK_go.out 8).trans rfl
  have lf4_8 := blk_frozen BK_go.out 8
  go_upto_region 6 with (fail)
  clear lc3_0 lf3_0 lc3_1 lf3_1 lc3_2 lf3_2 lc3_3 lf3_3 lc3_4 lf3_4 lc3_5 lf3_5 lc3_6 lf3_6 lc3_7 lf3_7 lc3_8 lf3_8 lc3_9 lf3_9 lc4_0 lf4_0 lc4_1 lf4_1 lc4_2 lf4_2 lc4_3 lf4_3 lc4_4 lf4_4 lc4_5 lf4_5 lc4_6 lf4_6 lc4_7 lf4_7 lc4_8 lf4_8
  refine start_ (n := 9) (S := fun W => W.cell? ⟨g, 7, none⟩ = some (.int .i64 times) ∧ W.cell? ⟨g, 1, none⟩ = some (.int .i64 again)) (ds := []) #[false, false, false, false, false, false, false, false, false] (by kernel_rfl) rfl rfl ?_ (fun hHeld => ?_)
  · exact ⟨(blk_cell (by (with_reducible repeat (first | refine blk_drewN ?_ _ | refine blk_drew ?_ | refine blk_alloc ?_ _)); exact BK_g.out) 7).trans rfl, (blk_cell (by (with_reducible repeat (first | refine blk_drewN ?_ _ | refine blk_drew ?_ | refine blk_alloc ?_ _)); exact BK_g.out) 1).trans rfl⟩
  refine pure_ (i := 0) (N := some 35) (v := ?_) (a' := ?_) #[true, false, false, false, false, false, false, false, false] rfl rfl (by kernel_rfl) (fun _ _ _ h => h) (Or.inl ⟨by rfl, ?_⟩) ?_ ?_
  rotate_left
  · intro w'
    go_simp
    with_reducible rfl
  rotate_left
  · simp only [Act.put, List.setIfInBounds_toArray, List.set_cons_zero, List.set_cons_succ, i64_w, i32_w]
    rfl
  refine pure_ (i := 1) (N := some 36) (v := ?_) (a' := ?_) #[true, true, false, false, false, false, false, false, false] rfl rfl (by kernel_rfl) (fun _ _ _ h => h) (Or.inl ⟨by rfl, ?_⟩) ?_ ?_
  rotate_left
  · intro w'
    go_simp
    with_reducible rfl
  rotate_left
  · simp only [Act.put, List.setIfInBounds_toArray, List.set_cons_zero, List.set_cons_succ, i64_w, i32_w]
    rfl
  refine pure_ (i := 2) (N := some 37) (v := ?_) (a' := ?_) #[true, true, true, false, false, false, false, false, false] rfl rfl (by kernel_rfl) (fun _ _ _ h => h) (Or.inl ⟨by rfl, ?_⟩) ?_ ?_
  rotate_left
  · intro w'
    go_simp
    with_reducible rfl
  rotate_left
  · simp only [Act.put, List.setIfInBounds_toArray, List.set_cons_zero, List.set_cons_succ, i64_w, i32_w]
    rfl
  refine take_ (i := 3) (N := some 38) (v := ?_) (a' := ?_) #[true, true, true, true, false, false, false, false, false] rfl rfl (by kernel_rfl) (fun _ _ _ h => h) (Or.inl ⟨by rfl, ?_⟩) hHeld ?_ ?_
  rotate_left
  · rintro w' ⟨s0, s1⟩
    go_simp
    with_reducible rfl
  rotate_left
  · simp only [Act.put, List.setIfInBounds_toArray, List.set_cons_zero, List.set_cons_succ, i64_w, i32_w]
    rfl
  refine pure_ (i := 4) (N := some 39) (v := ?_) (a' := ?_) #[true, true, true, true, true, false, false, false, false] rfl rfl (by kernel_rfl) (fun _ _ _ h => h) (Or.inl ⟨by rfl, ?_⟩) ?_ ?_
  rotate_left
  · intro w'
    go_simp
    with_reducible rfl
  rotate_left
  · simp only [Act.put, List.setIfInBounds_toArray, List.set_cons_zero, List.set_cons_succ, i64_w, i32_w]
    rfl
  refine pure_ (i := 5) (N := some 40) (v := ?_) (a' := ?_) #[true, true, true, true, true, true, false, false, false] rfl rfl (by kernel_rfl) (fun _ _ _ h => h) (Or.inl ⟨by rfl, ?_⟩) ?_ ?_
  rotate_left
  · intro w'
    go_simp
    with_reducible rfl
  rotate_left
  · simp only [Act.put, List.setIfInBounds_toArray, List.set_cons_zero, List.set_cons_succ, i64_w, i32_w]
    rfl
  refine pure_ (i := 6) (N := some 41) (v := ?_) (a' := ?_) #[true, true, true, true, true, true, true, false, false] rfl rfl (by kernel_rfl) (fun _ _ _ h => h) (Or.inl ⟨by rfl, ?_⟩) ?_ ?_
  rotate_left
  · intro w'
    go_simp
    with_reducible rfl
  rotate_left
  · simp only [Act.put, List.setIfInBounds_toArray, List.set_cons_zero, List.set_cons_succ, i64_w, i32_w]
    rfl
  refine take_ (i := 7) (N := some 42) (v := ?_) (a' := ?_) #[true, true, true, true, true, true, true, true, false] rfl rfl (by kernel_rfl) (fun _ _ _ h => h) (Or.inl ⟨by rfl, ?_⟩) hHeld ?_ ?_
  rotate_left
  · rintro w' ⟨s0, s1⟩
    go_simp
    with_reducible rfl
  rotate_left
  · simp only [Act.put, List.setIfInBounds_toArray, List.set_cons_zero, List.set_cons_succ, i64_w, i32_w]
    rfl
  refine pure_ (i := 8) (N := some 43) (v := ?_) (a' := ?_) #[true, true, true, true, true, true, true, true, true] rfl rfl (by kernel_rfl) (fun _ _ _ h => h) (Or.inl ⟨by rfl, ?_⟩) ?_ ?_
  rotate_left
  · intro w'
    go_simp
    with_reducible rfl
  rotate_left
  · simp only [Act.put, List.setIfInBounds_toArray, List.set_cons_zero, List.set_cons_succ, i64_w, i32_w]
    rfl
  refine done_ (by kernel_rfl) ?_
  generalize hwd : World.drew w2 = w3
  have HBc : Below w2.heap.size w2 w3 := (by rw [← hwd]; exact below_drew (Below.refl _ _))
  clear hwd
  have OBn_l : Aside0 (OwnE ks (fun _ => False) 39 B w3 (Value.slice A 0 c) ([])) := ⟨ks_mv OB_l.out (Ext.none_ HBc) (fun _ _ e => e)⟩
  clear OB_l
  have OB_l := OBn_l
  clear OBn_l
  have BKn_g : Aside0 (w3.heap[g]? = some (.cells #[.int .i64 wait, .int .i64 again, .int .i64 pause, .int .i64 t, .int .i64 tk, .slice A 0 c, .pointer (some ⟨go, 0, none⟩), .int .i64 times, .int .i64 last, .map (some m)] 73 (0, 0))) := ⟨Ext.blk (Ext.none_ HBc) BK_g.out (fun e => e)⟩
  have BKn_go : Aside0 (w3.heap[go]? = some (.cells #[.int .i64 (ot), .int .i64 (ou), .int .i64 3, .int .i64 0, .int .i64 1, .slice none 0 0, .int .i64 0, .int .i64 0, .int .i64 0] 39 (0, 0))) := ⟨Ext.blk (Ext.none_ HBc) BK_go.out (fun e => e)⟩
  have MPn_m : Aside0 (IsMap w3 m (f) (n)) := ⟨IsMap.ext MP_m.out (Ext.none_ HBc) (fun e => e)⟩
  have XTn : Aside0 (Ext (fun k => B ≤ k) w1 w3) := ⟨XT.out.stepB HBc⟩
  clear BK_g BK_go MP_m XT
  have BK_g := BKn_g
  have BK_go := BKn_go
  have MP_m := MPn_m
  have XT := XTn
  clear BKn_g BKn_go MPn_m XTn
  clear HBc
  have lc5_0 : w3.cell? ⟨g, 0, none⟩ = some (.int .i64 wait) := (blk_cell BK_g.out 0).trans rfl
  have lf5_0 := blk_frozen BK_g.out 0
  have lc5_1 : w3.cell? ⟨g, 1, none⟩ = some (.int .i64 again) := (blk_cell BK_g.out 1).trans rfl
  have lf5_1 := blk_frozen BK_g.out 1
  have lc5_2 : w3.cell? ⟨g, 2, none⟩ = some (.int .i64 pause) := (blk_cell BK_g.out 2).trans rfl
  have lf5_2 := blk_frozen BK_g.out 2
  have lc5_3 : w3.cell? ⟨g, 3, none⟩ = some (.int .i64 t) := (blk_cell BK_g.out 3).trans rfl
  have lf5_3 := blk_frozen BK_g.out 3
  have lc5_4 : w3.cell? ⟨g, 4, none⟩ = some (.int .i64 tk) := (blk_cell BK_g.out 4).trans rfl
  have lf5_4 := blk_frozen BK_g.out 4
  have lc5_5 : w3.cell? ⟨g, 5, none⟩ = some (.slice A 0 c) := (blk_cell BK_g.out 5).trans rfl
  have lf5_5 := blk_frozen BK_g.out 5
  have lc5_6 : w3.cell? ⟨g, 6, none⟩ = some (.pointer (some ⟨go, 0, none⟩)) := (blk_cell BK_g.out 6).trans rfl
  have lf5_6 := blk_frozen BK_g.out 6
  have lc5_7 : w3.cell? ⟨g, 7, none⟩ = some (.int .i64 times) := (blk_cell BK_g.out 7).trans rfl
  have lf5_7 := blk_frozen BK_g.out 7
  have lc5_8 : w3.cell? ⟨g, 8, none⟩ = some (.int .i64 last) := (blk_cell BK_g.out 8).trans rfl
  have lf5_8 := blk_frozen BK_g.out 8
  have lc5_9 : w3.cell? ⟨g, 9, none⟩ = some (.map (some m)) := (blk_cell BK_g.out 9).trans rfl
  have lf5_9 := blk_frozen BK_g.out 9
  have lc6_0 : w3.cell? ⟨go, 0, none⟩ = some (.int .i64 (ot)) := (blk_cell BK_go.out 0).trans rfl
  have lf6_0 := blk_frozen BK_go.out 0
  have lc6_1 : w3.cell? ⟨go, 1, none⟩ = some (.int .i64 (ou)) := (blk_cell BK_go.out 1).trans rfl
  have lf6_1 := blk_frozen BK_go.out 1
  have lc6_2 : w3.cell? ⟨go, 2, none⟩ = some (.int .i64 3) := (blk_cell BK_go.out 2).trans rfl
  have lf6_2 := blk_frozen BK_go.out 2
  have lc6_3 : w3.cell? ⟨go, 3, none⟩ = some (.int .i64 0) := (blk_cell BK_go.out 3).trans rfl
  have lf6_3 := blk_frozen BK_go.out 3
  have lc6_4 : w3.cell? ⟨go, 4, none⟩ = some (.int .i64 1) := (blk_cell BK_go.out 4).trans rfl
  have lf6_4 := blk_frozen BK_go.out 4
  have lc6_5 : w3.cell? ⟨go, 5, none⟩ = some (.slice none 0 0) := (blk_cell BK_go.out 5).trans rfl
  have lf6_5 := blk_frozen BK_go.out 5
  have lc6_6 : w3.cell? ⟨go, 6, none⟩ = some (.int .i64 0) := (blk_cell BK_go.out 6).trans rfl
  have lf6_6 := blk_frozen BK_go.out 6
  have lc6_7 : w3.cell? ⟨go, 7, none⟩ = some (.int .i64 0) := (blk_cell BK_go.out 7).trans rfl
  have lf6_7 := blk_frozen BK_go.out 7
  have lc6_8 : w3.cell? ⟨go, 8, none⟩ = some (.int .i64 0) := (blk_cell BK_go.out 8).trans rfl
  have lf6_8 := blk_frozen BK_go.out 8
  go_upto_region 9 with (((with_reducible refine gate_builtin (b := .append) (xs := #[.tmp 47, .tmp 56]) rfl ?_); refine ev_append kd (M := fun _ => False) (w0 := w3) B rfl (.tmp 47) (.tmp 56) 35 48 (.agg #[.int .i64 0, .slice none 0 0, .int .i64 0, .bool false]) 48 rfl Try.underlying35 info48 rfl (by decide) (by decide) (.slice none 0 0) [] ot [.int .i64 (ot), .slice none 0 0, .int .i64 0, .bool true] rfl rfl (OwnE.nil _ _ _ _ _) (Ever.triv (p := _ = dc _) rfl) (Below.refl _ _) (Nat.le_trans HBW.out XT.out.size) (by simp) ?_; intro v9 w4 HO9 HB9 hg9 hat9; have HBc : Below w3.heap.size w3 w4 := ⟨hg9.os, hg9.tape, hg9.output, hg9.size, fun i hi => hg9.block i hi (by simp [Value.ownBlock])⟩; have OBn_l : Aside0 (OwnE ks (fun _ => False) 39 B w4 (Value.slice A 0 c) ([])) := ⟨ks_mv OB_l.out (Ext.none_ HBc) (fun _ _ e => e)⟩; clear OB_l; have OB_l := OBn_l; clear OBn_l; clear lc5_0 lf5_0 lc5_1 lf5_1 lc5_2 lf5_2 lc5_3 lf5_3 lc5_4 lf5_4 lc5_5 lf5_5 lc5_6 lf5_6 lc5_7 lf5_7 lc5_8 lf5_8 lc5_9 lf5_9 lc6_0 lf6_0 lc6_1 lf6_1 lc6_2 lf6_2 lc6_3 lf6_3 lc6_4 lf6_4 lc6_5 lf6_5 lc6_6 lf6_6 lc6_7 lf6_7 lc6_8 lf6_8; have BKn_g : Aside0 (w4.heap[g]? = some (.cells #[.int .i64 wait, .int .i64 again, .int .i64 pause, .int .i64 t, .int .i64 tk, .slice A 0 c, .pointer (some ⟨go, 0, none⟩), .int .i64 times, .int .i64 last, .map (some m)] 73 (0, 0))) := ⟨Ext.blk (Ext.none_ HBc) BK_g.out (fun e => e)⟩; have BKn_go : Aside0 (w4.heap[go]? = some (.cells #[.int .i64 (ot), .int .i64 (ou), .int .i64 3, .int .i64 0, .int .i64 1, .slice none 0 0, .int .i64 0, .int .i64 0, .int .i64 0] 39 (0, 0))) := ⟨Ext.blk (Ext.none_ HBc) BK_go.out (fun e => e)⟩; have MPn_m : Aside0 (IsMap w4 m (f) (n)) := ⟨IsMap.ext MP_m.out (Ext.none_ HBc) (fun e => e)⟩; have XTn : Aside0 (Ext (fun k => B ≤ k) w1 w4) := ⟨XT.out.stepB HBc⟩; clear BK_g BK_go MP_m XT; have BK_g := BKn_g; have BK_go := BKn_go; have MP_m := MPn_m; have XT := XTn; clear BKn_g BKn_go MPn_m XTn; have OB_d : Aside0 (OwnE kd (fun _ => False) 48 B w4 v9 ([ot])) := ⟨HO9⟩; have NE_d_g : Aside0 (∀ k, (v9).ownBlock = some k → k ≠ g) := ⟨kd_ne HO9 BK_g.out (by decide)⟩; have NE_d_m : Aside0 (∀ k, (v9).ownBlock = some k → k ≠ m) := ⟨kd_nm HO9 MP_m.out⟩; clear HO9 HB9 hg9 hat9 HBc))
  refine start_ (n := 18) (S := fun W => W.cell? ⟨g, 9, none⟩ = some (.map (some m)) ∧ W.cell? ⟨g, 6, none⟩ = some (.pointer (some ⟨go, 0, none⟩)) ∧ W.cell? ⟨g, 2, none⟩ = some (.int .i64 pause) ∧ W.cell? ⟨go, 1, none⟩ = some (.int .i64 (ou))) (ds := [17]) #[false, false, false, false, false, false, false, false, false, false, false, false, false, false, false, false, false, false] (by kernel_rfl) rfl rfl ?_ (fun hHeld => ?_)
  · exact ⟨(blk_cell (by (with_reducible repeat (first | refine blk_drewN ?_ _ | refine blk_drew ?_ | refine blk_alloc ?_ _)); exact BK_g.out) 9).trans rfl, (blk_cell (by (with_reducible repeat (first | refine blk_drewN ?_ _ | refine blk_drew ?_ | refine blk_alloc ?_ _)); exact BK_g.out) 6).trans rfl, (blk_cell (by (with_reducible repeat (first | refine blk_drewN ?_ _ | refine blk_drew ?_ | refine blk_alloc ?_ _)); exact BK_g.out) 2).trans rfl, (blk_cell (by (with_reducible repeat (first | refine blk_drewN ?_ _ | refine blk_drew ?_ | refine blk_alloc ?_ _)); exact BK_go.out) 1).trans rfl⟩
  refine pure_ (i := 0) (N := some 58) (v := ?_) (a' := ?_) #[true, false, false, false, false, false, false, false, false, false, false, false, false, false, false, false, false, false] rfl rfl (by kernel_rfl) (fun _ _ _ h => h) (Or.inl ⟨by rfl, ?_⟩) ?_ ?_
  rotate_left
  · intro w'
    go_simp
    with_reducible rfl
  rotate_left
  · simp only [Act.put, List.setIfInBounds_toArray, List.set_cons_zero, List.set_cons_succ, i64_w, i32_w]
    rfl
  refine pure_ (i := 1) (N := some 59) (v := ?_) (a' := ?_) #[true, true, false, false, false, false, false, false, false, false, false, false, false, false, false, false, false, false] rfl rfl (by kernel_rfl) (fun _ _ _ h => h) (Or.inl ⟨by rfl, ?_⟩) ?_ ?_
  rotate_left
  · intro w'
    go_simp
    with_reducible rfl
  rotate_left
  · simp only [Act.put, List.setIfInBounds_toArray, List.set_cons_zero, List.set_cons_succ, i64_w, i32_w]
    rfl
  refine pure_ (i := 2) (N := some 60) (v := ?_) (a' := ?_) #[true, true, true, false, false, false, false, false, false, false, false, false, false, false, false, false, false, false] rfl rfl (by kernel_rfl) (fun _ _ _ h => h) (Or.inl ⟨by rfl, ?_⟩) ?_ ?_
  rotate_left
  · intro w'
    go_simp
    with_reducible rfl
  rotate_left
  · simp only [Act.put, List.setIfInBounds_toArray, List.set_cons_zero, List.set_cons_succ, i64_w, i32_w]
    rfl
  refine take_ (i := 3) (N := some 61) (v := ?_) (a' := ?_) #[true, true, true, true, false, false, false, false, false, false, false, false, false, false, false, false, false, false] rfl rfl (by kernel_rfl) (fun _ _ _ h => h) (Or.inl ⟨by rfl, ?_⟩) hHeld ?_ ?_
  rotate_left
  · rintro w' ⟨s0, s1, s2, s3⟩
    go_simp
    with_reducible rfl
  rotate_left
  · simp only [Act.put, List.setIfInBounds_toArray, List.set_cons_zero, List.set_cons_succ, i64_w, i32_w]
    rfl
  refine pure_ (i := 4) (N := some 62) (v := ?_) (a' := ?_) #[true, true, true, true, true, false, false, false, false, false, false, false, false, false, false, false, false, false] rfl rfl (by kernel_rfl) (fun _ _ _ h => h) (Or.inl ⟨by rfl, ?_⟩) ?_ ?_
  rotate_left
  · intro w'
    go_simp
    with_reducible rfl
  rotate_left
  · simp only [Act.put, List.setIfInBounds_toArray, List.set_cons_zero, List.set_cons_succ, i64_w, i32_w]
    rfl
  refine pure_ (i := 5) (N := some 63) (v := ?_) (a' := ?_) #[true, true, true, true, true, true, false, false, false, false, false, false, false, false, false, false, false, false] rfl rfl (by kernel_rfl) (fun _ _ _ h => h) (Or.inl ⟨by rfl, ?_⟩) ?_ ?_
  rotate_left
  · intro w'
    go_simp
    with_reducible rfl
  rotate_left
  · simp only [Act.put, List.setIfInBounds_toArray, List.set_cons_zero, List.set_cons_succ, i64_w, i32_w]
    rfl
  refine pure_ (i := 6) (N := some 64) (v := ?_) (a' := ?_) #[true, true, true, true, true, true, true, false, false, false, false, false, false, false, false, false, false, false] rfl rfl (by kernel_rfl) (fun _ _ _ h => h) (Or.inl ⟨by rfl, ?_⟩) ?_ ?_
  rotate_left
  · intro w'
    go_simp
    with_reducible rfl
  rotate_left
  · simp only [Act.put, List.setIfInBounds_toArray, List.set_cons_zero, List.set_cons_succ, i64_w, i32_w]
    rfl
  refine take_ (i := 7) (N := some 65) (v := ?_) (a' := ?_) #[true, true, true, true, true, true, true, true, false, false, false, false, false, false, false, false, false, false] rfl rfl (by kernel_rfl) (fun _ _ _ h => h) (Or.inl ⟨by rfl, ?_⟩) hHeld ?_ ?_
  rotate_left
  · rintro w' ⟨s0, s1, s2, s3⟩
    go_simp
    with_reducible rfl
  rotate_left
  · simp only [Act.put, List.setIfInBounds_toArray, List.set_cons_zero, List.set_cons_succ, i64_w, i32_w]
    rfl
  refine pure_ (i := 8) (N := some 66) (v := ?_) (a' := ?_) #[true, true, true, true, true, true, true, true, true, false, false, false, false, false, false, false, false, false] rfl rfl (by kernel_rfl) (fun _ _ _ h => h) (Or.inl ⟨by rfl, ?_⟩) ?_ ?_
  rotate_left
  · intro w'
    go_simp
    with_reducible rfl
  rotate_left
  · simp only [Act.put, List.setIfInBounds_toArray, List.set_cons_zero, List.set_cons_succ, i64_w, i32_w]
    rfl
  refine pure_ (i := 9) (N := some 67) (v := ?_) (a' := ?_) #[true, true, true, true, true, true, true, true, true, true, false, false, false, false, false, false, false, false] rfl rfl (by kernel_rfl) (fun _ _ _ h => h) (Or.inl ⟨by rfl, ?_⟩) ?_ ?_
  rotate_left
  · intro w'
    go_simp
    with_reducible rfl
  rotate_left
  · simp only [Act.put, List.setIfInBounds_toArray, List.set_cons_zero, List.set_cons_succ, i64_w, i32_w]
    rfl
  refine take_ (i := 10) (N := some 68) (v := ?_) (a' := ?_) #[true, true, true, true, true, true, true, true, true, true, true, false, false, false, false, false, false, false] rfl rfl (by kernel_rfl) (fun _ _ _ h => h) (Or.inl ⟨by rfl, ?_⟩) hHeld ?_ ?_
  rotate_left
  · rintro w' ⟨s0, s1, s2, s3⟩
    go_simp
    with_reducible rfl
  rotate_left
  · simp only [Act.put, List.setIfInBounds_toArray, List.set_cons_zero, List.set_cons_succ, i64_w, i32_w]
    rfl
  refine pure_ (i := 11) (N := some 69) (v := ?_) (a' := ?_) #[true, true, true, true, true, true, true, true, true, true, true, true, false, false, false, false, false, false] rfl rfl (by kernel_rfl) (fun _ _ _ h => h) (Or.inl ⟨by rfl, ?_⟩) ?_ ?_
  rotate_left
  · intro w'
    go_simp
    with_reducible rfl
  rotate_left
  · simp only [Act.put, List.setIfInBounds_toArray, List.set_cons_zero, List.set_cons_succ, i64_w, i32_w]
    rfl
  refine pure_ (i := 12) (N := some 70) (v := ?_) (a' := ?_) #[true, true, true, true, true, true, true, true, true, true, true, true, true, false, false, false, false, false] rfl rfl (by kernel_rfl) (fun _ _ _ h => h) (Or.inl ⟨by rfl, ?_⟩) ?_ ?_
  rotate_left
  · intro w'
    go_simp
    with_reducible rfl
  rotate_left
  · simp only [Act.put, List.setIfInBounds_toArray, List.set_cons_zero, List.set_cons_succ, i64_w, i32_w]
    rfl
  refine pure_ (i := 13) (N := some 71) (v := ?_) (a' := ?_) #[true, true, true, true, true, true, true, true, true, true, true, true, true, true, false, false, false, false] rfl rfl (by kernel_rfl) (fun _ _ _ h => h) (Or.inl ⟨by rfl, ?_⟩) ?_ ?_
  rotate_left
  · intro w'
    go_simp
    with_reducible rfl
  rotate_left
  · simp only [Act.put, List.setIfInBounds_toArray, List.set_cons_zero, List.set_cons_succ, i64_w, i32_w]
    rfl
  refine pure_ (i := 14) (N := some 72) (v := ?_) (a' := ?_) #[true, true, true, true, true, true, true, true, true, true, true, true, true, true, true, false, false, false] rfl rfl (by kernel_rfl) (fun _ _ _ h => h) (Or.inl ⟨by rfl, ?_⟩) ?_ ?_
  rotate_left
  · intro w'
    go_simp
    with_reducible rfl
  rotate_left
  · simp only [Act.put, List.setIfInBounds_toArray, List.set_cons_zero, List.set_cons_succ, i64_w, i32_w]
    rfl
  refine take_ (i := 15) (N := some 73) (v := ?_) (a' := ?_) #[true, true, true, true, true, true, true, true, true, true, true, true, true, true, true, true, false, false] rfl rfl (by kernel_rfl) (fun _ _ _ h => h) (Or.inl ⟨by rfl, ?_⟩) hHeld ?_ ?_
  rotate_left
  · rintro w' ⟨s0, s1, s2, s3⟩
    go_simp
    with_reducible rfl
  rotate_left
  · simp only [Act.put, List.setIfInBounds_toArray, List.set_cons_zero, List.set_cons_succ, i64_w, i32_w]
    rfl
  refine pure_ (i := 16) (N := some 74) (v := ?_) (a' := ?_) #[true, true, true, true, true, true, true, true, true, true, true, true, true, true, true, true, true, false] rfl rfl (by kernel_rfl) (fun _ _ _ h => h) (Or.inl ⟨by rfl, ?_⟩) ?_ ?_
  rotate_left
  · intro w'
    go_simp
    with_reducible rfl
  rotate_left
  · simp only [Act.put, List.setIfInBounds_toArray, List.set_cons_zero, List.set_cons_succ, i64_w, i32_w]
    rfl
  refine last_ (i := 17) (N := none) #[true, true, true, true, true, true, true, true, true, true, true, true, true, true, true, true, true, true] rfl rfl (by kernel_rfl) (by decide) (fun K hK => ?_)
  refine upd_step (k := ou) (v := .int .i64 (wrap64 (t + pause))) (by rfl) rfl rfl (MP_m.out.ext (Ext.none_ (by repeat (first | exact Below.refl _ _ | apply pw_below_drewN | apply below_drew1))) (fun e => e)) Try.underlying70 Try.underlying3 ?hx ?hy ?hz ?_
  case hx => rfl
  case hy => rfl
  case hz => rfl
  intro w5 hup HEc0
  have HEc : Ext (fun k => k = m) w4 w5 := (Ext.of_below (by repeat (first | exact Below.refl _ _ | apply pw_below_drewN | apply below_drew1))).trans HEc0
  clear HEc0
  have OBn_l : Aside0 (OwnE ks (fun _ => False) 39 B w5 (Value.slice A 0 c) ([])) := ⟨ks_mv OB_l.out HEc NE_l_m.out⟩
  have OBn_d : Aside0 (OwnE kd (fun _ => False) 48 B w5 v9 ([ot])) := ⟨kd_mv OB_d.out HEc NE_d_m.out⟩
  clear OB_l OB_d
  have OB_l := OBn_l
  have OB_d := OBn_d
  clear OBn_l OBn_d
  have BKn_g : Aside0 (w5.heap[g]? = some (.cells #[.int .i64 wait, .int .i64 again, .int .i64 pause, .int .i64 t, .int .i64 tk, .slice A 0 c, .pointer (some ⟨go, 0, none⟩), .int .i64 times, .int .i64 last, .map (some m)] 73 (0, 0))) := ⟨Ext.blk HEc BK_g.out NE_g_m.out⟩
  have BKn_go : Aside0 (w5.heap[go]? = some (.cells #[.int .i64 (ot), .int .i64 (ou), .int .i64 3, .int .i64 0, .int .i64 1, .slice none 0 0, .int .i64 0, .int .i64 0, .int .i64 0] 39 (0, 0))) := ⟨Ext.blk HEc BK_go.out NE_go_m.out⟩
  have XTn : Aside0 (Ext (fun k => B ≤ k) w1 w5) := ⟨XT.out.step HEc (F_m.out)⟩
  clear BK_g BK_go XT
  have BK_g := BKn_g
  have BK_go := BKn_go
  have XT := XTn
  clear BKn_g BKn_go XTn
  clear MP_m
  have MP_m : Aside0 (IsMap w5 m (fun j => if j = ou then some (.int .i64 (wrap64 (t + pause))) else f j) (n + 1)) := ⟨hup⟩
  have HFn := Aside0.mk (upd_hf HF.out ou (wrap64 (t + pause)))
  clear HF hup HEc
  have HF := HFn; clear HFn
  refine hK.out _ _ ?_
  clear hK K
  refine done_ (by kernel_rfl) ?_
  have lc7_0 : w5.cell? ⟨g, 0, none⟩ = some (.int .i64 wait) := (blk_cell BK_g.out 0).trans rfl
  have lf7_0 := blk_frozen BK_g.out 0
  have lc7_1 : w5.cell? ⟨g, 1, none⟩ = some (.int .i64 again) := (blk_cell BK_g.out 1).trans rfl
  have lf7_1 := blk_frozen BK_g.out 1
  have lc7_2 : w5.cell? ⟨g, 2, none⟩ = some (.int .i64 pause) := (blk_cell BK_g.out 2).trans rfl
  have lf7_2 := blk_frozen BK_g.out 2
  have lc7_3 : w5.cell? ⟨g, 3, none⟩ = some (.int .i64 t) := (blk_cell BK_g.out 3).trans rfl
  have lf7_3 := blk_frozen BK_g.out 3
  have lc7_4 : w5.cell? ⟨g, 4, none⟩ = some (.int .i64 tk) := (blk_cell BK_g.out 4).trans rfl
  have lf7_4 := blk_frozen BK_g.out 4
  have lc7_5 : w5.cell? ⟨g, 5, none⟩ = some (.slice A 0 c) := (blk_cell BK_g.out 5).trans rfl
  have lf7_5 := blk_frozen BK_g.out 5
  have lc7_6 : w5.cell? ⟨g, 6, none⟩ = some (.pointer (some ⟨go, 0, none⟩)) := (blk_cell BK_g.out 6).trans rfl
  have lf7_6 := blk_frozen BK_g.out 6
  have lc7_7 : w5.cell? ⟨g, 7, none⟩ = some (.int .i64 times) := (blk_cell BK_g.out 7).trans rfl
  have lf7_7 := blk_frozen BK_g.out 7
  have lc7_8 : w5.cell? ⟨g, 8, none⟩ = some (.int .i64 last) := (blk_cell BK_g.out 8).trans rfl
  have lf7_8 := blk_frozen BK_g.out 8
  have lc7_9 : w5.cell? ⟨g, 9, none⟩ = some (.map (some m)) := (blk_cell BK_g.out 9).trans rfl
  have lf7_9 := blk_frozen BK_g.out 9
  have lc8_0 : w5.cell? ⟨go, 0, none⟩ = some (.int .i64 (ot)) := (blk_cell BK_go.out 0).trans rfl
  have lf8_0 := blk_frozen BK_go.out 0
  have lc8_1 : w5.cell? ⟨go, 1, none⟩ = some (.int .i64 (ou)) := (blk_cell BK_go.out 1).trans rfl
  have lf8_1 := blk_frozen BK_go.out 1
  have lc8_2 : w5.cell? ⟨go, 2, none⟩ = some (.int .i64 3) := (blk_cell BK_go.out 2).trans rfl
  have lf8_2 := blk_frozen BK_go.out 2
  have lc8_3 : w5.cell? ⟨go, 3, none⟩ = some (.int .i64 0) := (blk_cell BK_go.out 3).trans rfl
  have lf8_3 := blk_frozen BK_go.out 3
  have lc8_4 : w5.cell? ⟨go, 4, none⟩ = some (.int .i64 1) := (blk_cell BK_go.out 4).trans rfl
  have lf8_4 := blk_frozen BK_go.out 4
  have lc8_5 : w5.cell? ⟨go, 5, none⟩ = some (.slice none 0 0) := (blk_cell BK_go.out 5).trans rfl
  have lf8_5 := blk_frozen BK_go.out 5
  have lc8_6 : w5.cell? ⟨go, 6, none⟩ = some (.int .i64 0) := (blk_cell BK_go.out 6).trans rfl
  have lf8_6 := blk_frozen BK_go.out 6
  have lc8_7 : w5.cell? ⟨go, 7, none⟩ = some (.int .i64 0) := (blk_cell BK_go.out 7).trans rfl
  have lf8_7 := blk_frozen BK_go.out 7
  have lc8_8 : w5.cell? ⟨go, 8, none⟩ = some (.int .i64 0) := (blk_cell BK_go.out 8).trans rfl
  have lf8_8 := blk_frozen BK_go.out 8
  go_wp2_with (((with_reducible refine gate_store (p := 77) rfl ?_); refine store_event (w1 := ?_) rfl (p := 77) rfl rfl ?hr ?_; rotate_left; (case hr => go_simp; rfl); intro w6 hw_; obtain ⟨hput, HEc⟩ := put1 (cs' := #[.int .i64 wait, .int .i64 again, .int .i64 pause, .int .i64 t, .int .i64 tk, .slice A 0 c, .pointer none, .int .i64 times, .int .i64 last, .map (some m)]) hw_ BK_g.out rfl; clear hw_; have OBn_l : Aside0 (OwnE ks (fun _ => False) 39 B w6 (Value.slice A 0 c) ([])) := ⟨ks_mv OB_l.out HEc NE_l_g.out⟩; have OBn_d : Aside0 (OwnE kd (fun _ => False) 48 B w6 v9 ([ot])) := ⟨kd_mv OB_d.out HEc NE_d_g.out⟩; clear OB_l OB_d; have OB_l := OBn_l; have OB_d := OBn_d; clear OBn_l OBn_d; clear lc7_0 lf7_0 lc7_1 lf7_1 lc7_2 lf7_2 lc7_3 lf7_3 lc7_4 lf7_4 lc7_5 lf7_5 lc7_6 lf7_6 lc7_7 lf7_7 lc7_8 lf7_8 lc7_9 lf7_9 lc8_0 lf8_0 lc8_1 lf8_1 lc8_2 lf8_2 lc8_3 lf8_3 lc8_4 lf8_4 lc8_5 lf8_5 lc8_6 lf8_6 lc8_7 lf8_7 lc8_8 lf8_8; have BKn_go : Aside0 (w6.heap[go]? = some (.cells #[.int .i64 (ot), .int .i64 (ou), .int .i64 3, .int .i64 0, .int .i64 1, .slice none 0 0, .int .i64 0, .int .i64 0, .int .i64 0] 39 (0, 0))) := ⟨Ext.blk HEc BK_go.out NE_go_g.out⟩; have MPn_m : Aside0 (IsMap w6 m (fun j => if j = ou then some (.int .i64 (wrap64 (t + pause))) else f j) (n + 1)) := ⟨IsMap.ext MP_m.out HEc NE_m_g.out⟩; have XTn : Aside0 (Ext (fun k => B ≤ k) w1 w6) := ⟨XT.out.step HEc (F_g.out)⟩; clear BK_go MP_m XT; have BK_go := BKn_go; have MP_m := MPn_m; have XT := XTn; clear BKn_go MPn_m XTn; clear BK_g; have BK_g : Aside0 (w6.heap[g]? = some (.cells #[.int .i64 wait, .int .i64 again, .int .i64 pause, .int .i64 t, .int .i64 tk, .slice A 0 c, .pointer none, .int .i64 times, .int .i64 last, .map (some m)] 73 (0, 0))) := ⟨hput⟩; clear hput HEc; have lc9_0 : w6.cell? ⟨g, 0, none⟩ = some (.int .i64 wait) := (blk_cell BK_g.out 0).trans rfl; have lf9_0 := blk_frozen BK_g.out 0; have lc9_1 : w6.cell? ⟨g, 1, none⟩ = some (.int .i64 again) := (blk_cell BK_g.out 1).trans rfl; have lf9_1 := blk_frozen BK_g.out 1; have lc9_2 : w6.cell? ⟨g, 2, none⟩ = some (.int .i64 pause) := (blk_cell BK_g.out 2).trans rfl; have lf9_2 := blk_frozen BK_g.out 2; have lc9_3 : w6.cell? ⟨g, 3, none⟩ = some (.int .i64 t) := (blk_cell BK_g.out 3).trans rfl; have lf9_3 := blk_frozen BK_g.out 3; have lc9_4 : w6.cell? ⟨g, 4, none⟩ = some (.int .i64 tk) := (blk_cell BK_g.out 4).trans rfl; have lf9_4 := blk_frozen BK_g.out 4; have lc9_5 : w6.cell? ⟨g, 5, none⟩ = some (.slice A 0 c) := (blk_cell BK_g.out 5).trans rfl; have lf9_5 := blk_frozen BK_g.out 5; have lc9_6 : w6.cell? ⟨g, 6, none⟩ = some (.pointer none) := (blk_cell BK_g.out 6).trans rfl; have lf9_6 := blk_frozen BK_g.out 6; have lc9_7 : w6.cell? ⟨g, 7, none⟩ = some (.int .i64 times) := (blk_cell BK_g.out 7).trans rfl; have lf9_7 := blk_frozen BK_g.out 7; have lc9_8 : w6.cell? ⟨g, 8, none⟩ = some (.int .i64 last) := (blk_cell BK_g.out 8).trans rfl; have lf9_8 := blk_frozen BK_g.out 8; have lc9_9 : w6.cell? ⟨g, 9, none⟩ = some (.map (some m)) := (blk_cell BK_g.out 9).trans rfl; have lf9_9 := blk_frozen BK_g.out 9; have lc10_0 : w6.cell? ⟨go, 0, none⟩ = some (.int .i64 (ot)) := (blk_cell BK_go.out 0).trans rfl; have lf10_0 := blk_frozen BK_go.out 0; have lc10_1 : w6.cell? ⟨go, 1, none⟩ = some (.int .i64 (ou)) := (blk_cell BK_go.out 1).trans rfl; have lf10_1 := blk_frozen BK_go.out 1; have lc10_2 : w6.cell? ⟨go, 2, none⟩ = some (.int .i64 3) := (blk_cell BK_go.out 2).trans rfl; have lf10_2 := blk_frozen BK_go.out 2; have lc10_3 : w6.cell? ⟨go, 3, none⟩ = some (.int .i64 0) := (blk_cell BK_go.out 3).trans rfl; have lf10_3 := blk_frozen BK_go.out 3; have lc10_4 : w6.cell? ⟨go, 4, none⟩ = some (.int .i64 1) := (blk_cell BK_go.out 4).trans rfl; have lf10_4 := blk_frozen BK_go.out 4; have lc10_5 : w6.cell? ⟨go, 5, none⟩ = some (.slice none 0 0) := (blk_cell BK_go.out 5).trans rfl; have lf10_5 := blk_frozen BK_go.out 5; have lc10_6 : w6.cell? ⟨go, 6, none⟩ = some (.int .i64 0) := (blk_cell BK_go.out 6).trans rfl; have lf10_6 := blk_frozen BK_go.out 6; have lc10_7 : w6.cell? ⟨go, 7, none⟩ = some (.int .i64 0) := (blk_cell BK_go.out 7).trans rfl; have lf10_7 := blk_frozen BK_go.out 7; have lc10_8 : w6.cell? ⟨go, 8, none⟩ = some (.int .i64 0) := (blk_cell BK_go.out 8).trans rfl; have lf10_8 := blk_frozen BK_go.out 8))
  go_step3
  clear lc9_0 lf9_0 lc9_1 lf9_1 lc9_2 lf9_2 lc9_3 lf9_3 lc9_4 lf9_4 lc9_5 lf9_5 lc9_6 lf9_6 lc9_7 lf9_7 lc9_8 lf9_8 lc9_9 lf9_9 lc10_0 lf10_0 lc10_1 lf10_1 lc10_2 lf10_2 lc10_3 lf10_3 lc10_4 lf10_4 lc10_5 lf10_5 lc10_6 lf10_6 lc10_7 lf10_7 lc10_8 lf10_8
  clear BK_go NE_l_go NE_go_g NE_g_go NE_go_m NE_m_go BGO
  have lc11_0 : w6.cell? ⟨g, 0, none⟩ = some (.int .i64 wait) := (blk_cell BK_g.out 0).trans rfl
  have lf11_0 := blk_frozen BK_g.out 0
  have lc11_1 : w6.cell? ⟨g, 1, none⟩ = some (.int .i64 again) := (blk_cell BK_g.out 1).trans rfl
  have lf11_1 := blk_frozen BK_g.out 1
  have lc11_2 : w6.cell? ⟨g, 2, none⟩ = some (.int .i64 pause) := (blk_cell BK_g.out 2).trans rfl
  have lf11_2 := blk_frozen BK_g.out 2
  have lc11_3 : w6.cell? ⟨g, 3, none⟩ = some (.int .i64 t) := (blk_cell BK_g.out 3).trans rfl
  have lf11_3 := blk_frozen BK_g.out 3
  have lc11_4 : w6.cell? ⟨g, 4, none⟩ = some (.int .i64 tk) := (blk_cell BK_g.out 4).trans rfl
  have lf11_4 := blk_frozen BK_g.out 4
  have lc11_5 : w6.cell? ⟨g, 5, none⟩ = some (.slice A 0 c) := (blk_cell BK_g.out 5).trans rfl
  have lf11_5 := blk_frozen BK_g.out 5
  have lc11_6 : w6.cell? ⟨g, 6, none⟩ = some (.pointer none) := (blk_cell BK_g.out 6).trans rfl
  have lf11_6 := blk_frozen BK_g.out 6
  have lc11_7 : w6.cell? ⟨g, 7, none⟩ = some (.int .i64 times) := (blk_cell BK_g.out 7).trans rfl
  have lf11_7 := blk_frozen BK_g.out 7
  have lc11_8 : w6.cell? ⟨g, 8, none⟩ = some (.int .i64 last) := (blk_cell BK_g.out 8).trans rfl
  have lf11_8 := blk_frozen BK_g.out 8
  have lc11_9 : w6.cell? ⟨g, 9, none⟩ = some (.map (some m)) := (blk_cell BK_g.out 9).trans rfl
  have lf11_9 := blk_frozen BK_g.out 9
  go_wp2_with (fail)
  go_loopw [89] (fun v wr => v = .int .i64 0 ∧ Aside0 (wr.heap[g]? = some (.cells #[.int .i64 wait, .int .i64 again, .int .i64 pause, .int .i64 t, .int .i64 tk, .slice A 0 c, .pointer none, .int .i64 times, .int .i64 last, .map (some m)] 73 (0, 0))) ∧ Aside0 (IsMap wr m (fun j => if j = ou then some (.int .i64 (wrap64 (t + pause))) else f j) (n + 1)) ∧ Aside0 (Ext (fun k => B ≤ k) w1 wr) ∧ Aside0 (OwnE ks (fun _ => False) 39 B wr (Value.slice A 0 c) ([])) ∧ Aside0 (OwnE kd (fun _ => False) 48 B wr v9 ([ot]))) (fun _ _ => 0)
  case atStart => exact ⟨rfl, BK_g, MP_m, XT, OB_l, OB_d⟩
  case round =>
    clear BK_g MP_m XT OB_l OB_d lc11_0 lf11_0 lc11_1 lf11_1 lc11_2 lf11_2 lc11_3 lf11_3 lc11_4 lf11_4 lc11_5 lf11_5 lc11_6 lf11_6 lc11_7 lf11_7 lc11_8 lf11_8 lc11_9 lf11_9
    obtain ⟨hv, BK_g, MP_m, XT, OB_l, OB_d⟩ := hrel
    subst hv
    have lc12_0 : wr.cell? ⟨g, 0, none⟩ = some (.int .i64 wait) := (blk_cell BK_g.out 0).trans rfl
    have lf12_0 := blk_frozen BK_g.out 0
    have lc12_1 : wr.cell? ⟨g, 1, none⟩ = some (.int .i64 again) := (blk_cell BK_g.out 1).trans rfl
    have lf12_1 := blk_frozen BK_g.out 1
    have lc12_2 : wr.cell? ⟨g, 2, none⟩ = some (.int .i64 pause) := (blk_cell BK_g.out 2).trans rfl
    have lf12_2 := blk_frozen BK_g.out 2
    have lc12_3 : wr.cell? ⟨g, 3, none⟩ = some (.int .i64 t) := (blk_cell BK_g.out 3).trans rfl
    have lf12_3 := blk_frozen BK_g.out 3
    have lc12_4 : wr.cell? ⟨g, 4, none⟩ = some (.int .i64 tk) := (blk_cell BK_g.out 4).trans rfl
    have lf12_4 := blk_frozen BK_g.out 4
    have lc12_5 : wr.cell? ⟨g, 5, none⟩ = some (.slice A 0 c) := (blk_cell BK_g.out 5).trans rfl
    have lf12_5 := blk_frozen BK_g.out 5
    have lc12_6 : wr.cell? ⟨g, 6, none⟩ = some (.pointer none) := (blk_cell BK_g.out 6).trans rfl
    have lf12_6 := blk_frozen BK_g.out 6
    have lc12_7 : wr.cell? ⟨g, 7, none⟩ = some (.int .i64 times) := (blk_cell BK_g.out 7).trans rfl
    have lf12_7 := blk_frozen BK_g.out 7
    have lc12_8 : wr.cell? ⟨g, 8, none⟩ = some (.int .i64 last) := (blk_cell BK_g.out 8).trans rfl
    have lf12_8 := blk_frozen BK_g.out 8
    have lc12_9 : wr.cell? ⟨g, 9, none⟩ = some (.map (some m)) := (blk_cell BK_g.out 9).trans rfl
    have lf12_9 := blk_frozen BK_g.out 9
    go_wp2
    try rw [Exit.noGoto_ret]
    go_ret3
    exact ⟨_, _, rfl, rfl, done_mk OB_d.out, ⟨⟨_, _, BK_g.out, OB_l.out, rfl⟩, ⟨_, _, MP_m.out, HF.out⟩, BG.out, BM.out⟩, belowT HBB.out (extB XT.out HBW.out)⟩
set_option maxHeartbeats 4000000 in
set_option maxRecDepth 100000 in
theorem step_late_send {B : Nat} {w : World} {g m : Nat} {wait again pause now tk times last : Int} {rest : Int → Int} {ot ou : Int} {lt lu : Int} {xs : List (Int × Int)} (h : IsM B w g m ⟨wait, again, pause, now, tk, ((lt, lu) :: xs), some (ot, ou), times, last, rest⟩) (hB : B ≤ w.heap.size) (t : Int) (h0 : 0 ≤ t) (h1 : now ≤ t) (hq : wait ≤ wrap64 (t - last)) (hr : again < times) (hs : (if lu = ou then wrap64 (t + pause) else rest lu) ≤ t) (hl : xs.length ≤ 1000) : Calls Try.prog 12 #[.pointer (some ⟨g, 0, none⟩), .int .i64 t] w fun e w' => ∃ va vd, e = .returned (.tuple #[va, vd, .int .i64 0]) ∧ SentR w' va (some (lt, lu)) ∧ DoneR w' vd (some ot) ∧ IsM B w' g m ⟨wait, again, pause, t, tk, xs, some (lt, lu), wrap64 (0 + 1), t, (fun k => if k = ou then wrap64 (t + pause) else rest k)⟩ ∧ Below B w w' := by
  have H := Aside0.mk h; have HB := Aside0.mk hB; have T0 := Aside0.mk h0; have T1 := Aside0.mk h1
  have q5 : decide (wait ≤ wrap64 (t - last)) = true := decide_eq_true hq
  have q6 : decide (times ≤ again) = false := decide_eq_false (by omega)
  obtain ⟨rv, hrv⟩ : ∃ r : Int, r = (if lu = ou then wrap64 (t + pause) else rest lu) := ⟨_, rfl⟩
  rw [← hrv] at hs
  have HRV := Aside0.mk hrv
  clear hrv
  have q7 : decide (t < rv) = false := decide_eq_false (Int.not_lt.2 hs)
  have HLX := Aside0.mk hl
  clear h hB h0 h1 hq hr hs hl
  have hu39 := Try.underlying39; have hu48 := Try.underlying48
  go_enter Try.func12, Try.ntmps12
  go_wp2_with (fail)
  go_step3
  go_upto_region 5 with (go_at_call 31; refine (goon_c H.out HB.out t T0.out T1.out).mono ?_; rintro e w1 ⟨rfl, HI, HBB⟩; have HI := Aside0.mk HI; have HBB := Aside0.mk HBB)
  clear H
  have HBW : Aside0 (B ≤ w1.heap.size) := ⟨Nat.le_trans HB.out HBB.out.size⟩
  obtain ⟨⟨vl, vo, hb, hl, ho⟩, ⟨f, n, hm, hf⟩, bg, bm⟩ := HI.out
  clear HI
  obtain ⟨go, rfl, hgo, bgo, nlo⟩ := ho
  have BK_g : Aside0 (w1.heap[g]? = some (.cells #[.int .i64 wait, .int .i64 again, .int .i64 pause, .int .i64 t, .int .i64 tk, vl, .pointer (some ⟨go, 0, none⟩), .int .i64 times, .int .i64 last, .map (some m)] 73 (0, 0))) := ⟨hb⟩
  have OB_l : Aside0 (OwnE ks (fun _ => False) 39 B w1 vl ((lt, lu) :: xs)) := ⟨hl⟩
  have MP_m := Aside0.mk hm; have HF := Aside0.mk hf; have BG := Aside0.mk bg; have BM := Aside0.mk bm
  have NE_l_g : Aside0 (∀ k, (vl).ownBlock = some k → k ≠ g) := ⟨ks_ne hl hb (by decide)⟩; have NE_l_m : Aside0 (∀ k, (vl).ownBlock = some k → k ≠ m) := ⟨ks_nm hl hm⟩; have NE_g_m : Aside0 (g ≠ m) := ⟨cell_nm hb hm⟩; have NE_m_g : Aside0 (m ≠ g) := ⟨fun e => NE_g_m.out e.symm⟩; have F_g : Aside0 (∀ k, k = g → B ≤ k ∨ w1.heap.size ≤ k) := ⟨fun k e => .inl (by rw [e]; exact bg)⟩; have F_m : Aside0 (∀ k, k = m → B ≤ k ∨ w1.heap.size ≤ k) := ⟨fun k e => .inl (by rw [e]; exact bm)⟩
  have BK_go : Aside0 (w1.heap[go]? = some (.cells #[.int .i64 (ot), .int .i64 (ou), .int .i64 3, .int .i64 0, .int .i64 1, .slice none 0 0, .int .i64 0, .int .i64 0, .int .i64 0] 39 (0, 0))) := ⟨hgo⟩; have BGO := Aside0.mk bgo; have NE_l_go : Aside0 (∀ k, (vl).ownBlock = some k → k ≠ go) := ⟨nlo⟩; have NE_go_g : Aside0 (go ≠ g) := ⟨blk_ne hgo hb (by decide)⟩; have NE_g_go : Aside0 (g ≠ go) := ⟨fun e => NE_go_g.out e.symm⟩; have NE_go_m : Aside0 (go ≠ m) := ⟨cell_nm hgo hm⟩; have NE_m_go : Aside0 (m ≠ go) := ⟨fun e => NE_go_m.out e.symm⟩; clear hgo bgo nlo
  clear hb hl hm hf bg bm
  obtain ⟨gl, c, e, hcap, _⟩ := row0 OB_l.out
  obtain rfl : vl = (Value.slice (some ⟨gl, 0, none⟩) (xs.length + 1) c) := e
  have HCAP := Aside0.mk hcap; clear hcap
  have XT : Aside0 (Ext (fun k => B ≤ k) w1 w1) := ⟨Ext.refl _ _⟩
  have lc1_0 : w1.cell? ⟨g, 0, none⟩ = some (.int .i64 wait) := (blk_cell BK_g.out 0).trans rfl
  have lf1_0 := blk_frozen BK_g.out 0
  have lc1_1 : w1.cell? ⟨g, 1, none⟩ = some (.int .i64 again) := (blk_cell BK_g.out 1).trans rfl
  have lf1_1 := blk_frozen BK_g.out 1
  have lc1_2 : w1.cell? ⟨g, 2, none⟩ = some (.int .i64 pause) := (blk_cell BK_g.out 2).trans rfl
  have lf1_2 := blk_frozen BK_g.out 2
  have lc1_3 : w1.cell? ⟨g, 3, none⟩ = some (.int .i64 t) := (blk_cell BK_g.out 3).trans rfl
  have lf1_3 := blk_frozen BK_g.out 3
  have lc1_4 : w1.cell? ⟨g, 4, none⟩ = some (.int .i64 tk) := (blk_cell BK_g.out 4).trans rfl
  have lf1_4 := blk_frozen BK_g.out 4
  have lc1_5 : w1.cell? ⟨g, 5, none⟩ = some (.slice (some ⟨gl, 0, none⟩) (xs.length + 1) c) := (blk_cell BK_g.out 5).trans rfl
  have lf1_5 := blk_frozen BK_g.out 5
  have lc1_6 : w1.cell? ⟨g, 6, none⟩ = some (.pointer (some ⟨go, 0, none⟩)) := (blk_cell BK_g.out 6).trans rfl
  have lf1_6 := blk_frozen BK_g.out 6
  have lc1_7 : w1.cell? ⟨g, 7, none⟩ = some (.int .i64 times) := (blk_cell BK_g.out 7).trans rfl
  have lf1_7 := blk_frozen BK_g.out 7
  have lc1_8 : w1.cell? ⟨g, 8, none⟩ = some (.int .i64 last) := (blk_cell BK_g.out 8).trans rfl
  have lf1_8 := blk_frozen BK_g.out 8
  have lc1_9 : w1.cell? ⟨g, 9, none⟩ = some (.map (some m)) := (blk_cell BK_g.out 9).trans rfl
  have lf1_9 := blk_frozen BK_g.out 9
  have lc2_0 : w1.cell? ⟨go, 0, none⟩ = some (.int .i64 (ot)) := (blk_cell BK_go.out 0).trans rfl
  have lf2_0 := blk_frozen BK_go.out 0
  have lc2_1 : w1.cell? ⟨go, 1, none⟩ = some (.int .i64 (ou)) := (blk_cell BK_go.out 1).trans rfl
  have lf2_1 := blk_frozen BK_go.out 1
  have lc2_2 : w1.cell? ⟨go, 2, none⟩ = some (.int .i64 3) := (blk_cell BK_go.out 2).trans rfl
  have lf2_2 := blk_frozen BK_go.out 2
  have lc2_3 : w1.cell? ⟨go, 3, none⟩ = some (.int .i64 0) := (blk_cell BK_go.out 3).trans rfl
  have lf2_3 := blk_frozen BK_go.out 3
  have lc2_4 : w1.cell? ⟨go, 4, none⟩ = some (.int .i64 1) := (blk_cell BK_go.out 4).trans rfl
  have lf2_4 := blk_frozen BK_go.out 4
  have lc2_5 : w1.cell? ⟨go, 5, none⟩ = some (.slice none 0 0) := (blk_cell BK_go.out 5).trans rfl
  have lf2_5 := blk_frozen BK_go.out 5
  have lc2_6 : w1.cell? ⟨go, 6, none⟩ = some (.int .i64 0) := (blk_cell BK_go.out 6).trans rfl
  have lf2_6 := blk_frozen BK_go.out 6
  have lc2_7 : w1.cell? ⟨go, 7, none⟩ = some (.int .i64 0) := (blk_cell BK_go.out 7).trans rfl
  have lf2_7 := blk_frozen BK_go.out 7
  have lc2_8 : w1.cell? ⟨go, 8, none⟩ = some (.int .i64 0) := (blk_cell BK_go.out 8).trans rfl
  have lf2_8 := blk_frozen BK_go.out 8
  clear lc1_0 lf1_0 lc1_1 lf1_1 lc1_2 lf1_2 lc1_3 lf1_3 lc1_4 lf1_4 lc1_5 lf1_5 lc1_6 lf1_6 lc1_7 lf1_7 lc1_8 lf1_8 lc1_9 lf1_9 lc2_0 lf2_0 lc2_1 lf2_1 lc2_2 lf2_2 lc2_3 lf2_3 lc2_4 lf2_4 lc2_5 lf2_5 lc2_6 lf2_6 lc2_7 lf2_7 lc2_8 lf2_8
  refine start_ (n := 18) (S := fun W => W.cell? ⟨g, 6, none⟩ = some (.pointer (some ⟨go, 0, none⟩)) ∧ W.cell? ⟨g, 8, none⟩ = some (.int .i64 last) ∧ W.cell? ⟨g, 0, none⟩ = some (.int .i64 wait)) (ds := []) #[false, false, false, false, false, false, false, false, false, false, false, false, false, false, false, false, false, false] (by kernel_rfl) rfl rfl ?_ (fun hHeld => ?_)
  · exact ⟨(blk_cell (by (with_reducible repeat (first | refine blk_drewN ?_ _ | refine blk_drew ?_ | refine blk_alloc ?_ _)); exact BK_g.out) 6).trans rfl, (blk_cell (by (with_reducible repeat (first | refine blk_drewN ?_ _ | refine blk_drew ?_ | refine blk_alloc ?_ _)); exact BK_g.out) 8).trans rfl, (blk_cell (by (with_reducible repeat (first | refine blk_drewN ?_ _ | refine blk_drew ?_ | refine blk_alloc ?_ _)); exact BK_g.out) 0).trans rfl⟩
  refine pure_ (i := 0) (N := some 17) (v := ?_) (a' := ?_) #[true, false, false, false, false, false, false, false, false, false, false, false, false, false, false, false, false, false] rfl rfl (by kernel_rfl) (fun _ _ _ h => h) (Or.inl ⟨by rfl, ?_⟩) ?_ ?_
  rotate_left
  · intro w'
    go_simp
    with_reducible rfl
  rotate_left
  · simp only [Act.put, List.setIfInBounds_toArray, List.set_cons_zero, List.set_cons_succ, i64_w, i32_w]
    rfl
  refine pure_ (i := 1) (N := some 18) (v := ?_) (a' := ?_) #[true, true, false, false, false, false, false, false, false, false, false, false, false, false, false, false, false, false] rfl rfl (by kernel_rfl) (fun _ _ _ h => h) (Or.inl ⟨by rfl, ?_⟩) ?_ ?_
  rotate_left
  · intro w'
    go_simp
    with_reducible rfl
  rotate_left
  · simp only [Act.put, List.setIfInBounds_toArray, List.set_cons_zero, List.set_cons_succ, i64_w, i32_w]
    rfl
  refine pure_ (i := 2) (N := some 19) (v := ?_) (a' := ?_) #[true, true, true, false, false, false, false, false, false, false, false, false, false, false, false, false, false, false] rfl rfl (by kernel_rfl) (fun _ _ _ h => h) (Or.inl ⟨by rfl, ?_⟩) ?_ ?_
  rotate_left
  · intro w'
    go_simp
    with_reducible rfl
  rotate_left
  · simp only [Act.put, List.setIfInBounds_toArray, List.set_cons_zero, List.set_cons_succ, i64_w, i32_w]
    rfl
  refine take_ (i := 3) (N := some 20) (v := ?_) (a' := ?_) #[true, true, true, true, false, false, false, false, false, false, false, false, false, false, false, false, false, false] rfl rfl (by kernel_rfl) (fun _ _ _ h => h) (Or.inl ⟨by rfl, ?_⟩) hHeld ?_ ?_
  rotate_left
  · rintro w' ⟨s0, s1, s2⟩
    go_simp
    with_reducible rfl
  rotate_left
  · simp only [Act.put, List.setIfInBounds_toArray, List.set_cons_zero, List.set_cons_succ, i64_w, i32_w]
    rfl
  refine pure_ (i := 4) (N := some 21) (v := ?_) (a' := ?_) #[true, true, true, true, true, false, false, false, false, false, false, false, false, false, false, false, false, false] rfl rfl (by kernel_rfl) (fun _ _ _ h => h) (Or.inl ⟨by rfl, ?_⟩) ?_ ?_
  rotate_left
  · intro w'
    go_simp
    with_reducible rfl
  rotate_left
  · simp only [Act.put, List.setIfInBounds_toArray, List.set_cons_zero, List.set_cons_succ, i64_w, i32_w]
    rfl
  refine pure_ (i := 5) (N := some 22) (v := ?_) (a' := ?_) #[true, true, true, true, true, true, false, false, false, false, false, false, false, false, false, false, false, false] rfl rfl (by kernel_rfl) (fun _ _ _ h => h) (Or.inl ⟨by rfl, ?_⟩) ?_ ?_
  rotate_left
  · intro w'
    go_simp
    with_reducible rfl
  rotate_left
  · simp only [Act.put, List.setIfInBounds_toArray, List.set_cons_zero, List.set_cons_succ, i64_w, i32_w]
    rfl
  refine pure_ (i := 6) (N := some 23) (v := ?_) (a' := ?_) #[true, true, true, true, true, true, true, false, false, false, false, false, false, false, false, false, false, false] rfl rfl (by kernel_rfl) (fun _ _ _ h => h) (Or.inl ⟨by rfl, ?_⟩) ?_ ?_
  rotate_left
  · intro w'
    go_simp
    with_reducible rfl
  rotate_left
  · simp only [Act.put, List.setIfInBounds_toArray, List.set_cons_zero, List.set_cons_succ, i64_w, i32_w]
    rfl
  refine pure_ (i := 7) (N := some 24) (v := ?_) (a' := ?_) #[true, true, true, true, true, true, true, true, false, false, false, false, false, false, false, false, false, false] rfl rfl (by kernel_rfl) (fun _ _ _ h => h) (Or.inl ⟨by rfl, ?_⟩) ?_ ?_
  rotate_left
  · intro w'
    go_simp
    with_reducible rfl
  rotate_left
  · simp only [Act.put, List.setIfInBounds_toArray, List.set_cons_zero, List.set_cons_succ, i64_w, i32_w]
    rfl
  refine pure_ (i := 8) (N := some 25) (v := ?_) (a' := ?_) #[true, true, true, true, true, true, true, true, true, false, false, false, false, false, false, false, false, false] rfl rfl (by kernel_rfl) (fun _ _ _ h => h) (Or.inl ⟨by rfl, ?_⟩) ?_ ?_
  rotate_left
  · intro w'
    go_simp
    with_reducible rfl
  rotate_left
  · simp only [Act.put, List.setIfInBounds_toArray, List.set_cons_zero, List.set_cons_succ, i64_w, i32_w]
    rfl
  refine pure_ (i := 9) (N := some 26) (v := ?_) (a' := ?_) #[true, true, true, true, true, true, true, true, true, true, false, false, false, false, false, false, false, false] rfl rfl (by kernel_rfl) (fun _ _ _ h => h) (Or.inl ⟨by rfl, ?_⟩) ?_ ?_
  rotate_left
  · intro w'
    go_simp
    with_reducible rfl
  rotate_left
  · simp only [Act.put, List.setIfInBounds_toArray, List.set_cons_zero, List.set_cons_succ, i64_w, i32_w]
    rfl
  refine take_ (i := 10) (N := some 27) (v := ?_) (a' := ?_) #[true, true, true, true, true, true, true, true, true, true, true, false, false, false, false, false, false, false] rfl rfl (by kernel_rfl) (fun _ _ _ h => h) (Or.inl ⟨by rfl, ?_⟩) hHeld ?_ ?_
  rotate_left
  · rintro w' ⟨s0, s1, s2⟩
    go_simp
    with_reducible rfl
  rotate_left
  · simp only [Act.put, List.setIfInBounds_toArray, List.set_cons_zero, List.set_cons_succ, i64_w, i32_w]
    rfl
  refine pure_ (i := 11) (N := some 28) (v := ?_) (a' := ?_) #[true, true, true, true, true, true, true, true, true, true, true, true, false, false, false, false, false, false] rfl rfl (by kernel_rfl) (fun _ _ _ h => h) (Or.inl ⟨by rfl, ?_⟩) ?_ ?_
  rotate_left
  · intro w'
    go_simp
    with_reducible rfl
  rotate_left
  · simp only [Act.put, List.setIfInBounds_toArray, List.set_cons_zero, List.set_cons_succ, i64_w, i32_w]
    rfl
  refine pure_ (i := 12) (N := some 29) (v := ?_) (a' := ?_) #[true, true, true, true, true, true, true, true, true, true, true, true, true, false, false, false, false, false] rfl rfl (by kernel_rfl) (fun _ _ _ h => h) (Or.inl ⟨by rfl, ?_⟩) ?_ ?_
  rotate_left
  · intro w'
    go_simp
    with_reducible rfl
  rotate_left
  · simp only [Act.put, List.setIfInBounds_toArray, List.set_cons_zero, List.set_cons_succ, i64_w, i32_w]
    rfl
  refine pure_ (i := 13) (N := some 30) (v := ?_) (a' := ?_) #[true, true, true, true, true, true, true, true, true, true, true, true, true, true, false, false, false, false] rfl rfl (by kernel_rfl) (fun _ _ _ h => h) (Or.inl ⟨by rfl, ?_⟩) ?_ ?_
  rotate_left
  · intro w'
    go_simp
    with_reducible rfl
  rotate_left
  · simp only [Act.put, List.setIfInBounds_toArray, List.set_cons_zero, List.set_cons_succ, i64_w, i32_w]
    rfl
  refine pure_ (i := 14) (N := some 31) (v := ?_) (a' := ?_) #[true, true, true, true, true, true, true, true, true, true, true, true, true, true, true, false, false, false] rfl rfl (by kernel_rfl) (fun _ _ _ h => h) (Or.inl ⟨by rfl, ?_⟩) ?_ ?_
  rotate_left
  · intro w'
    go_simp
    with_reducible rfl
  rotate_left
  · simp only [Act.put, List.setIfInBounds_toArray, List.set_cons_zero, List.set_cons_succ, i64_w, i32_w]
    rfl
  refine take_ (i := 15) (N := some 32) (v := ?_) (a' := ?_) #[true, true, true, true, true, true, true, true, true, true, true, true, true, true, true, true, false, false] rfl rfl (by kernel_rfl) (fun _ _ _ h => h) (Or.inl ⟨by rfl, ?_⟩) hHeld ?_ ?_
  rotate_left
  · rintro w' ⟨s0, s1, s2⟩
    go_simp
    with_reducible rfl
  rotate_left
  · simp only [Act.put, List.setIfInBounds_toArray, List.set_cons_zero, List.set_cons_succ, i64_w, i32_w]
    rfl
  refine pure_ (i := 16) (N := some 33) (v := ?_) (a' := ?_) #[true, true, true, true, true, true, true, true, true, true, true, true, true, true, true, true, true, false] rfl rfl (by kernel_rfl) (fun _ _ _ h => h) (Or.inl ⟨by rfl, ?_⟩) ?_ ?_
  rotate_left
  · intro w'
    go_simp
    with_reducible rfl
  rotate_left
  · simp only [Act.put, List.setIfInBounds_toArray, List.set_cons_zero, List.set_cons_succ, i64_w, i32_w]
    rfl
  refine pure_ (i := 17) (N := some 34) (v := ?_) (a' := ?_) #[true, true, true, true, true, true, true, true, true, true, true, true, true, true, true, true, true, true] rfl rfl (by kernel_rfl) (fun _ _ _ h => h) (Or.inl ⟨by rfl, ?_⟩) ?_ ?_
  rotate_left
  · intro w'
    go_simp
    with_reducible rfl
  rotate_left
  · simp only [Act.put, List.setIfInBounds_toArray, List.set_cons_zero, List.set_cons_succ, i64_w, i32_w]
    rfl
  refine done_ (by kernel_rfl) ?_
  generalize hwd : World.drew w1 = w2
  have HBc : Below w1.heap.size w1 w2 := (by rw [← hwd]; exact below_drew (Below.refl _ _))
  clear hwd
  have OBn_l : Aside0 (OwnE ks (fun _ => False) 39 B w2 (Value.slice (some ⟨gl, 0, none⟩) (xs.length + 1) c) ((lt, lu) :: xs)) := ⟨ks_mv OB_l.out (Ext.none_ HBc) (fun _ _ e => e)⟩
  clear OB_l
  have OB_l := OBn_l
  clear OBn_l
  have BKn_g : Aside0 (w2.heap[g]? = some (.cells #[.int .i64 wait, .int .i64 again, .int .i64 pause, .int .i64 t, .int .i64 tk, .slice (some ⟨gl, 0, none⟩) (xs.length + 1) c, .pointer (some ⟨go, 0, none⟩), .int .i64 times, .int .i64 last, .map (some m)] 73 (0, 0))) := ⟨Ext.blk (Ext.none_ HBc) BK_g.out (fun e => e)⟩
  have BKn_go : Aside0 (w2.heap[go]? = some (.cells #[.int .i64 (ot), .int .i64 (ou), .int .i64 3, .int .i64 0, .int .i64 1, .slice none 0 0, .int .i64 0, .int .i64 0, .int .i64 0] 39 (0, 0))) := ⟨Ext.blk (Ext.none_ HBc) BK_go.out (fun e => e)⟩
  have MPn_m : Aside0 (IsMap w2 m (f) (n)) := ⟨IsMap.ext MP_m.out (Ext.none_ HBc) (fun e => e)⟩
  have XTn : Aside0 (Ext (fun k => B ≤ k) w1 w2) := ⟨XT.out.stepB HBc⟩
  clear BK_g BK_go MP_m XT
  have BK_g := BKn_g
  have BK_go := BKn_go
  have MP_m := MPn_m
  have XT := XTn
  clear BKn_g BKn_go MPn_m XTn
  clear HBc
  have lc3_0 : w2.cell? ⟨g, 0, none⟩ = some (.int .i64 wait) := (blk_cell BK_g.out 0).trans rfl
  have lf3_0 := blk_frozen BK_g.out 0
  have lc3_1 : w2.cell? ⟨g, 1, none⟩ = some (.int .i64 again) := (blk_cell BK_g.out 1).trans rfl
  have lf3_1 := blk_frozen BK_g.out 1
  have lc3_2 : w2.cell? ⟨g, 2, none⟩ = some (.int .i64 pause) := (blk_cell BK_g.out 2).trans rfl
  have lf3_2 := blk_frozen BK_g.out 2
  have lc3_3 : w2.cell? ⟨g, 3, none⟩ = some (.int .i64 t) := (blk_cell BK_g.out 3).trans rfl
  have lf3_3 := blk_frozen BK_g.out 3
  have lc3_4 : w2.cell? ⟨g, 4, none⟩ = some (.int .i64 tk) := (blk_cell BK_g.out 4).trans rfl
  have lf3_4 := blk_frozen BK_g.out 4
  have lc3_5 : w2.cell? ⟨g, 5, none⟩ = some (.slice (some ⟨gl, 0, none⟩) (xs.length + 1) c) := (blk_cell BK_g.out 5).trans rfl
  have lf3_5 := blk_frozen BK_g.out 5
  have lc3_6 : w2.cell? ⟨g, 6, none⟩ = some (.pointer (some ⟨go, 0, none⟩)) := (blk_cell BK_g.out 6).trans rfl
  have lf3_6 := blk_frozen BK_g.out 6
  have lc3_7 : w2.cell? ⟨g, 7, none⟩ = some (.int .i64 times) := (blk_cell BK_g.out 7).trans rfl
  have lf3_7 := blk_frozen BK_g.out 7
  have lc3_8 : w2.cell? ⟨g, 8, none⟩ = some (.int .i64 last) := (blk_cell BK_g.out 8).trans rfl
  have lf3_8 := blk_frozen BK_g.out 8
  have lc3_9 : w2.cell? ⟨g, 9, none⟩ = some (.map (some m)) := (blk_cell BK_g.out 9).trans rfl
  have lf3_9 := blk_frozen BK_g.out 9
  have lc4_0 : w2.cell? ⟨go, 0, none⟩ = some (.int .i64 (ot)) := (blk_cell BK_go.out 0).trans rfl
  have lf4_0 := blk_frozen BK_go.out 0
  have lc4_1 : w2.cell? ⟨go, 1, none⟩ = some (.int .i64 (ou)) := (blk_cell BK_go.out 1).trans rfl
  have lf4_1 := blk_frozen BK_go.out 1
  have lc4_2 : w2.cell? ⟨go, 2, none⟩ = some (.int .i64 3) := (blk_cell BK_go.out 2).trans rfl
  have lf4_2 := blk_frozen BK_go.out 2
  have lc4_3 : w2.cell? ⟨go, 3, none⟩ = some (.int .i64 0) := (blk_cell BK_go.out 3).trans rfl
  have lf4_3 := blk_frozen BK_go.out 3
  have lc4_4 : w2.cell? ⟨go, 4, none⟩ = some (.int .i64 1) := (blk_cell BK_go.out 4).trans rfl
  have lf4_4 := blk_frozen BK_go.out 4
  have lc4_5 : w2.cell? ⟨go, 5, none⟩ = some (.slice none 0 0) := (blk_cell BK_go.out 5).trans rfl
  have lf4_5 := blk_frozen BK_go.out 5
  have lc4_6 : w2.cell? ⟨go, 6, none⟩ = some (.int .i64 0) := (blk_cell BK_go.out 6).trans rfl
  have lf4_6 := blk_frozen BK_go.out 6
  have lc4_7 : w2.cell? ⟨go, 7, none⟩ = some (.int .i64 0) := (blk_cell BK_go.out 7).trans rfl
  have lf4_7 := blk_frozen BK_go.out 7
  have lc4_8 : w2.cell? ⟨go, 8, none⟩ = some (.int .i64 0) := (blk_cell BK_go.out 8).trans rfl
  have lf4_8 := blk_frozen BK_go.out 8
  go_upto_region 6 with (fail)
  clear lc3_0 lf3_0 lc3_1 lf3_1 lc3_2 lf3_2 lc3_3 lf3_3 lc3_4 lf3_4 lc3_5 lf3_5 lc3_6 lf3_6 lc3_7 lf3_7 lc3_8 lf3_8 lc3_9 lf3_9 lc4_0 lf4_0 lc4_1 lf4_1 lc4_2 lf4_2 lc4_3 lf4_3 lc4_4 lf4_4 lc4_5 lf4_5 lc4_6 lf4_6 lc4_7 lf4_7 lc4_8 lf4_8
  refine start_ (n := 9) (S := fun W => W.cell? ⟨g, 7, none⟩ = some (.int .i64 times) ∧ W.cell? ⟨g, 1, none⟩ = some (.int .i64 again)) (ds := []) #[false, false, false, false, false, false, false, false, false] (by kernel_rfl) rfl rfl ?_ (fun hHeld => ?_)
  · exact ⟨(blk_cell (by (with_reducible repeat (first | refine blk_drewN ?_ _ | refine blk_drew ?_ | refine blk_alloc ?_ _)); exact BK_g.out) 7).trans rfl, (blk_cell (by (with_reducible repeat (first | refine blk_drewN ?_ _ | refine blk_drew ?_ | refine blk_alloc ?_ _)); exact BK_g.out) 1).trans rfl⟩
  refine pure_ (i := 0) (N := some 35) (v := ?_) (a' := ?_) #[true, false, false, false, false, false, false, false, false] rfl rfl (by kernel_rfl) (fun _ _ _ h => h) (Or.inl ⟨by rfl, ?_⟩) ?_ ?_
  rotate_left
  · intro w'
    go_simp
    with_reducible rfl
  rotate_left
  · simp only [Act.put, List.setIfInBounds_toArray, List.set_cons_zero, List.set_cons_succ, i64_w, i32_w]
    rfl
  refine pure_ (i := 1) (N := some 36) (v := ?_) (a' := ?_) #[true, true, false, false, false, false, false, false, false] rfl rfl (by kernel_rfl) (fun _ _ _ h => h) (Or.inl ⟨by rfl, ?_⟩) ?_ ?_
  rotate_left
  · intro w'
    go_simp
    with_reducible rfl
  rotate_left
  · simp only [Act.put, List.setIfInBounds_toArray, List.set_cons_zero, List.set_cons_succ, i64_w, i32_w]
    rfl
  refine pure_ (i := 2) (N := some 37) (v := ?_) (a' := ?_) #[true, true, true, false, false, false, false, false, false] rfl rfl (by kernel_rfl) (fun _ _ _ h => h) (Or.inl ⟨by rfl, ?_⟩) ?_ ?_
  rotate_left
  · intro w'
    go_simp
    with_reducible rfl
  rotate_left
  · simp only [Act.put, List.setIfInBounds_toArray, List.set_cons_zero, List.set_cons_succ, i64_w, i32_w]
    rfl
  refine take_ (i := 3) (N := some 38) (v := ?_) (a' := ?_) #[true, true, true, true, false, false, false, false, false] rfl rfl (by kernel_rfl) (fun _ _ _ h => h) (Or.inl ⟨by rfl, ?_⟩) hHeld ?_ ?_
  rotate_left
  · rintro w' ⟨s0, s1⟩
    go_simp
    with_reducible rfl
  rotate_left
  · simp only [Act.put, List.setIfInBounds_toArray, List.set_cons_zero, List.set_cons_succ, i64_w, i32_w]
    rfl
  refine pure_ (i := 4) (N := some 39) (v := ?_) (a' := ?_) #[true, true, true, true, true, false, false, false, false] rfl rfl (by kernel_rfl) (fun _ _ _ h => h) (Or.inl ⟨by rfl, ?_⟩) ?_ ?_
  rotate_left
  · intro w'
    go_simp
    with_reducible rfl
  rotate_left
  · simp only [Act.put, List.setIfInBounds_toArray, List.set_cons_zero, List.set_cons_succ, i64_w, i32_w]
    rfl
  refine pure_ (i := 5) (N := some 40) (v := ?_) (a' := ?_) #[true, true, true, true, true, true, false, false, false] rfl rfl (by kernel_rfl) (fun _ _ _ h => h) (Or.inl ⟨by rfl, ?_⟩) ?_ ?_
  rotate_left
  · intro w'
    go_simp
    with_reducible rfl
  rotate_left
  · simp only [Act.put, List.setIfInBounds_toArray, List.set_cons_zero, List.set_cons_succ, i64_w, i32_w]
    rfl
  refine pure_ (i := 6) (N := some 41) (v := ?_) (a' := ?_) #[true, true, true, true, true, true, true, false, false] rfl rfl (by kernel_rfl) (fun _ _ _ h => h) (Or.inl ⟨by rfl, ?_⟩) ?_ ?_
  rotate_left
  · intro w'
    go_simp
    with_reducible rfl
  rotate_left
  · simp only [Act.put, List.setIfInBounds_toArray, List.set_cons_zero, List.set_cons_succ, i64_w, i32_w]
    rfl
  refine take_ (i := 7) (N := some 42) (v := ?_) (a' := ?_) #[true, true, true, true, true, true, true, true, false] rfl rfl (by kernel_rfl) (fun _ _ _ h => h) (Or.inl ⟨by rfl, ?_⟩) hHeld ?_ ?_
  rotate_left
  · rintro w' ⟨s0, s1⟩
    go_simp
    with_reducible rfl
  rotate_left
  · simp only [Act.put, List.setIfInBounds_toArray, List.set_cons_zero, List.set_cons_succ, i64_w, i32_w]
    rfl
  refine pure_ (i := 8) (N := some 43) (v := ?_) (a' := ?_) #[true, true, true, true, true, true, true, true, true] rfl rfl (by kernel_rfl) (fun _ _ _ h => h) (Or.inl ⟨by rfl, ?_⟩) ?_ ?_
  rotate_left
  · intro w'
    go_simp
    with_reducible rfl
  rotate_left
  · simp only [Act.put, List.setIfInBounds_toArray, List.set_cons_zero, List.set_cons_succ, i64_w, i32_w]
    rfl
  refine done_ (by kernel_rfl) ?_
  generalize hwd : World.drew w2 = w3
  have HBc : Below w2.heap.size w2 w3 := (by rw [← hwd]; exact below_drew (Below.refl _ _))
  clear hwd
  have OBn_l : Aside0 (OwnE ks (fun _ => False) 39 B w3 (Value.slice (some ⟨gl, 0, none⟩) (xs.length + 1) c) ((lt, lu) :: xs)) := ⟨ks_mv OB_l.out (Ext.none_ HBc) (fun _ _ e => e)⟩
  clear OB_l
  have OB_l := OBn_l
  clear OBn_l
  have BKn_g : Aside0 (w3.heap[g]? = some (.cells #[.int .i64 wait, .int .i64 again, .int .i64 pause, .int .i64 t, .int .i64 tk, .slice (some ⟨gl, 0, none⟩) (xs.length + 1) c, .pointer (some ⟨go, 0, none⟩), .int .i64 times, .int .i64 last, .map (some m)] 73 (0, 0))) := ⟨Ext.blk (Ext.none_ HBc) BK_g.out (fun e => e)⟩
  have BKn_go : Aside0 (w3.heap[go]? = some (.cells #[.int .i64 (ot), .int .i64 (ou), .int .i64 3, .int .i64 0, .int .i64 1, .slice none 0 0, .int .i64 0, .int .i64 0, .int .i64 0] 39 (0, 0))) := ⟨Ext.blk (Ext.none_ HBc) BK_go.out (fun e => e)⟩
  have MPn_m : Aside0 (IsMap w3 m (f) (n)) := ⟨IsMap.ext MP_m.out (Ext.none_ HBc) (fun e => e)⟩
  have XTn : Aside0 (Ext (fun k => B ≤ k) w1 w3) := ⟨XT.out.stepB HBc⟩
  clear BK_g BK_go MP_m XT
  have BK_g := BKn_g
  have BK_go := BKn_go
  have MP_m := MPn_m
  have XT := XTn
  clear BKn_g BKn_go MPn_m XTn
  clear HBc
  have lc5_0 : w3.cell? ⟨g, 0, none⟩ = some (.int .i64 wait) := (blk_cell BK_g.out 0).trans rfl
  have lf5_0 := blk_frozen BK_g.out 0
  have lc5_1 : w3.cell? ⟨g, 1, none⟩ = some (.int .i64 again) := (blk_cell BK_g.out 1).trans rfl
  have lf5_1 := blk_frozen BK_g.out 1
  have lc5_2 : w3.cell? ⟨g, 2, none⟩ = some (.int .i64 pause) := (blk_cell BK_g.out 2).trans rfl
  have lf5_2 := blk_frozen BK_g.out 2
  have lc5_3 : w3.cell? ⟨g, 3, none⟩ = some (.int .i64 t) := (blk_cell BK_g.out 3).trans rfl
  have lf5_3 := blk_frozen BK_g.out 3
  have lc5_4 : w3.cell? ⟨g, 4, none⟩ = some (.int .i64 tk) := (blk_cell BK_g.out 4).trans rfl
  have lf5_4 := blk_frozen BK_g.out 4
  have lc5_5 : w3.cell? ⟨g, 5, none⟩ = some (.slice (some ⟨gl, 0, none⟩) (xs.length + 1) c) := (blk_cell BK_g.out 5).trans rfl
  have lf5_5 := blk_frozen BK_g.out 5
  have lc5_6 : w3.cell? ⟨g, 6, none⟩ = some (.pointer (some ⟨go, 0, none⟩)) := (blk_cell BK_g.out 6).trans rfl
  have lf5_6 := blk_frozen BK_g.out 6
  have lc5_7 : w3.cell? ⟨g, 7, none⟩ = some (.int .i64 times) := (blk_cell BK_g.out 7).trans rfl
  have lf5_7 := blk_frozen BK_g.out 7
  have lc5_8 : w3.cell? ⟨g, 8, none⟩ = some (.int .i64 last) := (blk_cell BK_g.out 8).trans rfl
  have lf5_8 := blk_frozen BK_g.out 8
  have lc5_9 : w3.cell? ⟨g, 9, none⟩ = some (.map (some m)) := (blk_cell BK_g.out 9).trans rfl
  have lf5_9 := blk_frozen BK_g.out 9
  have lc6_0 : w3.cell? ⟨go, 0, none⟩ = some (.int .i64 (ot)) := (blk_cell BK_go.out 0).trans rfl
  have lf6_0 := blk_frozen BK_go.out 0
  have lc6_1 : w3.cell? ⟨go, 1, none⟩ = some (.int .i64 (ou)) := (blk_cell BK_go.out 1).trans rfl
  have lf6_1 := blk_frozen BK_go.out 1
  have lc6_2 : w3.cell? ⟨go, 2, none⟩ = some (.int .i64 3) := (blk_cell BK_go.out 2).trans rfl
  have lf6_2 := blk_frozen BK_go.out 2
  have lc6_3 : w3.cell? ⟨go, 3, none⟩ = some (.int .i64 0) := (blk_cell BK_go.out 3).trans rfl
  have lf6_3 := blk_frozen BK_go.out 3
  have lc6_4 : w3.cell? ⟨go, 4, none⟩ = some (.int .i64 1) := (blk_cell BK_go.out 4).trans rfl
  have lf6_4 := blk_frozen BK_go.out 4
  have lc6_5 : w3.cell? ⟨go, 5, none⟩ = some (.slice none 0 0) := (blk_cell BK_go.out 5).trans rfl
  have lf6_5 := blk_frozen BK_go.out 5
  have lc6_6 : w3.cell? ⟨go, 6, none⟩ = some (.int .i64 0) := (blk_cell BK_go.out 6).trans rfl
  have lf6_6 := blk_frozen BK_go.out 6
  have lc6_7 : w3.cell? ⟨go, 7, none⟩ = some (.int .i64 0) := (blk_cell BK_go.out 7).trans rfl
  have lf6_7 := blk_frozen BK_go.out 7
  have lc6_8 : w3.cell? ⟨go, 8, none⟩ = some (.int .i64 0) := (blk_cell BK_go.out 8).trans rfl
  have lf6_8 := blk_frozen BK_go.out 8
  go_upto_region 9 with (((with_reducible refine gate_builtin (b := .append) (xs := #[.tmp 47, .tmp 56]) rfl ?_); refine ev_append kd (M := fun _ => False) (w0 := w3) B rfl (.tmp 47) (.tmp 56) 35 48 (.agg #[.int .i64 0, .slice none 0 0, .int .i64 0, .bool false]) 48 rfl Try.underlying35 info48 rfl (by decide) (by decide) (.slice none 0 0) [] ot [.int .i64 (ot), .slice none 0 0, .int .i64 0, .bool true] rfl rfl (OwnE.nil _ _ _ _ _) (Ever.triv (p := _ = dc _) rfl) (Below.refl _ _) (Nat.le_trans HBW.out XT.out.size) (by simp) ?_; intro v9 w4 HO9 HB9 hg9 hat9; have HBc : Below w3.heap.size w3 w4 := ⟨hg9.os, hg9.tape, hg9.output, hg9.size, fun i hi => hg9.block i hi (by simp [Value.ownBlock])⟩; have OBn_l : Aside0 (OwnE ks (fun _ => False) 39 B w4 (Value.slice (some ⟨gl, 0, none⟩) (xs.length + 1) c) ((lt, lu) :: xs)) := ⟨ks_mv OB_l.out (Ext.none_ HBc) (fun _ _ e => e)⟩; clear OB_l; have OB_l := OBn_l; clear OBn_l; clear lc5_0 lf5_0 lc5_1 lf5_1 lc5_2 lf5_2 lc5_3 lf5_3 lc5_4 lf5_4 lc5_5 lf5_5 lc5_6 lf5_6 lc5_7 lf5_7 lc5_8 lf5_8 lc5_9 lf5_9 lc6_0 lf6_0 lc6_1 lf6_1 lc6_2 lf6_2 lc6_3 lf6_3 lc6_4 lf6_4 lc6_5 lf6_5 lc6_6 lf6_6 lc6_7 lf6_7 lc6_8 lf6_8; have BKn_g : Aside0 (w4.heap[g]? = some (.cells #[.int .i64 wait, .int .i64 again, .int .i64 pause, .int .i64 t, .int .i64 tk, .slice (some ⟨gl, 0, none⟩) (xs.length + 1) c, .pointer (some ⟨go, 0, none⟩), .int .i64 times, .int .i64 last, .map (some m)] 73 (0, 0))) := ⟨Ext.blk (Ext.none_ HBc) BK_g.out (fun e => e)⟩; have BKn_go : Aside0 (w4.heap[go]? = some (.cells #[.int .i64 (ot), .int .i64 (ou), .int .i64 3, .int .i64 0, .int .i64 1, .slice none 0 0, .int .i64 0, .int .i64 0, .int .i64 0] 39 (0, 0))) := ⟨Ext.blk (Ext.none_ HBc) BK_go.out (fun e => e)⟩; have MPn_m : Aside0 (IsMap w4 m (f) (n)) := ⟨IsMap.ext MP_m.out (Ext.none_ HBc) (fun e => e)⟩; have XTn : Aside0 (Ext (fun k => B ≤ k) w1 w4) := ⟨XT.out.stepB HBc⟩; clear BK_g BK_go MP_m XT; have BK_g := BKn_g; have BK_go := BKn_go; have MP_m := MPn_m; have XT := XTn; clear BKn_g BKn_go MPn_m XTn; have OB_d : Aside0 (OwnE kd (fun _ => False) 48 B w4 v9 ([ot])) := ⟨HO9⟩; have NE_d_g : Aside0 (∀ k, (v9).ownBlock = some k → k ≠ g) := ⟨kd_ne HO9 BK_g.out (by decide)⟩; have NE_d_m : Aside0 (∀ k, (v9).ownBlock = some k → k ≠ m) := ⟨kd_nm HO9 MP_m.out⟩; clear HO9 HB9 hg9 hat9 HBc))
  refine start_ (n := 18) (S := fun W => W.cell? ⟨g, 9, none⟩ = some (.map (some m)) ∧ W.cell? ⟨g, 6, none⟩ = some (.pointer (some ⟨go, 0, none⟩)) ∧ W.cell? ⟨g, 2, none⟩ = some (.int .i64 pause) ∧ W.cell? ⟨go, 1, none⟩ = some (.int .i64 (ou))) (ds := [17]) #[false, false, false, false, false, false, false, false, false, false, false, false, false, false, false, false, false, false] (by kernel_rfl) rfl rfl ?_ (fun hHeld => ?_)
  · exact ⟨(blk_cell (by (with_reducible repeat (first | refine blk_drewN ?_ _ | refine blk_drew ?_ | refine blk_alloc ?_ _)); exact BK_g.out) 9).trans rfl, (blk_cell (by (with_reducible repeat (first | refine blk_drewN ?_ _ | refine blk_drew ?_ | refine blk_alloc ?_ _)); exact BK_g.out) 6).trans rfl, (blk_cell (by (with_reducible repeat (first | refine blk_drewN ?_ _ | refine blk_drew ?_ | refine blk_alloc ?_ _)); exact BK_g.out) 2).trans rfl, (blk_cell (by (with_reducible repeat (first | refine blk_drewN ?_ _ | refine blk_drew ?_ | refine blk_alloc ?_ _)); exact BK_go.out) 1).trans rfl⟩
  refine pure_ (i := 0) (N := some 58) (v := ?_) (a' := ?_) #[true, false, false, false, false, false, false, false, false, false, false, false, false, false, false, false, false, false] rfl rfl (by kernel_rfl) (fun _ _ _ h => h) (Or.inl ⟨by rfl, ?_⟩) ?_ ?_
  rotate_left
  · intro w'
    go_simp
    with_reducible rfl
  rotate_left
  · simp only [Act.put, List.setIfInBounds_toArray, List.set_cons_zero, List.set_cons_succ, i64_w, i32_w]
    rfl
  refine pure_ (i := 1) (N := some 59) (v := ?_) (a' := ?_) #[true, true, false, false, false, false, false, false, false, false, false, false, false, false, false, false, false, false] rfl rfl (by kernel_rfl) (fun _ _ _ h => h) (Or.inl ⟨by rfl, ?_⟩) ?_ ?_
  rotate_left
  · intro w'
    go_simp
    with_reducible rfl
  rotate_left
  · simp only [Act.put, List.setIfInBounds_toArray, List.set_cons_zero, List.set_cons_succ, i64_w, i32_w]
    rfl
  refine pure_ (i := 2) (N := some 60) (v := ?_) (a' := ?_) #[true, true, true, false, false, false, false, false, false, false, false, false, false, false, false, false, false, false] rfl rfl (by kernel_rfl) (fun _ _ _ h => h) (Or.inl ⟨by rfl, ?_⟩) ?_ ?_
  rotate_left
  · intro w'
    go_simp
    with_reducible rfl
  rotate_left
  · simp only [Act.put, List.setIfInBounds_toArray, List.set_cons_zero, List.set_cons_succ, i64_w, i32_w]
    rfl
  refine take_ (i := 3) (N := some 61) (v := ?_) (a' := ?_) #[true, true, true, true, false, false, false, false, false, false, false, false, false, false, false, false, false, false] rfl rfl (by kernel_rfl) (fun _ _ _ h => h) (Or.inl ⟨by rfl, ?_⟩) hHeld ?_ ?_
  rotate_left
  · rintro w' ⟨s0, s1, s2, s3⟩
    go_simp
    with_reducible rfl
  rotate_left
  · simp only [Act.put, List.setIfInBounds_toArray, List.set_cons_zero, List.set_cons_succ, i64_w, i32_w]
    rfl
  refine pure_ (i := 4) (N := some 62) (v := ?_) (a' := ?_) #[true, true, true, true, true, false, false, false, false, false, false, false, false, false, false, false, false, false] rfl rfl (by kernel_rfl) (fun _ _ _ h => h) (Or.inl ⟨by rfl, ?_⟩) ?_ ?_
  rotate_left
  · intro w'
    go_simp
    with_reducible rfl
  rotate_left
  · simp only [Act.put, List.setIfInBounds_toArray, List.set_cons_zero, List.set_cons_succ, i64_w, i32_w]
    rfl
  refine pure_ (i := 5) (N := some 63) (v := ?_) (a' := ?_) #[true, true, true, true, true, true, false, false, false, false, false, false, false, false, false, false, false, false] rfl rfl (by kernel_rfl) (fun _ _ _ h => h) (Or.inl ⟨by rfl, ?_⟩) ?_ ?_
  rotate_left
  · intro w'
    go_simp
    with_reducible rfl
  rotate_left
  · simp only [Act.put, List.setIfInBounds_toArray, List.set_cons_zero, List.set_cons_succ, i64_w, i32_w]
    rfl
  refine pure_ (i := 6) (N := some 64) (v := ?_) (a' := ?_) #[true, true, true, true, true, true, true, false, false, false, false, false, false, false, false, false, false, false] rfl rfl (by kernel_rfl) (fun _ _ _ h => h) (Or.inl ⟨by rfl, ?_⟩) ?_ ?_
  rotate_left
  · intro w'
    go_simp
    with_reducible rfl
  rotate_left
  · simp only [Act.put, List.setIfInBounds_toArray, List.set_cons_zero, List.set_cons_succ, i64_w, i32_w]
    rfl
  refine take_ (i := 7) (N := some 65) (v := ?_) (a' := ?_) #[true, true, true, true, true, true, true, true, false, false, false, false, false, false, false, false, false, false] rfl rfl (by kernel_rfl) (fun _ _ _ h => h) (Or.inl ⟨by rfl, ?_⟩) hHeld ?_ ?_
  rotate_left
  · rintro w' ⟨s0, s1, s2, s3⟩
    go_simp
    with_reducible rfl
  rotate_left
  · simp only [Act.put, List.setIfInBounds_toArray, List.set_cons_zero, List.set_cons_succ, i64_w, i32_w]
    rfl
  refine pure_ (i := 8) (N := some 66) (v := ?_) (a' := ?_) #[true, true, true, true, true, true, true, true, true, false, false, false, false, false, false, false, false, false] rfl rfl (by kernel_rfl) (fun _ _ _ h => h) (Or.inl ⟨by rfl, ?_⟩) ?_ ?_
  rotate_left
  · intro w'
    go_simp
    with_reducible rfl
  rotate_left
  · simp only [Act.put, List.setIfInBounds_toArray, List.set_cons_zero, List.set_cons_succ, i64_w, i32_w]
    rfl
  refine pure_ (i := 9) (N := some 67) (v := ?_) (a' := ?_) #[true, true, true, true, true, true, true, true, true, true, false, false, false, false, false, false, false, false] rfl rfl (by kernel_rfl) (fun _ _ _ h => h) (Or.inl ⟨by rfl, ?_⟩) ?_ ?_
  rotate_left
  · intro w'
    go_simp
    with_reducible rfl
  rotate_left
  · simp only [Act.put, List.setIfInBounds_toArray, List.set_cons_zero, List.set_cons_succ, i64_w, i32_w]
    rfl
  refine take_ (i := 10) (N := some 68) (v := ?_) (a' := ?_) #[true, true, true, true, true, true, true, true, true, true, true, false, false, false, false, false, false, false] rfl rfl (by kernel_rfl) (fun _ _ _ h => h) (Or.inl ⟨by rfl, ?_⟩) hHeld ?_ ?_
  rotate_left
  · rintro w' ⟨s0, s1, s2, s3⟩
    go_simp
    with_reducible rfl
  rotate_left
  · simp only [Act.put, List.setIfInBounds_toArray, List.set_cons_zero, List.set_cons_succ, i64_w, i32_w]
    rfl
  refine pure_ (i := 11) (N := some 69) (v := ?_) (a' := ?_) #[true, true, true, true, true, true, true, true, true, true, true, true, false, false, false, false, false, false] rfl rfl (by kernel_rfl) (fun _ _ _ h => h) (Or.inl ⟨by rfl, ?_⟩) ?_ ?_
  rotate_left
  · intro w'
    go_simp
    with_reducible rfl
  rotate_left
  · simp only [Act.put, List.setIfInBounds_toArray, List.set_cons_zero, List.set_cons_succ, i64_w, i32_w]
    rfl
  refine pure_ (i := 12) (N := some 70) (v := ?_) (a' := ?_) #[true, true, true, true, true, true, true, true, true, true, true, true, true, false, false, false, false, false] rfl rfl (by kernel_rfl) (fun _ _ _ h => h) (Or.inl ⟨by rfl, ?_⟩) ?_ ?_
  rotate_left
  · intro w'
    go_simp
    with_reducible rfl
  rotate_left
  · simp only [Act.put, List.setIfInBounds_toArray, List.set_cons_zero, List.set_cons_succ, i64_w, i32_w]
    rfl
  refine pure_ (i := 13) (N := some 71) (v := ?_) (a' := ?_) #[true, true, true, true, true, true, true, true, true, true, true, true, true, true, false, false, false, false] rfl rfl (by kernel_rfl) (fun _ _ _ h => h) (Or.inl ⟨by rfl, ?_⟩) ?_ ?_
  rotate_left
  · intro w'
    go_simp
    with_reducible rfl
  rotate_left
  · simp only [Act.put, List.setIfInBounds_toArray, List.set_cons_zero, List.set_cons_succ, i64_w, i32_w]
    rfl
  refine pure_ (i := 14) (N := some 72) (v := ?_) (a' := ?_) #[true, true, true, true, true, true, true, true, true, true, true, true, true, true, true, false, false, false] rfl rfl (by kernel_rfl) (fun _ _ _ h => h) (Or.inl ⟨by rfl, ?_⟩) ?_ ?_
  rotate_left
  · intro w'
    go_simp
    with_reducible rfl
  rotate_left
  · simp only [Act.put, List.setIfInBounds_toArray, List.set_cons_zero, List.set_cons_succ, i64_w, i32_w]
    rfl
  refine take_ (i := 15) (N := some 73) (v := ?_) (a' := ?_) #[true, true, true, true, true, true, true, true, true, true, true, true, true, true, true, true, false, false] rfl rfl (by kernel_rfl) (fun _ _ _ h => h) (Or.inl ⟨by rfl, ?_⟩) hHeld ?_ ?_
  rotate_left
  · rintro w' ⟨s0, s1, s2, s3⟩
    go_simp
    with_reducible rfl
  rotate_left
  · simp only [Act.put, List.setIfInBounds_toArray, List.set_cons_zero, List.set_cons_succ, i64_w, i32_w]
    rfl
  refine pure_ (i := 16) (N := some 74) (v := ?_) (a' := ?_) #[true, true, true, true, true, true, true, true, true, true, true, true, true, true, true, true, true, false] rfl rfl (by kernel_rfl) (fun _ _ _ h => h) (Or.inl ⟨by rfl, ?_⟩) ?_ ?_
  rotate_left
  · intro w'
    go_simp
    with_reducible rfl
  rotate_left
  · simp only [Act.put, List.setIfInBounds_toArray, List.set_cons_zero, List.set_cons_succ, i64_w, i32_w]
    rfl
  refine last_ (i := 17) (N := none) #[true, true, true, true, true, true, true, true, true, true, true, true, true, true, true, true, true, true] rfl rfl (by kernel_rfl) (by decide) (fun K hK => ?_)
  refine upd_step (k := ou) (v := .int .i64 (wrap64 (t + pause))) (by rfl) rfl rfl (MP_m.out.ext (Ext.none_ (by repeat (first | exact Below.refl _ _ | apply pw_below_drewN | apply below_drew1))) (fun e => e)) Try.underlying70 Try.underlying3 ?hx ?hy ?hz ?_
  case hx => rfl
  case hy => rfl
  case hz => rfl
  intro w5 hup HEc0
  have HEc : Ext (fun k => k = m) w4 w5 := (Ext.of_below (by repeat (first | exact Below.refl _ _ | apply pw_below_drewN | apply below_drew1))).trans HEc0
  clear HEc0
  have OBn_l : Aside0 (OwnE ks (fun _ => False) 39 B w5 (Value.slice (some ⟨gl, 0, none⟩) (xs.length + 1) c) ((lt, lu) :: xs)) := ⟨ks_mv OB_l.out HEc NE_l_m.out⟩
  have OBn_d : Aside0 (OwnE kd (fun _ => False) 48 B w5 v9 ([ot])) := ⟨kd_mv OB_d.out HEc NE_d_m.out⟩
  clear OB_l OB_d
  have OB_l := OBn_l
  have OB_d := OBn_d
  clear OBn_l OBn_d
  have BKn_g : Aside0 (w5.heap[g]? = some (.cells #[.int .i64 wait, .int .i64 again, .int .i64 pause, .int .i64 t, .int .i64 tk, .slice (some ⟨gl, 0, none⟩) (xs.length + 1) c, .pointer (some ⟨go, 0, none⟩), .int .i64 times, .int .i64 last, .map (some m)] 73 (0, 0))) := ⟨Ext.blk HEc BK_g.out NE_g_m.out⟩
  have BKn_go : Aside0 (w5.heap[go]? = some (.cells #[.int .i64 (ot), .int .i64 (ou), .int .i64 3, .int .i64 0, .int .i64 1, .slice none 0 0, .int .i64 0, .int .i64 0, .int .i64 0] 39 (0, 0))) := ⟨Ext.blk HEc BK_go.out NE_go_m.out⟩
  have XTn : Aside0 (Ext (fun k => B ≤ k) w1 w5) := ⟨XT.out.step HEc (F_m.out)⟩
  clear BK_g BK_go XT
  have BK_g := BKn_g
  have BK_go := BKn_go
  have XT := XTn
  clear BKn_g BKn_go XTn
  clear MP_m
  have MP_m : Aside0 (IsMap w5 m (fun j => if j = ou then some (.int .i64 (wrap64 (t + pause))) else f j) (n + 1)) := ⟨hup⟩
  have HFn := Aside0.mk (upd_hf HF.out ou (wrap64 (t + pause)))
  clear HF hup HEc
  have HF := HFn; clear HFn
  refine hK.out _ _ ?_
  clear hK K
  refine done_ (by kernel_rfl) ?_
  have lc7_0 : w5.cell? ⟨g, 0, none⟩ = some (.int .i64 wait) := (blk_cell BK_g.out 0).trans rfl
  have lf7_0 := blk_frozen BK_g.out 0
  have lc7_1 : w5.cell? ⟨g, 1, none⟩ = some (.int .i64 again) := (blk_cell BK_g.out 1).trans rfl
  have lf7_1 := blk_frozen BK_g.out 1
  have lc7_2 : w5.cell? ⟨g, 2, none⟩ = some (.int .i64 pause) := (blk_cell BK_g.out 2).trans rfl
  have lf7_2 := blk_frozen BK_g.out 2
  have lc7_3 : w5.cell? ⟨g, 3, none⟩ = some (.int .i64 t) := (blk_cell BK_g.out 3).trans rfl
  have lf7_3 := blk_frozen BK_g.out 3
  have lc7_4 : w5.cell? ⟨g, 4, none⟩ = some (.int .i64 tk) := (blk_cell BK_g.out 4).trans rfl
  have lf7_4 := blk_frozen BK_g.out 4
  have lc7_5 : w5.cell? ⟨g, 5, none⟩ = some (.slice (some ⟨gl, 0, none⟩) (xs.length + 1) c) := (blk_cell BK_g.out 5).trans rfl
  have lf7_5 := blk_frozen BK_g.out 5
  have lc7_6 : w5.cell? ⟨g, 6, none⟩ = some (.pointer (some ⟨go, 0, none⟩)) := (blk_cell BK_g.out 6).trans rfl
  have lf7_6 := blk_frozen BK_g.out 6
  have lc7_7 : w5.cell? ⟨g, 7, none⟩ = some (.int .i64 times) := (blk_cell BK_g.out 7).trans rfl
  have lf7_7 := blk_frozen BK_g.out 7
  have lc7_8 : w5.cell? ⟨g, 8, none⟩ = some (.int .i64 last) := (blk_cell BK_g.out 8).trans rfl
  have lf7_8 := blk_frozen BK_g.out 8
  have lc7_9 : w5.cell? ⟨g, 9, none⟩ = some (.map (some m)) := (blk_cell BK_g.out 9).trans rfl
  have lf7_9 := blk_frozen BK_g.out 9
  have lc8_0 : w5.cell? ⟨go, 0, none⟩ = some (.int .i64 (ot)) := (blk_cell BK_go.out 0).trans rfl
  have lf8_0 := blk_frozen BK_go.out 0
  have lc8_1 : w5.cell? ⟨go, 1, none⟩ = some (.int .i64 (ou)) := (blk_cell BK_go.out 1).trans rfl
  have lf8_1 := blk_frozen BK_go.out 1
  have lc8_2 : w5.cell? ⟨go, 2, none⟩ = some (.int .i64 3) := (blk_cell BK_go.out 2).trans rfl
  have lf8_2 := blk_frozen BK_go.out 2
  have lc8_3 : w5.cell? ⟨go, 3, none⟩ = some (.int .i64 0) := (blk_cell BK_go.out 3).trans rfl
  have lf8_3 := blk_frozen BK_go.out 3
  have lc8_4 : w5.cell? ⟨go, 4, none⟩ = some (.int .i64 1) := (blk_cell BK_go.out 4).trans rfl
  have lf8_4 := blk_frozen BK_go.out 4
  have lc8_5 : w5.cell? ⟨go, 5, none⟩ = some (.slice none 0 0) := (blk_cell BK_go.out 5).trans rfl
  have lf8_5 := blk_frozen BK_go.out 5
  have lc8_6 : w5.cell? ⟨go, 6, none⟩ = some (.int .i64 0) := (blk_cell BK_go.out 6).trans rfl
  have lf8_6 := blk_frozen BK_go.out 6
  have lc8_7 : w5.cell? ⟨go, 7, none⟩ = some (.int .i64 0) := (blk_cell BK_go.out 7).trans rfl
  have lf8_7 := blk_frozen BK_go.out 7
  have lc8_8 : w5.cell? ⟨go, 8, none⟩ = some (.int .i64 0) := (blk_cell BK_go.out 8).trans rfl
  have lf8_8 := blk_frozen BK_go.out 8
  go_wp2_with (((with_reducible refine gate_store (p := 77) rfl ?_); refine store_event (w1 := ?_) rfl (p := 77) rfl rfl ?hr ?_; rotate_left; (case hr => go_simp; rfl); intro w6 hw_; obtain ⟨hput, HEc⟩ := put1 (cs' := #[.int .i64 wait, .int .i64 again, .int .i64 pause, .int .i64 t, .int .i64 tk, .slice (some ⟨gl, 0, none⟩) (xs.length + 1) c, .pointer none, .int .i64 times, .int .i64 last, .map (some m)]) hw_ BK_g.out rfl; clear hw_; have OBn_l : Aside0 (OwnE ks (fun _ => False) 39 B w6 (Value.slice (some ⟨gl, 0, none⟩) (xs.length + 1) c) ((lt, lu) :: xs)) := ⟨ks_mv OB_l.out HEc NE_l_g.out⟩; have OBn_d : Aside0 (OwnE kd (fun _ => False) 48 B w6 v9 ([ot])) := ⟨kd_mv OB_d.out HEc NE_d_g.out⟩; clear OB_l OB_d; have OB_l := OBn_l; have OB_d := OBn_d; clear OBn_l OBn_d; clear lc7_0 lf7_0 lc7_1 lf7_1 lc7_2 lf7_2 lc7_3 lf7_3 lc7_4 lf7_4 lc7_5 lf7_5 lc7_6 lf7_6 lc7_7 lf7_7 lc7_8 lf7_8 lc7_9 lf7_9 lc8_0 lf8_0 lc8_1 lf8_1 lc8_2 lf8_2 lc8_3 lf8_3 lc8_4 lf8_4 lc8_5 lf8_5 lc8_6 lf8_6 lc8_7 lf8_7 lc8_8 lf8_8; have BKn_go : Aside0 (w6.heap[go]? = some (.cells #[.int .i64 (ot), .int .i64 (ou), .int .i64 3, .int .i64 0, .int .i64 1, .slice none 0 0, .int .i64 0, .int .i64 0, .int .i64 0] 39 (0, 0))) := ⟨Ext.blk HEc BK_go.out NE_go_g.out⟩; have MPn_m : Aside0 (IsMap w6 m (fun j => if j = ou then some (.int .i64 (wrap64 (t + pause))) else f j) (n + 1)) := ⟨IsMap.ext MP_m.out HEc NE_m_g.out⟩; have XTn : Aside0 (Ext (fun k => B ≤ k) w1 w6) := ⟨XT.out.step HEc (F_g.out)⟩; clear BK_go MP_m XT; have BK_go := BKn_go; have MP_m := MPn_m; have XT := XTn; clear BKn_go MPn_m XTn; clear BK_g; have BK_g : Aside0 (w6.heap[g]? = some (.cells #[.int .i64 wait, .int .i64 again, .int .i64 pause, .int .i64 t, .int .i64 tk, .slice (some ⟨gl, 0, none⟩) (xs.length + 1) c, .pointer none, .int .i64 times, .int .i64 last, .map (some m)] 73 (0, 0))) := ⟨hput⟩; clear hput HEc; have lc9_0 : w6.cell? ⟨g, 0, none⟩ = some (.int .i64 wait) := (blk_cell BK_g.out 0).trans rfl; have lf9_0 := blk_frozen BK_g.out 0; have lc9_1 : w6.cell? ⟨g, 1, none⟩ = some (.int .i64 again) := (blk_cell BK_g.out 1).trans rfl; have lf9_1 := blk_frozen BK_g.out 1; have lc9_2 : w6.cell? ⟨g, 2, none⟩ = some (.int .i64 pause) := (blk_cell BK_g.out 2).trans rfl; have lf9_2 := blk_frozen BK_g.out 2; have lc9_3 : w6.cell? ⟨g, 3, none⟩ = some (.int .i64 t) := (blk_cell BK_g.out 3).trans rfl; have lf9_3 := blk_frozen BK_g.out 3; have lc9_4 : w6.cell? ⟨g, 4, none⟩ = some (.int .i64 tk) := (blk_cell BK_g.out 4).trans rfl; have lf9_4 := blk_frozen BK_g.out 4; have lc9_5 : w6.cell? ⟨g, 5, none⟩ = some (.slice (some ⟨gl, 0, none⟩) (xs.length + 1) c) := (blk_cell BK_g.out 5).trans rfl; have lf9_5 := blk_frozen BK_g.out 5; have lc9_6 : w6.cell? ⟨g, 6, none⟩ = some (.pointer none) := (blk_cell BK_g.out 6).trans rfl; have lf9_6 := blk_frozen BK_g.out 6; have lc9_7 : w6.cell? ⟨g, 7, none⟩ = some (.int .i64 times) := (blk_cell BK_g.out 7).trans rfl; have lf9_7 := blk_frozen BK_g.out 7; have lc9_8 : w6.cell? ⟨g, 8, none⟩ = some (.int .i64 last) := (blk_cell BK_g.out 8).trans rfl; have lf9_8 := blk_frozen BK_g.out 8; have lc9_9 : w6.cell? ⟨g, 9, none⟩ = some (.map (some m)) := (blk_cell BK_g.out 9).trans rfl; have lf9_9 := blk_frozen BK_g.out 9; have lc10_0 : w6.cell? ⟨go, 0, none⟩ = some (.int .i64 (ot)) := (blk_cell BK_go.out 0).trans rfl; have lf10_0 := blk_frozen BK_go.out 0; have lc10_1 : w6.cell? ⟨go, 1, none⟩ = some (.int .i64 (ou)) := (blk_cell BK_go.out 1).trans rfl; have lf10_1 := blk_frozen BK_go.out 1; have lc10_2 : w6.cell? ⟨go, 2, none⟩ = some (.int .i64 3) := (blk_cell BK_go.out 2).trans rfl; have lf10_2 := blk_frozen BK_go.out 2; have lc10_3 : w6.cell? ⟨go, 3, none⟩ = some (.int .i64 0) := (blk_cell BK_go.out 3).trans rfl; have lf10_3 := blk_frozen BK_go.out 3; have lc10_4 : w6.cell? ⟨go, 4, none⟩ = some (.int .i64 1) := (blk_cell BK_go.out 4).trans rfl; have lf10_4 := blk_frozen BK_go.out 4; have lc10_5 : w6.cell? ⟨go, 5, none⟩ = some (.slice none 0 0) := (blk_cell BK_go.out 5).trans rfl; have lf10_5 := blk_frozen BK_go.out 5; have lc10_6 : w6.cell? ⟨go, 6, none⟩ = some (.int .i64 0) := (blk_cell BK_go.out 6).trans rfl; have lf10_6 := blk_frozen BK_go.out 6; have lc10_7 : w6.cell? ⟨go, 7, none⟩ = some (.int .i64 0) := (blk_cell BK_go.out 7).trans rfl; have lf10_7 := blk_frozen BK_go.out 7; have lc10_8 : w6.cell? ⟨go, 8, none⟩ = some (.int .i64 0) := (blk_cell BK_go.out 8).trans rfl; have lf10_8 := blk_frozen BK_go.out 8))
  go_step3
  clear lc9_0 lf9_0 lc9_1 lf9_1 lc9_2 lf9_2 lc9_3 lf9_3 lc9_4 lf9_4 lc9_5 lf9_5 lc9_6 lf9_6 lc9_7 lf9_7 lc9_8 lf9_8 lc9_9 lf9_9 lc10_0 lf10_0 lc10_1 lf10_1 lc10_2 lf10_2 lc10_3 lf10_3 lc10_4 lf10_4 lc10_5 lf10_5 lc10_6 lf10_6 lc10_7 lf10_7 lc10_8 lf10_8
  clear BK_go NE_l_go NE_go_g NE_g_go NE_go_m NE_m_go BGO
  have lc11_0 : w6.cell? ⟨g, 0, none⟩ = some (.int .i64 wait) := (blk_cell BK_g.out 0).trans rfl
  have lf11_0 := blk_frozen BK_g.out 0
  have lc11_1 : w6.cell? ⟨g, 1, none⟩ = some (.int .i64 again) := (blk_cell BK_g.out 1).trans rfl
  have lf11_1 := blk_frozen BK_g.out 1
  have lc11_2 : w6.cell? ⟨g, 2, none⟩ = some (.int .i64 pause) := (blk_cell BK_g.out 2).trans rfl
  have lf11_2 := blk_frozen BK_g.out 2
  have lc11_3 : w6.cell? ⟨g, 3, none⟩ = some (.int .i64 t) := (blk_cell BK_g.out 3).trans rfl
  have lf11_3 := blk_frozen BK_g.out 3
  have lc11_4 : w6.cell? ⟨g, 4, none⟩ = some (.int .i64 tk) := (blk_cell BK_g.out 4).trans rfl
  have lf11_4 := blk_frozen BK_g.out 4
  have lc11_5 : w6.cell? ⟨g, 5, none⟩ = some (.slice (some ⟨gl, 0, none⟩) (xs.length + 1) c) := (blk_cell BK_g.out 5).trans rfl
  have lf11_5 := blk_frozen BK_g.out 5
  have lc11_6 : w6.cell? ⟨g, 6, none⟩ = some (.pointer none) := (blk_cell BK_g.out 6).trans rfl
  have lf11_6 := blk_frozen BK_g.out 6
  have lc11_7 : w6.cell? ⟨g, 7, none⟩ = some (.int .i64 times) := (blk_cell BK_g.out 7).trans rfl
  have lf11_7 := blk_frozen BK_g.out 7
  have lc11_8 : w6.cell? ⟨g, 8, none⟩ = some (.int .i64 last) := (blk_cell BK_g.out 8).trans rfl
  have lf11_8 := blk_frozen BK_g.out 8
  have lc11_9 : w6.cell? ⟨g, 9, none⟩ = some (.map (some m)) := (blk_cell BK_g.out 9).trans rfl
  have lf11_9 := blk_frozen BK_g.out 9
  go_wp2_with (fail)
  go_loopw [89] (fun v wr => v = .int .i64 0 ∧ Aside0 (wr.heap[g]? = some (.cells #[.int .i64 wait, .int .i64 again, .int .i64 pause, .int .i64 t, .int .i64 tk, .slice (some ⟨gl, 0, none⟩) (xs.length + 1) c, .pointer none, .int .i64 times, .int .i64 last, .map (some m)] 73 (0, 0))) ∧ Aside0 (IsMap wr m (fun j => if j = ou then some (.int .i64 (wrap64 (t + pause))) else f j) (n + 1)) ∧ Aside0 (Ext (fun k => B ≤ k) w1 wr) ∧ Aside0 (OwnE ks (fun _ => False) 39 B wr (Value.slice (some ⟨gl, 0, none⟩) (xs.length + 1) c) ((lt, lu) :: xs)) ∧ Aside0 (OwnE kd (fun _ => False) 48 B wr v9 ([ot]))) (fun _ _ => 0)
  case atStart => exact ⟨rfl, BK_g, MP_m, XT, OB_l, OB_d⟩
  case round =>
    clear BK_g MP_m XT OB_l OB_d lc11_0 lf11_0 lc11_1 lf11_1 lc11_2 lf11_2 lc11_3 lf11_3 lc11_4 lf11_4 lc11_5 lf11_5 lc11_6 lf11_6 lc11_7 lf11_7 lc11_8 lf11_8 lc11_9 lf11_9
    obtain ⟨hv, BK_g, MP_m, XT, OB_l, OB_d⟩ := hrel
    subst hv
    have lc12_0 : wr.cell? ⟨g, 0, none⟩ = some (.int .i64 wait) := (blk_cell BK_g.out 0).trans rfl
    have lf12_0 := blk_frozen BK_g.out 0
    have lc12_1 : wr.cell? ⟨g, 1, none⟩ = some (.int .i64 again) := (blk_cell BK_g.out 1).trans rfl
    have lf12_1 := blk_frozen BK_g.out 1
    have lc12_2 : wr.cell? ⟨g, 2, none⟩ = some (.int .i64 pause) := (blk_cell BK_g.out 2).trans rfl
    have lf12_2 := blk_frozen BK_g.out 2
    have lc12_3 : wr.cell? ⟨g, 3, none⟩ = some (.int .i64 t) := (blk_cell BK_g.out 3).trans rfl
    have lf12_3 := blk_frozen BK_g.out 3
    have lc12_4 : wr.cell? ⟨g, 4, none⟩ = some (.int .i64 tk) := (blk_cell BK_g.out 4).trans rfl
    have lf12_4 := blk_frozen BK_g.out 4
    have lc12_5 : wr.cell? ⟨g, 5, none⟩ = some (.slice (some ⟨gl, 0, none⟩) (xs.length + 1) c) := (blk_cell BK_g.out 5).trans rfl
    have lf12_5 := blk_frozen BK_g.out 5
    have lc12_6 : wr.cell? ⟨g, 6, none⟩ = some (.pointer none) := (blk_cell BK_g.out 6).trans rfl
    have lf12_6 := blk_frozen BK_g.out 6
    have lc12_7 : wr.cell? ⟨g, 7, none⟩ = some (.int .i64 times) := (blk_cell BK_g.out 7).trans rfl
    have lf12_7 := blk_frozen BK_g.out 7
    have lc12_8 : wr.cell? ⟨g, 8, none⟩ = some (.int .i64 last) := (blk_cell BK_g.out 8).trans rfl
    have lf12_8 := blk_frozen BK_g.out 8
    have lc12_9 : wr.cell? ⟨g, 9, none⟩ = some (.map (some m)) := (blk_cell BK_g.out 9).trans rfl
    have lf12_9 := blk_frozen BK_g.out 9
    have lr0 : wr.cell? ⟨gl, 0, none⟩ = some (.int .i64 (lt)) := row0v OB_l.out 0 _ rfl
    have lr1 : wr.cell? ⟨gl, 1, none⟩ = some (.int .i64 (lu)) := row0v OB_l.out 1 _ rfl
    have lr2 : wr.cell? ⟨gl, 2, none⟩ = some (.int .i64 3) := row0v OB_l.out 2 _ rfl
    have lr3 : wr.cell? ⟨gl, 3, none⟩ = some (.int .i64 0) := row0v OB_l.out 3 _ rfl
    have lr4 : wr.cell? ⟨gl, 4, none⟩ = some (.int .i64 1) := row0v OB_l.out 4 _ rfl
    have lr5 : wr.cell? ⟨gl, 5, none⟩ = some (.slice none 0 0) := row0v OB_l.out 5 _ rfl
    have lr6 : wr.cell? ⟨gl, 6, none⟩ = some (.int .i64 0) := row0v OB_l.out 6 _ rfl
    have lr7 : wr.cell? ⟨gl, 7, none⟩ = some (.int .i64 0) := row0v OB_l.out 7 _ rfl
    have lr8 : wr.cell? ⟨gl, 8, none⟩ = some (.int .i64 0) := row0v OB_l.out 8 _ rfl
    go_upto_region 16 with (first | ((with_reducible refine gate_dst (N := 10) rfl ?_); refine box_event ?hg (N := 10) ?hd (cs := #[.int .i64 0, .int .i64 0, .int .i64 0, .int .i64 0, .int .i64 0, .slice none 0 0, .int .i64 0, .int .i64 0, .int .i64 0]) (t := 39) ?hr ?_; (case hd => rfl); (case hg => rfl); (case hr => first | (go_simp; done) | (go_simp; rfl)); intro s hg w7 hbox HBc; have NE_l_s : Aside0 (∀ k, ((Value.slice (some ⟨gl, 0, none⟩) (xs.length + 1) c)).ownBlock = some k → k ≠ s) := ⟨fun k hk e => by have := OwnE.lt OB_l.out k hk; omega⟩; have NE_d_s : Aside0 (∀ k, (v9).ownBlock = some k → k ≠ s) := ⟨fun k hk e => by have := OwnE.lt OB_d.out k hk; omega⟩; have NE_g_s : Aside0 (g ≠ s) := ⟨ne_born (blk_lt BK_g.out) hg⟩; have NE_s_g : Aside0 (s ≠ g) := ⟨fun e => NE_g_s.out e.symm⟩; have NE_m_s : Aside0 (m ≠ s) := ⟨ne_born (IsMap.lt MP_m.out) hg⟩; have NE_s_m : Aside0 (s ≠ m) := ⟨fun e => NE_m_s.out e.symm⟩; have F_s : Aside0 (∀ k, k = s → (fun k => B ≤ k) k ∨ w1.heap.size ≤ k) := ⟨fnew hg XT.out.size⟩; have RG_s : Aside0 (w1.heap.size ≤ s) := ⟨Nat.le_trans XT.out.size (Nat.le_of_eq hg.symm)⟩; have BG_s : Aside0 (B ≤ s) := ⟨Nat.le_trans HBW.out RG_s.out⟩; clear hg; have OBn_l : Aside0 (OwnE ks (fun _ => False) 39 B w7 (Value.slice (some ⟨gl, 0, none⟩) (xs.length + 1) c) ((lt, lu) :: xs)) := ⟨ks_mv OB_l.out (Ext.none_ HBc) (fun _ _ e => e)⟩; have OBn_d : Aside0 (OwnE kd (fun _ => False) 48 B w7 v9 ([ot])) := ⟨kd_mv OB_d.out (Ext.none_ HBc) (fun _ _ e => e)⟩; clear OB_l OB_d; have OB_l := OBn_l; have OB_d := OBn_d; clear OBn_l OBn_d; clear lc12_0 lf12_0 lc12_1 lf12_1 lc12_2 lf12_2 lc12_3 lf12_3 lc12_4 lf12_4 lc12_5 lf12_5 lc12_6 lf12_6 lc12_7 lf12_7 lc12_8 lf12_8 lc12_9 lf12_9; have BKn_g : Aside0 (w7.heap[g]? = some (.cells #[.int .i64 wait, .int .i64 again, .int .i64 pause, .int .i64 t, .int .i64 tk, .slice (some ⟨gl, 0, none⟩) (xs.length + 1) c, .pointer none, .int .i64 times, .int .i64 last, .map (some m)] 73 (0, 0))) := ⟨Ext.blk (Ext.none_ HBc) BK_g.out (fun e => e)⟩; have MPn_m : Aside0 (IsMap w7 m (fun j => if j = ou then some (.int .i64 (wrap64 (t + pause))) else f j) (n + 1)) := ⟨IsMap.ext MP_m.out (Ext.none_ HBc) (fun e => e)⟩; have XTn : Aside0 (Ext (fun k => B ≤ k) w1 w7) := ⟨XT.out.stepB HBc⟩; clear BK_g MP_m XT; have BK_g := BKn_g; have MP_m := MPn_m; have XT := XTn; clear BKn_g MPn_m XTn; have BK_s : Aside0 (w7.heap[s]? = some (.cells #[.int .i64 0, .int .i64 0, .int .i64 0, .int .i64 0, .int .i64 0, .slice none 0 0, .int .i64 0, .int .i64 0, .int .i64 0] 39 (0, 0))) := ⟨hbox⟩; clear hbox HBc; have lc13_0 : w7.cell? ⟨g, 0, none⟩ = some (.int .i64 wait) := (blk_cell BK_g.out 0).trans rfl; have lf13_0 := blk_frozen BK_g.out 0; have lc13_1 : w7.cell? ⟨g, 1, none⟩ = some (.int .i64 again) := (blk_cell BK_g.out 1).trans rfl; have lf13_1 := blk_frozen BK_g.out 1; have lc13_2 : w7.cell? ⟨g, 2, none⟩ = some (.int .i64 pause) := (blk_cell BK_g.out 2).trans rfl; have lf13_2 := blk_frozen BK_g.out 2; have lc13_3 : w7.cell? ⟨g, 3, none⟩ = some (.int .i64 t) := (blk_cell BK_g.out 3).trans rfl; have lf13_3 := blk_frozen BK_g.out 3; have lc13_4 : w7.cell? ⟨g, 4, none⟩ = some (.int .i64 tk) := (blk_cell BK_g.out 4).trans rfl; have lf13_4 := blk_frozen BK_g.out 4; have lc13_5 : w7.cell? ⟨g, 5, none⟩ = some (.slice (some ⟨gl, 0, none⟩) (xs.length + 1) c) := (blk_cell BK_g.out 5).trans rfl; have lf13_5 := blk_frozen BK_g.out 5; have lc13_6 : w7.cell? ⟨g, 6, none⟩ = some (.pointer none) := (blk_cell BK_g.out 6).trans rfl; have lf13_6 := blk_frozen BK_g.out 6; have lc13_7 : w7.cell? ⟨g, 7, none⟩ = some (.int .i64 times) := (blk_cell BK_g.out 7).trans rfl; have lf13_7 := blk_frozen BK_g.out 7; have lc13_8 : w7.cell? ⟨g, 8, none⟩ = some (.int .i64 last) := (blk_cell BK_g.out 8).trans rfl; have lf13_8 := blk_frozen BK_g.out 8; have lc13_9 : w7.cell? ⟨g, 9, none⟩ = some (.map (some m)) := (blk_cell BK_g.out 9).trans rfl; have lf13_9 := blk_frozen BK_g.out 9; have lc14_0 : w7.cell? ⟨s, 0, none⟩ = some (.int .i64 0) := (blk_cell BK_s.out 0).trans rfl; have lf14_0 := blk_frozen BK_s.out 0; have lc14_1 : w7.cell? ⟨s, 1, none⟩ = some (.int .i64 0) := (blk_cell BK_s.out 1).trans rfl; have lf14_1 := blk_frozen BK_s.out 1; have lc14_2 : w7.cell? ⟨s, 2, none⟩ = some (.int .i64 0) := (blk_cell BK_s.out 2).trans rfl; have lf14_2 := blk_frozen BK_s.out 2; have lc14_3 : w7.cell? ⟨s, 3, none⟩ = some (.int .i64 0) := (blk_cell BK_s.out 3).trans rfl; have lf14_3 := blk_frozen BK_s.out 3; have lc14_4 : w7.cell? ⟨s, 4, none⟩ = some (.int .i64 0) := (blk_cell BK_s.out 4).trans rfl; have lf14_4 := blk_frozen BK_s.out 4; have lc14_5 : w7.cell? ⟨s, 5, none⟩ = some (.slice none 0 0) := (blk_cell BK_s.out 5).trans rfl; have lf14_5 := blk_frozen BK_s.out 5; have lc14_6 : w7.cell? ⟨s, 6, none⟩ = some (.int .i64 0) := (blk_cell BK_s.out 6).trans rfl; have lf14_6 := blk_frozen BK_s.out 6; have lc14_7 : w7.cell? ⟨s, 7, none⟩ = some (.int .i64 0) := (blk_cell BK_s.out 7).trans rfl; have lf14_7 := blk_frozen BK_s.out 7; have lc14_8 : w7.cell? ⟨s, 8, none⟩ = some (.int .i64 0) := (blk_cell BK_s.out 8).trans rfl; have lf14_8 := blk_frozen BK_s.out 8) | ((with_reducible refine gate_store (p := 10) rfl ?_); refine store_event (w1 := ?_) rfl (p := 10) rfl rfl ?hr ?_; rotate_left; (case hr => go_simp; rfl); intro w8 hw_; have hput : w8.heap[s]? = some (.cells #[.int .i64 (lt), .int .i64 (lu), .int .i64 3, .int .i64 0, .int .i64 1, .slice none 0 0, .int .i64 0, .int .i64 0, .int .i64 0] 39 (0, 0)) := (by rw [hw_]; refine blk_put (cs := #[.int .i64 (lt), .int .i64 (lu), .int .i64 3, .int .i64 0, .int .i64 1, .slice none 0 0, .int .i64 0, .int .i64 0, .int .i64 0]) ?_ 8 _ rfl; refine blk_put (cs := #[.int .i64 (lt), .int .i64 (lu), .int .i64 3, .int .i64 0, .int .i64 1, .slice none 0 0, .int .i64 0, .int .i64 0, .int .i64 0]) ?_ 7 _ rfl; refine blk_put (cs := #[.int .i64 (lt), .int .i64 (lu), .int .i64 3, .int .i64 0, .int .i64 1, .slice none 0 0, .int .i64 0, .int .i64 0, .int .i64 0]) ?_ 6 _ rfl; refine blk_put (cs := #[.int .i64 (lt), .int .i64 (lu), .int .i64 3, .int .i64 0, .int .i64 1, .slice none 0 0, .int .i64 0, .int .i64 0, .int .i64 0]) ?_ 5 _ rfl; refine blk_put (cs := #[.int .i64 (lt), .int .i64 (lu), .int .i64 3, .int .i64 0, .int .i64 0, .slice none 0 0, .int .i64 0, .int .i64 0, .int .i64 0]) ?_ 4 _ rfl; refine blk_put (cs := #[.int .i64 (lt), .int .i64 (lu), .int .i64 3, .int .i64 0, .int .i64 0, .slice none 0 0, .int .i64 0, .int .i64 0, .int .i64 0]) ?_ 3 _ rfl; refine blk_put (cs := #[.int .i64 (lt), .int .i64 (lu), .int .i64 0, .int .i64 0, .int .i64 0, .slice none 0 0, .int .i64 0, .int .i64 0, .int .i64 0]) ?_ 2 _ rfl; refine blk_put (cs := #[.int .i64 (lt), .int .i64 0, .int .i64 0, .int .i64 0, .int .i64 0, .slice none 0 0, .int .i64 0, .int .i64 0, .int .i64 0]) ?_ 1 _ rfl; refine blk_put (cs := #[.int .i64 0, .int .i64 0, .int .i64 0, .int .i64 0, .int .i64 0, .slice none 0 0, .int .i64 0, .int .i64 0, .int .i64 0]) ?_ 0 _ rfl; exact BK_s.out); have HEc : Ext (fun k => k = s) w7 w8 := (by rw [hw_]; exact ((((((((((Ext.refl _ _).setg _).setg _).setg _).setg _).setg _).setg _).setg _).setg _).setg _)); clear hw_; have OBn_l : Aside0 (OwnE ks (fun _ => False) 39 B w8 (Value.slice (some ⟨gl, 0, none⟩) (xs.length + 1) c) ((lt, lu) :: xs)) := ⟨ks_mv OB_l.out HEc NE_l_s.out⟩; have OBn_d : Aside0 (OwnE kd (fun _ => False) 48 B w8 v9 ([ot])) := ⟨kd_mv OB_d.out HEc NE_d_s.out⟩; clear OB_l OB_d; have OB_l := OBn_l; have OB_d := OBn_d; clear OBn_l OBn_d; clear lc13_0 lf13_0 lc13_1 lf13_1 lc13_2 lf13_2 lc13_3 lf13_3 lc13_4 lf13_4 lc13_5 lf13_5 lc13_6 lf13_6 lc13_7 lf13_7 lc13_8 lf13_8 lc13_9 lf13_9 lc14_0 lf14_0 lc14_1 lf14_1 lc14_2 lf14_2 lc14_3 lf14_3 lc14_4 lf14_4 lc14_5 lf14_5 lc14_6 lf14_6 lc14_7 lf14_7 lc14_8 lf14_8; have BKn_g : Aside0 (w8.heap[g]? = some (.cells #[.int .i64 wait, .int .i64 again, .int .i64 pause, .int .i64 t, .int .i64 tk, .slice (some ⟨gl, 0, none⟩) (xs.length + 1) c, .pointer none, .int .i64 times, .int .i64 last, .map (some m)] 73 (0, 0))) := ⟨Ext.blk HEc BK_g.out NE_g_s.out⟩; have MPn_m : Aside0 (IsMap w8 m (fun j => if j = ou then some (.int .i64 (wrap64 (t + pause))) else f j) (n + 1)) := ⟨IsMap.ext MP_m.out HEc NE_m_s.out⟩; have XTn : Aside0 (Ext (fun k => B ≤ k) w1 w8) := ⟨XT.out.step HEc (F_s.out)⟩; clear BK_g MP_m XT; have BK_g := BKn_g; have MP_m := MPn_m; have XT := XTn; clear BKn_g MPn_m XTn; clear BK_s; have BK_s : Aside0 (w8.heap[s]? = some (.cells #[.int .i64 (lt), .int .i64 (lu), .int .i64 3, .int .i64 0, .int .i64 1, .slice none 0 0, .int .i64 0, .int .i64 0, .int .i64 0] 39 (0, 0))) := ⟨hput⟩; clear hput HEc; have lc15_0 : w8.cell? ⟨g, 0, none⟩ = some (.int .i64 wait) := (blk_cell BK_g.out 0).trans rfl; have lf15_0 := blk_frozen BK_g.out 0; have lc15_1 : w8.cell? ⟨g, 1, none⟩ = some (.int .i64 again) := (blk_cell BK_g.out 1).trans rfl; have lf15_1 := blk_frozen BK_g.out 1; have lc15_2 : w8.cell? ⟨g, 2, none⟩ = some (.int .i64 pause) := (blk_cell BK_g.out 2).trans rfl; have lf15_2 := blk_frozen BK_g.out 2; have lc15_3 : w8.cell? ⟨g, 3, none⟩ = some (.int .i64 t) := (blk_cell BK_g.out 3).trans rfl; have lf15_3 := blk_frozen BK_g.out 3; have lc15_4 : w8.cell? ⟨g, 4, none⟩ = some (.int .i64 tk) := (blk_cell BK_g.out 4).trans rfl; have lf15_4 := blk_frozen BK_g.out 4; have lc15_5 : w8.cell? ⟨g, 5, none⟩ = some (.slice (some ⟨gl, 0, none⟩) (xs.length + 1) c) := (blk_cell BK_g.out 5).trans rfl; have lf15_5 := blk_frozen BK_g.out 5; have lc15_6 : w8.cell? ⟨g, 6, none⟩ = some (.pointer none) := (blk_cell BK_g.out 6).trans rfl; have lf15_6 := blk_frozen BK_g.out 6; have lc15_7 : w8.cell? ⟨g, 7, none⟩ = some (.int .i64 times) := (blk_cell BK_g.out 7).trans rfl; have lf15_7 := blk_frozen BK_g.out 7; have lc15_8 : w8.cell? ⟨g, 8, none⟩ = some (.int .i64 last) := (blk_cell BK_g.out 8).trans rfl; have lf15_8 := blk_frozen BK_g.out 8; have lc15_9 : w8.cell? ⟨g, 9, none⟩ = some (.map (some m)) := (blk_cell BK_g.out 9).trans rfl; have lf15_9 := blk_frozen BK_g.out 9; have lc16_0 : w8.cell? ⟨s, 0, none⟩ = some (.int .i64 (lt)) := (blk_cell BK_s.out 0).trans rfl; have lf16_0 := blk_frozen BK_s.out 0; have lc16_1 : w8.cell? ⟨s, 1, none⟩ = some (.int .i64 (lu)) := (blk_cell BK_s.out 1).trans rfl; have lf16_1 := blk_frozen BK_s.out 1; have lc16_2 : w8.cell? ⟨s, 2, none⟩ = some (.int .i64 3) := (blk_cell BK_s.out 2).trans rfl; have lf16_2 := blk_frozen BK_s.out 2; have lc16_3 : w8.cell? ⟨s, 3, none⟩ = some (.int .i64 0) := (blk_cell BK_s.out 3).trans rfl; have lf16_3 := blk_frozen BK_s.out 3; have lc16_4 : w8.cell? ⟨s, 4, none⟩ = some (.int .i64 1) := (blk_cell BK_s.out 4).trans rfl; have lf16_4 := blk_frozen BK_s.out 4; have lc16_5 : w8.cell? ⟨s, 5, none⟩ = some (.slice none 0 0) := (blk_cell BK_s.out 5).trans rfl; have lf16_5 := blk_frozen BK_s.out 5; have lc16_6 : w8.cell? ⟨s, 6, none⟩ = some (.int .i64 0) := (blk_cell BK_s.out 6).trans rfl; have lf16_6 := blk_frozen BK_s.out 6; have lc16_7 : w8.cell? ⟨s, 7, none⟩ = some (.int .i64 0) := (blk_cell BK_s.out 7).trans rfl; have lf16_7 := blk_frozen BK_s.out 7; have lc16_8 : w8.cell? ⟨s, 8, none⟩ = some (.int .i64 0) := (blk_cell BK_s.out 8).trans rfl; have lf16_8 := blk_frozen BK_s.out 8))
    clear lr0 lr1 lr2 lr3 lr4 lr5 lr6 lr7 lr8
    clear lc15_0 lf15_0 lc15_1 lf15_1 lc15_2 lf15_2 lc15_3 lf15_3 lc15_4 lf15_4 lc15_5 lf15_5 lc15_6 lf15_6 lc15_7 lf15_7 lc15_8 lf15_8 lc15_9 lf15_9 lc16_0 lf16_0 lc16_1 lf16_1 lc16_2 lf16_2 lc16_3 lf16_3 lc16_4 lf16_4 lc16_5 lf16_5 lc16_6 lf16_6 lc16_7 lf16_7 lc16_8 lf16_8
    refine start_ (n := 9) (S := fun W => W.cell? ⟨g, 9, none⟩ = some (.map (some m)) ∧ W.cell? ⟨s, 1, none⟩ = some (.int .i64 (lu))) (ds := []) #[false, false, false, false, false, false, false, false, false] (by kernel_rfl) rfl rfl ?_ (fun hHeld => ?_)
    · exact ⟨(blk_cell (by (with_reducible repeat (first | refine blk_drewN ?_ _ | refine blk_drew ?_ | refine blk_alloc ?_ _)); exact BK_g.out) 9).trans rfl, (blk_cell (by (with_reducible repeat (first | refine blk_drewN ?_ _ | refine blk_drew ?_ | refine blk_alloc ?_ _)); exact BK_s.out) 1).trans rfl⟩
    refine pure_ (i := 0) (N := some 94) (v := ?_) (a' := ?_) #[true, false, false, false, false, false, false, false, false] rfl rfl (by kernel_rfl) (fun _ _ _ h => h) (Or.inl ⟨by rfl, ?_⟩) ?_ ?_
    rotate_left
    · intro w'
      go_simp
      with_reducible rfl
    rotate_left
    · simp only [Act.put, List.setIfInBounds_toArray, List.set_cons_zero, List.set_cons_succ, i64_w, i32_w]
      rfl
    refine pure_ (i := 1) (N := some 95) (v := ?_) (a' := ?_) #[true, true, false, false, false, false, false, false, false] rfl rfl (by kernel_rfl) (fun _ _ _ h => h) (Or.inl ⟨by rfl, ?_⟩) ?_ ?_
    rotate_left
    · intro w'
      go_simp
      with_reducible rfl
    rotate_left
    · simp only [Act.put, List.setIfInBounds_toArray, List.set_cons_zero, List.set_cons_succ, i64_w, i32_w]
      rfl
    refine pure_ (i := 2) (N := some 96) (v := ?_) (a' := ?_) #[true, true, true, false, false, false, false, false, false] rfl rfl (by kernel_rfl) (fun _ _ _ h => h) (Or.inl ⟨by rfl, ?_⟩) ?_ ?_
    rotate_left
    · intro w'
      go_simp
      with_reducible rfl
    rotate_left
    · simp only [Act.put, List.setIfInBounds_toArray, List.set_cons_zero, List.set_cons_succ, i64_w, i32_w]
      rfl
    refine take_ (i := 3) (N := some 97) (v := ?_) (a' := ?_) #[true, true, true, true, false, false, false, false, false] rfl rfl (by kernel_rfl) (fun _ _ _ h => h) (Or.inl ⟨by rfl, ?_⟩) hHeld ?_ ?_
    rotate_left
    · rintro w' ⟨s0, s1⟩
      go_simp
      with_reducible rfl
    rotate_left
    · simp only [Act.put, List.setIfInBounds_toArray, List.set_cons_zero, List.set_cons_succ, i64_w, i32_w]
      rfl
    refine pure_ (i := 4) (N := some 98) (v := ?_) (a' := ?_) #[true, true, true, true, true, false, false, false, false] rfl rfl (by kernel_rfl) (fun _ _ _ h => h) (Or.inl ⟨by rfl, ?_⟩) ?_ ?_
    rotate_left
    · intro w'
      go_simp
      with_reducible rfl
    rotate_left
    · simp only [Act.put, List.setIfInBounds_toArray, List.set_cons_zero, List.set_cons_succ, i64_w, i32_w]
      rfl
    refine take_ (i := 5) (N := some 99) (v := ?_) (a' := ?_) #[true, true, true, true, true, true, false, false, false] rfl rfl (by kernel_rfl) (fun _ _ _ h => h) (Or.inl ⟨by rfl, ?_⟩) hHeld ?_ ?_
    rotate_left
    · rintro w' ⟨s0, s1⟩
      go_simp
      with_reducible rfl
    rotate_left
    · simp only [Act.put, List.setIfInBounds_toArray, List.set_cons_zero, List.set_cons_succ, i64_w, i32_w]
      rfl
    refine pure_ (i := 7) (N := some 101) (v := ?_) (a' := ?_) #[true, true, true, true, true, true, false, true, false] rfl rfl (by kernel_rfl) (fun _ _ _ h => h) (Or.inl ⟨by rfl, ?_⟩) ?_ ?_
    rotate_left
    · intro w'
      go_simp
      with_reducible rfl
    rotate_left
    · simp only [Act.put, List.setIfInBounds_toArray, List.set_cons_zero, List.set_cons_succ, i64_w, i32_w]
      rfl
    refine one_ (i := 6) (N := some 100) #[true, true, true, true, true, true, true, true, false] rfl rfl (by kernel_rfl) (by decide) (fun K hK => ?_)
    refine look_step (k := lu) (v := .int .i64 rv) (by rfl) rfl rfl (MP_m.out.ext (Ext.none_ (by repeat (first | exact Below.refl _ _ | apply pw_below_drewN | apply below_drew1))) (fun e => e)) Try.underlying70 Try.underlying3 zeroI ?hx ?hy ((HF.out lu).trans (congrArg (Value.int .i64) HRV.out.symm)) ?_
    case hx => rfl
    case hy => rfl
    refine hK.out _ _ ?_ (fun hHeld => ?_)
    · exact ⟨(blk_cell (by (with_reducible repeat (first | refine blk_drewN ?_ _ | refine blk_drew ?_ | refine blk_alloc ?_ _)); exact BK_g.out) 9).trans rfl, (blk_cell (by (with_reducible repeat (first | refine blk_drewN ?_ _ | refine blk_drew ?_ | refine blk_alloc ?_ _)); exact BK_s.out) 1).trans rfl⟩
    clear hK K
    refine norm_ (a' := ?_) ?_ ?_
    rotate_left
    · show Act.put _ (some 100) _ = _
      simp only [Act.put, List.setIfInBounds_toArray, List.set_cons_zero, List.set_cons_succ, i64_w, i32_w]
      rfl
    refine pure_ (i := 8) (N := some 102) (v := ?_) (a' := ?_) #[true, true, true, true, true, true, true, true, true] rfl rfl (by kernel_rfl) (fun _ _ _ h => h) (Or.inl ⟨by rfl, ?_⟩) ?_ ?_
    rotate_left
    · intro w'
      go_simp
      with_reducible rfl
    rotate_left
    · simp only [Act.put, List.setIfInBounds_toArray, List.set_cons_zero, List.set_cons_succ, i64_w, i32_w]
      rfl
    refine done_ (by kernel_rfl) ?_
    generalize hwd : World.drew w8 = w9
    have HBc : Below w8.heap.size w8 w9 := (by rw [← hwd]; exact below_drew (Below.refl _ _))
    clear hwd
    have OBn_l : Aside0 (OwnE ks (fun _ => False) 39 B w9 (Value.slice (some ⟨gl, 0, none⟩) (xs.length + 1) c) ((lt, lu) :: xs)) := ⟨ks_mv OB_l.out (Ext.none_ HBc) (fun _ _ e => e)⟩
    have OBn_d : Aside0 (OwnE kd (fun _ => False) 48 B w9 v9 ([ot])) := ⟨kd_mv OB_d.out (Ext.none_ HBc) (fun _ _ e => e)⟩
    clear OB_l OB_d
    have OB_l := OBn_l
    have OB_d := OBn_d
    clear OBn_l OBn_d
    have BKn_g : Aside0 (w9.heap[g]? = some (.cells #[.int .i64 wait, .int .i64 again, .int .i64 pause, .int .i64 t, .int .i64 tk, .slice (some ⟨gl, 0, none⟩) (xs.length + 1) c, .pointer none, .int .i64 times, .int .i64 last, .map (some m)] 73 (0, 0))) := ⟨Ext.blk (Ext.none_ HBc) BK_g.out (fun e => e)⟩
    have BKn_s : Aside0 (w9.heap[s]? = some (.cells #[.int .i64 (lt), .int .i64 (lu), .int .i64 3, .int .i64 0, .int .i64 1, .slice none 0 0, .int .i64 0, .int .i64 0, .int .i64 0] 39 (0, 0))) := ⟨Ext.blk (Ext.none_ HBc) BK_s.out (fun e => e)⟩
    have MPn_m : Aside0 (IsMap w9 m (fun j => if j = ou then some (.int .i64 (wrap64 (t + pause))) else f j) (n + 1)) := ⟨IsMap.ext MP_m.out (Ext.none_ HBc) (fun e => e)⟩
    have XTn : Aside0 (Ext (fun k => B ≤ k) w1 w9) := ⟨XT.out.stepB HBc⟩
    clear BK_g BK_s MP_m XT
    have BK_g := BKn_g
    have BK_s := BKn_s
    have MP_m := MPn_m
    have XT := XTn
    clear BKn_g BKn_s MPn_m XTn
    clear HBc
    go_upto_region 17 with (fail)
    obtain ⟨A2, hA2⟩ : ∃ A2, A2 = (if c = 1 then some ⟨gl, 0, none⟩ else (some ⟨gl, 0, none⟩ : Option Addr).map (·.add (1 * 9))) := ⟨_, rfl⟩
    have hs1 := slice_to gl c xs.length HCAP.out; have hs2 := slice_from gl c xs.length; rw [← hA2] at hs2
    have hvc := rowC OB_l.out HCAP.out; rw [← hA2] at hvc; have HVC := Aside0.mk hvc; clear hvc hA2
    have XT0 := XT; have LTS : Aside0 (s < w9.heap.size) := ⟨blk_lt BK_s.out⟩
    have hw1 : wrap64 1 = 1 := by unfold wrap64; omega
    refine start_ (n := 19) (S := fun W => W.cell? ⟨g, 5, none⟩ = some (.slice (some ⟨gl, 0, none⟩) (xs.length + 1) c)) (ds := [18]) #[false, false, false, false, false, false, false, false, false, false, false, false, false, false, false, false, false, false, false] (by kernel_rfl) rfl rfl ?_ (fun hHeld => ?_)
    · exact (blk_cell (by (with_reducible repeat (first | refine blk_drewN ?_ _ | refine blk_drew ?_ | refine blk_alloc ?_ _)); exact BK_g.out) 5).trans rfl
    refine pure_ (i := 0) (N := some 103) (v := ?_) (a' := ?_) #[true, false, false, false, false, false, false, false, false, false, false, false, false, false, false, false, false, false, false] rfl rfl (by kernel_rfl) (fun _ _ _ h => h) (Or.inl ⟨by rfl, ?_⟩) ?_ ?_
    rotate_left
    · intro w'
      go_simp
      with_reducible rfl
    rotate_left
    · simp only [Act.put, List.setIfInBounds_toArray, List.set_cons_zero, List.set_cons_succ, i64_w, i32_w, hw1]
      rfl
    refine pure_ (i := 1) (N := some 104) (v := ?_) (a' := ?_) #[true, true, false, false, false, false, false, false, false, false, false, false, false, false, false, false, false, false, false] rfl rfl (by kernel_rfl) (fun _ _ _ h => h) (Or.inl ⟨by rfl, ?_⟩) ?_ ?_
    rotate_left
    · intro w'
      go_simp
      with_reducible rfl
    rotate_left
    · simp only [Act.put, List.setIfInBounds_toArray, List.set_cons_zero, List.set_cons_succ, i64_w, i32_w, hw1]
      rfl
    refine pure_ (i := 2) (N := some 105) (v := ?_) (a' := ?_) #[true, true, true, false, false, false, false, false, false, false, false, false, false, false, false, false, false, false, false] rfl rfl (by kernel_rfl) (fun _ _ _ h => h) (Or.inl ⟨by rfl, ?_⟩) ?_ ?_
    rotate_left
    · intro w'
      go_simp
      with_reducible rfl
    rotate_left
    · simp only [Act.put, List.setIfInBounds_toArray, List.set_cons_zero, List.set_cons_succ, i64_w, i32_w, hw1]
      rfl
    refine pure_ (i := 3) (N := some 106) (v := ?_) (a' := ?_) #[true, true, true, true, false, false, false, false, false, false, false, false, false, false, false, false, false, false, false] rfl rfl (by kernel_rfl) (fun _ _ _ h => h) (Or.inl ⟨by rfl, ?_⟩) ?_ ?_
    rotate_left
    · intro w'
      go_simp
      with_reducible rfl
    rotate_left
    · simp only [Act.put, List.setIfInBounds_toArray, List.set_cons_zero, List.set_cons_succ, i64_w, i32_w, hw1]
      rfl
    refine take_ (i := 4) (N := some 107) (v := ?_) (a' := ?_) #[true, true, true, true, true, false, false, false, false, false, false, false, false, false, false, false, false, false, false] rfl rfl (by kernel_rfl) (fun _ _ _ h => h) (Or.inl ⟨by rfl, ?_⟩) hHeld ?_ ?_
    rotate_left
    · rintro w' s0
      go_simp
      with_reducible rfl
    rotate_left
    · simp only [Act.put, List.setIfInBounds_toArray, List.set_cons_zero, List.set_cons_succ, i64_w, i32_w, hw1]
      rfl
    refine pure_ (i := 5) (N := some 108) (v := ?_) (a' := ?_) #[true, true, true, true, true, true, false, false, false, false, false, false, false, false, false, false, false, false, false] rfl rfl (by kernel_rfl) (fun _ _ _ h => h) (Or.inl ⟨by rfl, ?_⟩) ?_ ?_
    rotate_left
    · intro w'
      go_simp
      with_reducible rfl
    rotate_left
    · simp only [Act.put, List.setIfInBounds_toArray, List.set_cons_zero, List.set_cons_succ, i64_w, i32_w, hw1]
      rfl
    refine take_ (i := 6) (N := some 109) (v := ?_) (a' := ?_) #[true, true, true, true, true, true, true, false, false, false, false, false, false, false, false, false, false, false, false] rfl rfl (by kernel_rfl) (fun _ _ _ h => h) (Or.inl ⟨by rfl, ?_⟩) hHeld ?_ ?_
    rotate_left
    · rintro w' s0
      go_simp
      with_reducible rfl
    rotate_left
    · simp only [Act.put, List.setIfInBounds_toArray, List.set_cons_zero, List.set_cons_succ, i64_w, i32_w, hw1]
      rfl
    refine pure_ (i := 7) (N := some 110) (v := ?_) (a' := ?_) #[true, true, true, true, true, true, true, true, false, false, false, false, false, false, false, false, false, false, false] rfl rfl (by kernel_rfl) (fun _ _ _ h => h) (Or.inl ⟨by rfl, ?_⟩) ?_ ?_
    rotate_left
    · intro w'
      go_simp
      with_reducible rfl
    rotate_left
    · simp only [Act.put, List.setIfInBounds_toArray, List.set_cons_zero, List.set_cons_succ, i64_w, i32_w, hw1]
      rfl
    refine pure_ (i := 8) (N := some 111) (v := ?_) (a' := ?_) #[true, true, true, true, true, true, true, true, true, false, false, false, false, false, false, false, false, false, false] rfl rfl (by kernel_rfl) (fun _ _ _ h => h) (Or.inl ⟨by rfl, ?_⟩) ?_ ?_
    rotate_left
    · intro w'
      go_simp
      with_reducible rfl
    rotate_left
    · simp only [Act.put, List.setIfInBounds_toArray, List.set_cons_zero, List.set_cons_succ, i64_w, i32_w, hw1]
      rfl
    refine pure_ (i := 9) (N := some 112) (v := ?_) (a' := ?_) #[true, true, true, true, true, true, true, true, true, true, false, false, false, false, false, false, false, false, false] rfl rfl (by kernel_rfl) (fun _ _ _ h => h) (Or.inl ⟨by rfl, ?_⟩) ?_ ?_
    rotate_left
    · intro w'
      go_simp
      with_reducible rfl
    rotate_left
    · simp only [Act.put, List.setIfInBounds_toArray, List.set_cons_zero, List.set_cons_succ, i64_w, i32_w, hw1]
      rfl
    refine take_ (i := 10) (N := some 113) (v := ?_) (a' := ?_) #[true, true, true, true, true, true, true, true, true, true, true, false, false, false, false, false, false, false, false] rfl rfl (by kernel_rfl) (fun _ _ _ h => h) (Or.inl ⟨by rfl, ?_⟩) hHeld ?_ ?_
    rotate_left
    · rintro w' s0
      go_simp
      with_reducible rfl
    rotate_left
    · simp only [Act.put, List.setIfInBounds_toArray, List.set_cons_zero, List.set_cons_succ, i64_w, i32_w, hw1]
      rfl
    refine pure_ (i := 11) (N := some 114) (v := ?_) (a' := ?_) #[true, true, true, true, true, true, true, true, true, true, true, true, false, false, false, false, false, false, false] rfl rfl (by kernel_rfl) (fun _ _ _ h => h) (Or.inl ⟨by rfl, ?_⟩) ?_ ?_
    rotate_left
    · intro w'
      go_simp
      with_reducible rfl
    rotate_left
    · simp only [Act.put, List.setIfInBounds_toArray, List.set_cons_zero, List.set_cons_succ, i64_w, i32_w, hw1]
      rfl
    refine pure_ (i := 12) (N := some 115) (v := ?_) (a' := ?_) #[true, true, true, true, true, true, true, true, true, true, true, true, true, false, false, false, false, false, false] rfl rfl (by kernel_rfl) (fun _ _ _ h => h) (Or.inl ⟨by rfl, ?_⟩) ?_ ?_
    rotate_left
    · intro w'
      go_simp
      with_reducible rfl
    rotate_left
    · simp only [Act.put, List.setIfInBounds_toArray, List.set_cons_zero, List.set_cons_succ, i64_w, i32_w, hw1]
      rfl
    refine take_ (i := 13) (N := some 116) (v := ?_) (a' := ?_) #[true, true, true, true, true, true, true, true, true, true, true, true, true, true, false, false, false, false, false] rfl rfl (by kernel_rfl) (fun _ _ _ h => h) (Or.inl ⟨by rfl, ?_⟩) hHeld ?_ ?_
    rotate_left
    · rintro w' s0
      go_simp
      with_reducible rfl
    rotate_left
    · simp only [Act.put, List.setIfInBounds_toArray, List.set_cons_zero, List.set_cons_succ, i64_w, i32_w, hw1]
      rfl
    refine one_ (i := 14) (N := some 117) #[true, true, true, true, true, true, true, true, true, true, true, true, true, true, true, false, false, false, false] rfl rfl (by kernel_rfl) (by decide) (fun K hK => ?_)
    refine value_ (v := ?vv) (w1 := ?ww) (by rfl) rfl ?hr ?kk
    case hr => (go_simp; refine And.intro ?_ ?_ <;> rfl)
    refine hK.out _ _ ?_ (fun hHeld => ?_)
    · exact (blk_cell (by (with_reducible repeat (first | refine blk_drewN ?_ _ | refine blk_drew ?_ | refine blk_alloc ?_ _)); exact BK_g.out) 5).trans rfl
    clear hK K
    refine norm_ (a' := ?_) ?_ ?_
    rotate_left
    · show Act.put _ (some 117) _ = _
      simp only [Act.put, List.setIfInBounds_toArray, List.set_cons_zero, List.set_cons_succ, i64_w, i32_w, hw1]
      rfl
    refine one_ (i := 15) (N := some 118) #[true, true, true, true, true, true, true, true, true, true, true, true, true, true, true, true, false, false, false] rfl rfl (by kernel_rfl) (by decide) (fun K hK => ?_)
    refine goes_ Try.func33 (by kernel_rfl) rfl #[.slice (some ⟨w9.heap.size, 0, none⟩) 2 2] (by rfl) rfl rfl (by (try simp only [List.map_toArray, List.map_cons, List.map_nil]); first | done | rfl) ?_
    refine (concat_c (some ⟨gl, 0, none⟩) A2 c (c - 1) xs w9.heap.size 2 _ ?hgb ?hvv HLX.out).mono ?_
    case hgb => exact new_blk (W := w9) rfl
    case hvv => exact Kd.C_below HVC.out (by repeat (first | exact Below.refl _ _ | apply pw_below_drewN | apply below_drew1 | apply below_alloc))
    rintro e w10 ⟨vn, rfl, HOn, HBn⟩
    refine ⟨_, rfl, ?_⟩
    have HBc : Below w9.heap.size w9 w10 := below_step (by repeat (first | exact Below.refl _ _ | apply pw_below_drewN | apply below_drew1 | apply below_alloc)) HBn
    skip
    have HNS : Aside0 (∀ k, vn.ownBlock = some k → w9.heap.size ≤ k) := ⟨fun k hk => Nat.le_trans (below_size (by repeat (first | exact Below.refl _ _ | apply pw_below_drewN | apply below_drew1 | apply below_alloc))) (HOn.base_le k hk)⟩
    have OBn_l : Aside0 (OwnE ks (fun _ => False) 39 B w10 (Value.slice (some ⟨gl, 0, none⟩) (xs.length + 1) c) ((lt, lu) :: xs)) := ⟨ks_mv OB_l.out (Ext.none_ HBc) (fun _ _ e => e)⟩
    have OBn_d : Aside0 (OwnE kd (fun _ => False) 48 B w10 v9 ([ot])) := ⟨kd_mv OB_d.out (Ext.none_ HBc) (fun _ _ e => e)⟩
    clear OB_l OB_d
    have OB_l := OBn_l
    have OB_d := OBn_d
    clear OBn_l OBn_d
    have BKn_g : Aside0 (w10.heap[g]? = some (.cells #[.int .i64 wait, .int .i64 again, .int .i64 pause, .int .i64 t, .int .i64 tk, .slice (some ⟨gl, 0, none⟩) (xs.length + 1) c, .pointer none, .int .i64 times, .int .i64 last, .map (some m)] 73 (0, 0))) := ⟨Ext.blk (Ext.none_ HBc) BK_g.out (fun e => e)⟩
    have BKn_s : Aside0 (w10.heap[s]? = some (.cells #[.int .i64 (lt), .int .i64 (lu), .int .i64 3, .int .i64 0, .int .i64 1, .slice none 0 0, .int .i64 0, .int .i64 0, .int .i64 0] 39 (0, 0))) := ⟨Ext.blk (Ext.none_ HBc) BK_s.out (fun e => e)⟩
    have MPn_m : Aside0 (IsMap w10 m (fun j => if j = ou then some (.int .i64 (wrap64 (t + pause))) else f j) (n + 1)) := ⟨IsMap.ext MP_m.out (Ext.none_ HBc) (fun e => e)⟩
    have XTn : Aside0 (Ext (fun k => B ≤ k) w1 w10) := ⟨XT.out.stepB HBc⟩
    clear BK_g BK_s MP_m XT
    have BK_g := BKn_g
    have BK_s := BKn_s
    have MP_m := MPn_m
    have XT := XTn
    clear BKn_g BKn_s MPn_m XTn
    have OB_n : Aside0 (OwnE ks (fun _ => False) 39 B w10 vn xs) := ⟨ks_low HOn (Nat.le_trans (Nat.le_trans HBW.out XT0.out.size) (below_size (by repeat (first | exact Below.refl _ _ | apply pw_below_drewN | apply below_drew1 | apply below_alloc))))⟩
    have NE_n_s : Aside0 (∀ k, (vn).ownBlock = some k → k ≠ s) := ⟨fun k hk e => by have := HNS.out k hk; have := LTS.out; omega⟩
    have NE_n_g : Aside0 (∀ k, (vn).ownBlock = some k → k ≠ g) := ⟨ks_ne HOn BK_g.out (by decide)⟩
    have NE_n_m : Aside0 (∀ k, (vn).ownBlock = some k → k ≠ m) := ⟨ks_nm HOn MP_m.out⟩
    clear HOn HBn HBc HNS HVC hs1 hs2 XT0 LTS OB_l NE_l_g NE_l_m NE_l_s
    have OB_l := OB_n; have NE_l_s := NE_n_s; have NE_l_g := NE_n_g; have NE_l_m := NE_n_m; clear OB_n NE_n_s NE_n_g NE_n_m
    obtain ⟨A3, c3, rfl⟩ := OB_l.out.slice
    refine hK.out _ _ ?_ (fun hHeld => ?_)
    · exact (blk_cell (by (with_reducible repeat (first | refine blk_drewN ?_ _ | refine blk_drew ?_ | refine blk_alloc ?_ _)); exact BK_g.out) 5).trans rfl
    clear hK K
    refine norm_ (a' := ?_) ?_ ?_
    rotate_left
    · show Act.put _ (some 118) _ = _
      simp only [Act.put, List.setIfInBounds_toArray, List.set_cons_zero, List.set_cons_succ, i64_w, i32_w, hw1]
      rfl
    refine pure_ (i := 16) (N := some 119) (v := ?_) (a' := ?_) #[true, true, true, true, true, true, true, true, true, true, true, true, true, true, true, true, true, false, false] rfl rfl (by kernel_rfl) (fun _ _ _ h => h) (Or.inl ⟨by rfl, ?_⟩) ?_ ?_
    rotate_left
    · intro w'
      go_simp
      with_reducible rfl
    rotate_left
    · simp only [Act.put, List.setIfInBounds_toArray, List.set_cons_zero, List.set_cons_succ, i64_w, i32_w, hw1]
      rfl
    refine pure_ (i := 17) (N := some 120) (v := ?_) (a' := ?_) #[true, true, true, true, true, true, true, true, true, true, true, true, true, true, true, true, true, true, false] rfl rfl (by kernel_rfl) (fun _ _ _ h => h) (Or.inl ⟨by rfl, ?_⟩) ?_ ?_
    rotate_left
    · intro w'
      go_simp
      with_reducible rfl
    rotate_left
    · simp only [Act.put, List.setIfInBounds_toArray, List.set_cons_zero, List.set_cons_succ, i64_w, i32_w, hw1]
      rfl
    refine last_ (i := 18) (N := none) #[true, true, true, true, true, true, true, true, true, true, true, true, true, true, true, true, true, true, true] rfl rfl (by kernel_rfl) (by decide) (fun K hK => ?_)
    have lz : w10.cell? ⟨g, 5, none⟩ = some (.slice (some ⟨gl, 0, none⟩) (xs.length + 1) c) := (blk_cell BK_g.out 5).trans rfl; have lzf := blk_frozen BK_g.out 5
    refine skip_ (w1 := ?_) (by rfl) rfl ?_ ?_
    rotate_left
    · go_simp
      rfl
    clear lz lzf
    generalize hw_ : World.setCell w10 ⟨g, 5, none⟩ _ = w11
    obtain ⟨hput, HEc⟩ := put1 (cs' := #[.int .i64 wait, .int .i64 again, .int .i64 pause, .int .i64 t, .int .i64 tk, .slice A3 xs.length c3, .pointer none, .int .i64 times, .int .i64 last, .map (some m)]) hw_.symm BK_g.out rfl
    clear hw_
    have OBn_l : Aside0 (OwnE ks (fun _ => False) 39 B w11 (Value.slice A3 xs.length c3) (xs)) := ⟨ks_mv OB_l.out HEc NE_l_g.out⟩
    have OBn_d : Aside0 (OwnE kd (fun _ => False) 48 B w11 v9 ([ot])) := ⟨kd_mv OB_d.out HEc NE_d_g.out⟩
    clear OB_l OB_d
    have OB_l := OBn_l
    have OB_d := OBn_d
    clear OBn_l OBn_d
    have BKn_s : Aside0 (w11.heap[s]? = some (.cells #[.int .i64 (lt), .int .i64 (lu), .int .i64 3, .int .i64 0, .int .i64 1, .slice none 0 0, .int .i64 0, .int .i64 0, .int .i64 0] 39 (0, 0))) := ⟨Ext.blk HEc BK_s.out NE_s_g.out⟩
    have MPn_m : Aside0 (IsMap w11 m (fun j => if j = ou then some (.int .i64 (wrap64 (t + pause))) else f j) (n + 1)) := ⟨IsMap.ext MP_m.out HEc NE_m_g.out⟩
    have XTn : Aside0 (Ext (fun k => B ≤ k) w1 w11) := ⟨XT.out.step HEc (F_g.out)⟩
    clear BK_s MP_m XT
    have BK_s := BKn_s
    have MP_m := MPn_m
    have XT := XTn
    clear BKn_s MPn_m XTn
    clear BK_g
    have BK_g : Aside0 (w11.heap[g]? = some (.cells #[.int .i64 wait, .int .i64 again, .int .i64 pause, .int .i64 t, .int .i64 tk, .slice A3 xs.length c3, .pointer none, .int .i64 times, .int .i64 last, .map (some m)] 73 (0, 0))) := ⟨hput⟩
    clear hput HEc
    refine hK.out _ _ ?_
    clear hK K
    refine done_ (by kernel_rfl) ?_
    clear hw1
    have lc17_0 : w11.cell? ⟨g, 0, none⟩ = some (.int .i64 wait) := (blk_cell BK_g.out 0).trans rfl
    have lf17_0 := blk_frozen BK_g.out 0
    have lc17_1 : w11.cell? ⟨g, 1, none⟩ = some (.int .i64 again) := (blk_cell BK_g.out 1).trans rfl
    have lf17_1 := blk_frozen BK_g.out 1
    have lc17_2 : w11.cell? ⟨g, 2, none⟩ = some (.int .i64 pause) := (blk_cell BK_g.out 2).trans rfl
    have lf17_2 := blk_frozen BK_g.out 2
    have lc17_3 : w11.cell? ⟨g, 3, none⟩ = some (.int .i64 t) := (blk_cell BK_g.out 3).trans rfl
    have lf17_3 := blk_frozen BK_g.out 3
    have lc17_4 : w11.cell? ⟨g, 4, none⟩ = some (.int .i64 tk) := (blk_cell BK_g.out 4).trans rfl
    have lf17_4 := blk_frozen BK_g.out 4
    have lc17_5 : w11.cell? ⟨g, 5, none⟩ = some (.slice A3 xs.length c3) := (blk_cell BK_g.out 5).trans rfl
    have lf17_5 := blk_frozen BK_g.out 5
    have lc17_6 : w11.cell? ⟨g, 6, none⟩ = some (.pointer none) := (blk_cell BK_g.out 6).trans rfl
    have lf17_6 := blk_frozen BK_g.out 6
    have lc17_7 : w11.cell? ⟨g, 7, none⟩ = some (.int .i64 times) := (blk_cell BK_g.out 7).trans rfl
    have lf17_7 := blk_frozen BK_g.out 7
    have lc17_8 : w11.cell? ⟨g, 8, none⟩ = some (.int .i64 last) := (blk_cell BK_g.out 8).trans rfl
    have lf17_8 := blk_frozen BK_g.out 8
    have lc17_9 : w11.cell? ⟨g, 9, none⟩ = some (.map (some m)) := (blk_cell BK_g.out 9).trans rfl
    have lf17_9 := blk_frozen BK_g.out 9
    have lc18_0 : w11.cell? ⟨s, 0, none⟩ = some (.int .i64 (lt)) := (blk_cell BK_s.out 0).trans rfl
    have lf18_0 := blk_frozen BK_s.out 0
    have lc18_1 : w11.cell? ⟨s, 1, none⟩ = some (.int .i64 (lu)) := (blk_cell BK_s.out 1).trans rfl
    have lf18_1 := blk_frozen BK_s.out 1
    have lc18_2 : w11.cell? ⟨s, 2, none⟩ = some (.int .i64 3) := (blk_cell BK_s.out 2).trans rfl
    have lf18_2 := blk_frozen BK_s.out 2
    have lc18_3 : w11.cell? ⟨s, 3, none⟩ = some (.int .i64 0) := (blk_cell BK_s.out 3).trans rfl
    have lf18_3 := blk_frozen BK_s.out 3
    have lc18_4 : w11.cell? ⟨s, 4, none⟩ = some (.int .i64 1) := (blk_cell BK_s.out 4).trans rfl
    have lf18_4 := blk_frozen BK_s.out 4
    have lc18_5 : w11.cell? ⟨s, 5, none⟩ = some (.slice none 0 0) := (blk_cell BK_s.out 5).trans rfl
    have lf18_5 := blk_frozen BK_s.out 5
    have lc18_6 : w11.cell? ⟨s, 6, none⟩ = some (.int .i64 0) := (blk_cell BK_s.out 6).trans rfl
    have lf18_6 := blk_frozen BK_s.out 6
    have lc18_7 : w11.cell? ⟨s, 7, none⟩ = some (.int .i64 0) := (blk_cell BK_s.out 7).trans rfl
    have lf18_7 := blk_frozen BK_s.out 7
    have lc18_8 : w11.cell? ⟨s, 8, none⟩ = some (.int .i64 0) := (blk_cell BK_s.out 8).trans rfl
    have lf18_8 := blk_frozen BK_s.out 8
    go_upto_region 19 with (first | ((with_reducible refine gate_store (p := 124) rfl ?_); refine store_event (w1 := ?_) rfl (p := 124) rfl rfl ?hr ?_; rotate_left; (case hr => go_simp; rfl); intro w12 hw_; obtain ⟨hput, HEc⟩ := put1 (cs' := #[.int .i64 wait, .int .i64 again, .int .i64 pause, .int .i64 t, .int .i64 tk, .slice A3 xs.length c3, .pointer (some ⟨s, 0, none⟩), .int .i64 times, .int .i64 last, .map (some m)]) hw_ BK_g.out rfl; clear hw_; have OBn_l : Aside0 (OwnE ks (fun _ => False) 39 B w12 (Value.slice A3 xs.length c3) (xs)) := ⟨ks_mv OB_l.out HEc NE_l_g.out⟩; have OBn_d : Aside0 (OwnE kd (fun _ => False) 48 B w12 v9 ([ot])) := ⟨kd_mv OB_d.out HEc NE_d_g.out⟩; clear OB_l OB_d; have OB_l := OBn_l; have OB_d := OBn_d; clear OBn_l OBn_d; clear lc17_0 lf17_0 lc17_1 lf17_1 lc17_2 lf17_2 lc17_3 lf17_3 lc17_4 lf17_4 lc17_5 lf17_5 lc17_6 lf17_6 lc17_7 lf17_7 lc17_8 lf17_8 lc17_9 lf17_9 lc18_0 lf18_0 lc18_1 lf18_1 lc18_2 lf18_2 lc18_3 lf18_3 lc18_4 lf18_4 lc18_5 lf18_5 lc18_6 lf18_6 lc18_7 lf18_7 lc18_8 lf18_8; have BKn_s : Aside0 (w12.heap[s]? = some (.cells #[.int .i64 (lt), .int .i64 (lu), .int .i64 3, .int .i64 0, .int .i64 1, .slice none 0 0, .int .i64 0, .int .i64 0, .int .i64 0] 39 (0, 0))) := ⟨Ext.blk HEc BK_s.out NE_s_g.out⟩; have MPn_m : Aside0 (IsMap w12 m (fun j => if j = ou then some (.int .i64 (wrap64 (t + pause))) else f j) (n + 1)) := ⟨IsMap.ext MP_m.out HEc NE_m_g.out⟩; have XTn : Aside0 (Ext (fun k => B ≤ k) w1 w12) := ⟨XT.out.step HEc (F_g.out)⟩; clear BK_s MP_m XT; have BK_s := BKn_s; have MP_m := MPn_m; have XT := XTn; clear BKn_s MPn_m XTn; clear BK_g; have BK_g : Aside0 (w12.heap[g]? = some (.cells #[.int .i64 wait, .int .i64 again, .int .i64 pause, .int .i64 t, .int .i64 tk, .slice A3 xs.length c3, .pointer (some ⟨s, 0, none⟩), .int .i64 times, .int .i64 last, .map (some m)] 73 (0, 0))) := ⟨hput⟩; clear hput HEc; have lc19_0 : w12.cell? ⟨g, 0, none⟩ = some (.int .i64 wait) := (blk_cell BK_g.out 0).trans rfl; have lf19_0 := blk_frozen BK_g.out 0; have lc19_1 : w12.cell? ⟨g, 1, none⟩ = some (.int .i64 again) := (blk_cell BK_g.out 1).trans rfl; have lf19_1 := blk_frozen BK_g.out 1; have lc19_2 : w12.cell? ⟨g, 2, none⟩ = some (.int .i64 pause) := (blk_cell BK_g.out 2).trans rfl; have lf19_2 := blk_frozen BK_g.out 2; have lc19_3 : w12.cell? ⟨g, 3, none⟩ = some (.int .i64 t) := (blk_cell BK_g.out 3).trans rfl; have lf19_3 := blk_frozen BK_g.out 3; have lc19_4 : w12.cell? ⟨g, 4, none⟩ = some (.int .i64 tk) := (blk_cell BK_g.out 4).trans rfl; have lf19_4 := blk_frozen BK_g.out 4; have lc19_5 : w12.cell? ⟨g, 5, none⟩ = some (.slice A3 xs.length c3) := (blk_cell BK_g.out 5).trans rfl; have lf19_5 := blk_frozen BK_g.out 5; have lc19_6 : w12.cell? ⟨g, 6, none⟩ = some (.pointer (some ⟨s, 0, none⟩)) := (blk_cell BK_g.out 6).trans rfl; have lf19_6 := blk_frozen BK_g.out 6; have lc19_7 : w12.cell? ⟨g, 7, none⟩ = some (.int .i64 times) := (blk_cell BK_g.out 7).trans rfl; have lf19_7 := blk_frozen BK_g.out 7; have lc19_8 : w12.cell? ⟨g, 8, none⟩ = some (.int .i64 last) := (blk_cell BK_g.out 8).trans rfl; have lf19_8 := blk_frozen BK_g.out 8; have lc19_9 : w12.cell? ⟨g, 9, none⟩ = some (.map (some m)) := (blk_cell BK_g.out 9).trans rfl; have lf19_9 := blk_frozen BK_g.out 9; have lc20_0 : w12.cell? ⟨s, 0, none⟩ = some (.int .i64 (lt)) := (blk_cell BK_s.out 0).trans rfl; have lf20_0 := blk_frozen BK_s.out 0; have lc20_1 : w12.cell? ⟨s, 1, none⟩ = some (.int .i64 (lu)) := (blk_cell BK_s.out 1).trans rfl; have lf20_1 := blk_frozen BK_s.out 1; have lc20_2 : w12.cell? ⟨s, 2, none⟩ = some (.int .i64 3) := (blk_cell BK_s.out 2).trans rfl; have lf20_2 := blk_frozen BK_s.out 2; have lc20_3 : w12.cell? ⟨s, 3, none⟩ = some (.int .i64 0) := (blk_cell BK_s.out 3).trans rfl; have lf20_3 := blk_frozen BK_s.out 3; have lc20_4 : w12.cell? ⟨s, 4, none⟩ = some (.int .i64 1) := (blk_cell BK_s.out 4).trans rfl; have lf20_4 := blk_frozen BK_s.out 4; have lc20_5 : w12.cell? ⟨s, 5, none⟩ = some (.slice none 0 0) := (blk_cell BK_s.out 5).trans rfl; have lf20_5 := blk_frozen BK_s.out 5; have lc20_6 : w12.cell? ⟨s, 6, none⟩ = some (.int .i64 0) := (blk_cell BK_s.out 6).trans rfl; have lf20_6 := blk_frozen BK_s.out 6; have lc20_7 : w12.cell? ⟨s, 7, none⟩ = some (.int .i64 0) := (blk_cell BK_s.out 7).trans rfl; have lf20_7 := blk_frozen BK_s.out 7; have lc20_8 : w12.cell? ⟨s, 8, none⟩ = some (.int .i64 0) := (blk_cell BK_s.out 8).trans rfl; have lf20_8 := blk_frozen BK_s.out 8) | ((with_reducible refine gate_store (p := 126) rfl ?_); refine store_event (w1 := ?_) rfl (p := 126) rfl rfl ?hr ?_; rotate_left; (case hr => go_simp; rfl); intro w13 hw_; obtain ⟨hput, HEc⟩ := put1 (cs' := #[.int .i64 wait, .int .i64 again, .int .i64 pause, .int .i64 t, .int .i64 tk, .slice A3 xs.length c3, .pointer (some ⟨s, 0, none⟩), .int .i64 0, .int .i64 last, .map (some m)]) hw_ BK_g.out rfl; clear hw_; have OBn_l : Aside0 (OwnE ks (fun _ => False) 39 B w13 (Value.slice A3 xs.length c3) (xs)) := ⟨ks_mv OB_l.out HEc NE_l_g.out⟩; have OBn_d : Aside0 (OwnE kd (fun _ => False) 48 B w13 v9 ([ot])) := ⟨kd_mv OB_d.out HEc NE_d_g.out⟩; clear OB_l OB_d; have OB_l := OBn_l; have OB_d := OBn_d; clear OBn_l OBn_d; clear lc19_0 lf19_0 lc19_1 lf19_1 lc19_2 lf19_2 lc19_3 lf19_3 lc19_4 lf19_4 lc19_5 lf19_5 lc19_6 lf19_6 lc19_7 lf19_7 lc19_8 lf19_8 lc19_9 lf19_9 lc20_0 lf20_0 lc20_1 lf20_1 lc20_2 lf20_2 lc20_3 lf20_3 lc20_4 lf20_4 lc20_5 lf20_5 lc20_6 lf20_6 lc20_7 lf20_7 lc20_8 lf20_8; have BKn_s : Aside0 (w13.heap[s]? = some (.cells #[.int .i64 (lt), .int .i64 (lu), .int .i64 3, .int .i64 0, .int .i64 1, .slice none 0 0, .int .i64 0, .int .i64 0, .int .i64 0] 39 (0, 0))) := ⟨Ext.blk HEc BK_s.out NE_s_g.out⟩; have MPn_m : Aside0 (IsMap w13 m (fun j => if j = ou then some (.int .i64 (wrap64 (t + pause))) else f j) (n + 1)) := ⟨IsMap.ext MP_m.out HEc NE_m_g.out⟩; have XTn : Aside0 (Ext (fun k => B ≤ k) w1 w13) := ⟨XT.out.step HEc (F_g.out)⟩; clear BK_s MP_m XT; have BK_s := BKn_s; have MP_m := MPn_m; have XT := XTn; clear BKn_s MPn_m XTn; clear BK_g; have BK_g : Aside0 (w13.heap[g]? = some (.cells #[.int .i64 wait, .int .i64 again, .int .i64 pause, .int .i64 t, .int .i64 tk, .slice A3 xs.length c3, .pointer (some ⟨s, 0, none⟩), .int .i64 0, .int .i64 last, .map (some m)] 73 (0, 0))) := ⟨hput⟩; clear hput HEc; have lc21_0 : w13.cell? ⟨g, 0, none⟩ = some (.int .i64 wait) := (blk_cell BK_g.out 0).trans rfl; have lf21_0 := blk_frozen BK_g.out 0; have lc21_1 : w13.cell? ⟨g, 1, none⟩ = some (.int .i64 again) := (blk_cell BK_g.out 1).trans rfl; have lf21_1 := blk_frozen BK_g.out 1; have lc21_2 : w13.cell? ⟨g, 2, none⟩ = some (.int .i64 pause) := (blk_cell BK_g.out 2).trans rfl; have lf21_2 := blk_frozen BK_g.out 2; have lc21_3 : w13.cell? ⟨g, 3, none⟩ = some (.int .i64 t) := (blk_cell BK_g.out 3).trans rfl; have lf21_3 := blk_frozen BK_g.out 3; have lc21_4 : w13.cell? ⟨g, 4, none⟩ = some (.int .i64 tk) := (blk_cell BK_g.out 4).trans rfl; have lf21_4 := blk_frozen BK_g.out 4; have lc21_5 : w13.cell? ⟨g, 5, none⟩ = some (.slice A3 xs.length c3) := (blk_cell BK_g.out 5).trans rfl; have lf21_5 := blk_frozen BK_g.out 5; have lc21_6 : w13.cell? ⟨g, 6, none⟩ = some (.pointer (some ⟨s, 0, none⟩)) := (blk_cell BK_g.out 6).trans rfl; have lf21_6 := blk_frozen BK_g.out 6; have lc21_7 : w13.cell? ⟨g, 7, none⟩ = some (.int .i64 0) := (blk_cell BK_g.out 7).trans rfl; have lf21_7 := blk_frozen BK_g.out 7; have lc21_8 : w13.cell? ⟨g, 8, none⟩ = some (.int .i64 last) := (blk_cell BK_g.out 8).trans rfl; have lf21_8 := blk_frozen BK_g.out 8; have lc21_9 : w13.cell? ⟨g, 9, none⟩ = some (.map (some m)) := (blk_cell BK_g.out 9).trans rfl; have lf21_9 := blk_frozen BK_g.out 9; have lc22_0 : w13.cell? ⟨s, 0, none⟩ = some (.int .i64 (lt)) := (blk_cell BK_s.out 0).trans rfl; have lf22_0 := blk_frozen BK_s.out 0; have lc22_1 : w13.cell? ⟨s, 1, none⟩ = some (.int .i64 (lu)) := (blk_cell BK_s.out 1).trans rfl; have lf22_1 := blk_frozen BK_s.out 1; have lc22_2 : w13.cell? ⟨s, 2, none⟩ = some (.int .i64 3) := (blk_cell BK_s.out 2).trans rfl; have lf22_2 := blk_frozen BK_s.out 2; have lc22_3 : w13.cell? ⟨s, 3, none⟩ = some (.int .i64 0) := (blk_cell BK_s.out 3).trans rfl; have lf22_3 := blk_frozen BK_s.out 3; have lc22_4 : w13.cell? ⟨s, 4, none⟩ = some (.int .i64 1) := (blk_cell BK_s.out 4).trans rfl; have lf22_4 := blk_frozen BK_s.out 4; have lc22_5 : w13.cell? ⟨s, 5, none⟩ = some (.slice none 0 0) := (blk_cell BK_s.out 5).trans rfl; have lf22_5 := blk_frozen BK_s.out 5; have lc22_6 : w13.cell? ⟨s, 6, none⟩ = some (.int .i64 0) := (blk_cell BK_s.out 6).trans rfl; have lf22_6 := blk_frozen BK_s.out 6; have lc22_7 : w13.cell? ⟨s, 7, none⟩ = some (.int .i64 0) := (blk_cell BK_s.out 7).trans rfl; have lf22_7 := blk_frozen BK_s.out 7; have lc22_8 : w13.cell? ⟨s, 8, none⟩ = some (.int .i64 0) := (blk_cell BK_s.out 8).trans rfl; have lf22_8 := blk_frozen BK_s.out 8))
    clear lc21_0 lf21_0 lc21_1 lf21_1 lc21_2 lf21_2 lc21_3 lf21_3 lc21_4 lf21_4 lc21_5 lf21_5 lc21_6 lf21_6 lc21_7 lf21_7 lc21_8 lf21_8 lc21_9 lf21_9 lc22_0 lf22_0 lc22_1 lf22_1 lc22_2 lf22_2 lc22_3 lf22_3 lc22_4 lf22_4 lc22_5 lf22_5 lc22_6 lf22_6 lc22_7 lf22_7 lc22_8 lf22_8
    have HIa : Aside0 (IsM B w13 g m ⟨wait, again, pause, t, tk, xs, some (lt, lu), 0, last, (fun k => if k = ou then wrap64 (t + pause) else rest k)⟩) := ⟨⟨⟨_, _, BK_g.out, OB_l.out, ⟨s, rfl, BK_s.out, BG_s.out, NE_l_s.out⟩⟩, ⟨_, _, MP_m.out, HF.out⟩, BG.out, BM.out⟩⟩
    have HBC : Aside0 (B ≤ w13.heap.size) := ⟨Nat.le_trans HBW.out XT.out.size⟩
    go_wp2_with (first | (go_at_call 32; refine (send_f HIa.out HBC.out).mono ?_; rintro e w14 ⟨rfl, HI2, HX⟩; have HI2 := Aside0.mk HI2; have HX := Aside0.mk HX; have OBn : Aside0 (OwnE kd (fun _ => False) 48 B w14 v9 ([ot])) := ⟨kd_mv OB_d.out HX.out NE_d_g.out⟩; clear OB_d; have OB_d := OBn; clear OBn) | ((with_reducible refine gate_dst (N := 129) rfl ?_); refine bs_ev (N := 129) ?hg ?hd (cs := #[.int .i64 (lt), .int .i64 (lu), .int .i64 3, .int .i64 0, .int .i64 1, .slice none 0 0, .int .i64 0, .int .i64 0, .int .i64 0]) (t := 39) (n := 1) ?hr ?_; (case hd => rfl); (case hg => rfl); (case hr => first | (go_simp; done) | (go_simp; rfl)); intro ga hg w15 hbox HBc; have HBOX := Aside0.mk hbox; have HBE := Aside0.mk HBc; clear hbox HBc hg))
    try rw [Exit.noGoto_ret]
    go_ret3
    exact ⟨_, _, rfl, sent_mk HBOX.out, done_mk (kd_mv OB_d.out (Ext.none_ HBE.out) (fun _ _ e => e)), HI2.out.below HBE.out, belowT (belowT HBB.out (extB XT.out HBW.out)) (belowT (extB (HX.out.sub (fun k e => by rw [e]; exact BG.out)) HBC.out) (belowL HBE.out (Nat.le_trans HBC.out HX.out.size)))⟩
end Go.Proofs.Ytlalpooiegganaa.MstE
end

section
namespace Go.Proofs.Ytlalpooiegganaa.MthW
open Go.RowKit Go.Proofs.YtlalpooiegganaaW.PrintWords Go.Proofs.YtlalpooiegganaaW.PrintLast Go.Proofs.YtlalpooiegganaaW.PrintMore Go.Proofs.Ytlalpooiegganaa.Core Go.Proofs.Ytlalpooiegganaa.Wk Go.Proofs.Ytlalpooiegganaa.Mst Go.Proofs.Ytlalpooiegganaa.MstD
set_option linter.unusedVariables false
theorem w_id (x : Int) (h0 : -1000000000 ≤ x) (h1 : x ≤ 1000000000000) : wrap64 x = x := by unfold wrap64; omega
def S (W A R E T n : Nat) : MS :=
  if n = 0 then ⟨W, A, R, 0, 2, [(1, 1), (2, 1)], none, 0, 0, fun _ => 0⟩
  else if n ≤ E then ⟨W, A, R, ((n - 1 : Nat) : Int), 2, [(2, 1)], some (1, 1), (((n - 1) / W + 1 : Nat) : Int), (((n - 1) / W * W : Nat) : Int), fun _ => 0⟩
  else if n ≤ T then ⟨W, A, R, ((n - 1 : Nat) : Int), 2, [(2, 1)], none, ((A + 1 : Nat) : Int), ((A * W : Nat) : Int), fun k => if k = 1 then (T : Int) else (fun _ => (0 : Int)) k⟩
  else ⟨W, A, R, (T : Int), 2, [], some (2, 1), 1, (T : Int), fun k => if k = 1 then (T : Int) else (fun _ => (0 : Int)) k⟩
section
variable {B : Nat} {w : World} {g m W A R T n n1 t l : Nat}
def Post (B : Nat) (w : World) (g m : Nat) (a : Option (Int × Int)) (d : Option Int) (s : MS) (e : Ending) (w' : World) : Prop := ∃ va vd, e = .returned (.tuple #[va, vd, .int .i64 0]) ∧ SentR w' va a ∧ DoneR w' vd d ∧ IsM B w' g m s ∧ Below B w w'
end
end Go.Proofs.Ytlalpooiegganaa.MthW
end

section
namespace Go.Proofs.Ytlalpooiegganaa.MthO
open Go.RowKit Go.Proofs.YtlalpooiegganaaW.PrintWords Go.Proofs.YtlalpooiegganaaW.PrintLast Go.Proofs.YtlalpooiegganaaW.PrintMore Go.Proofs.Ytlalpooiegganaa.Core Go.Proofs.Ytlalpooiegganaa.Wk Go.Proofs.Ytlalpooiegganaa.Mst Go.Proofs.Ytlalpooiegganaa.MstD Go.Proofs.Ytlalpooiegganaa.MthW
set_option linter.unusedVariables false
def LL (us : List Int) (k : Nat) : List (Int × Int) := (List.range k).map fun i => (((i + 1 : Nat) : Int), us.getD i 0)
theorem LL_len (us : List Int) (k : Nat) : (LL us k).length = k := by simp [LL]
theorem LL_snoc (us : List Int) (k : Nat) : LL us (k + 1) = LL us k ++ [(((k + 1 : Nat) : Int), us.getD k 0)] := by simp [LL, List.range_succ]
theorem LL_all (us : List Int) {k n : Nat} (h : n ≤ k) : (LL us n).drop k = [] := List.drop_of_length_le (by rw [LL_len]; exact h)
theorem LL_drop (us : List Int) {k n : Nat} (h : k < n) : (LL us n).drop k = (((k + 1 : Nat) : Int), us.getD k 0) :: (LL us n).drop (k + 1) := by
  rw [List.drop_eq_getElem_cons (by rw [LL_len]; exact h)]
  congr 1
  simp [LL]
theorem drop_len (us : List Int) (k n : Nat) (h : n ≤ 60) : ((LL us n).drop k).length ≤ 1000 := by rw [List.length_drop, LL_len]; omega
def Inv (B : Nat) (W : World) (g m : Nat) (wt : Int) (us : List Int) (n j : Nat) (now : Int) : Prop :=
  ∃ mn out times last rest, IsM B W g m ⟨wt, 1, 0, mn, (n : Int), (LL us n).drop j, out, times, last, rest⟩ ∧ mn ≤ now ∧ (∀ k, rest k ≤ now) ∧ j ≤ n ∧ (out = none ∨ (out = some ((j : Int), us.getD (j - 1) 0) ∧ 1 ≤ j ∧ (times = 1 ∨ times = 2) ∧ 0 ≤ last ∧ last ≤ now))
section
variable {B : Nat} {w W' : World} {g m n j : Nat} {wt now t : Int} {us : List Int}
theorem Inv.below (h : Inv B w g m wt us n j now) (k : Below w.heap.size w W') : Inv B W' g m wt us n j now := by
  obtain ⟨mn, out, times, last, rest, h1, h2⟩ := h
  exact ⟨mn, out, times, last, rest, h1.below k, h2⟩
def P1 (B : Nat) (w : World) (g m : Nat) (wt : Int) (us : List Int) (n j : Nat) (t : Int) (e : Ending) (w' : World) : Prop := ∃ vd, e = .returned (.tuple #[.slice none 0 0, vd, .int .i64 0]) ∧ Inv B w' g m wt us n j t ∧ Below B w w'
def P2 (B : Nat) (w : World) (g m : Nat) (wt : Int) (us : List Int) (n j : Nat) (t : Int) (x : Int × Int) (e : Ending) (w' : World) : Prop := ∃ ga ca vd, e = .returned (.tuple #[.slice (some ⟨ga, 0, none⟩) 1 ca, vd, .int .i64 0]) ∧ w'.heap[ga]? = some (.cells (sc x).toArray 39 (0, 0)) ∧ Inv B w' g m wt us n j t ∧ Below B w w'
theorem p1_of {d : Option Int} {s : MS} (h : Calls Try.prog 12 #[.pointer (some ⟨g, 0, none⟩), .int .i64 t] w (Post B w g m none d s)) (hI : ∀ w', IsM B w' g m s → Inv B w' g m wt us n j t) : Calls Try.prog 12 #[.pointer (some ⟨g, 0, none⟩), .int .i64 t] w (P1 B w g m wt us n j t) :=
  h.mono (fun e w' h => by
    obtain ⟨va, vd, he, hs, hd, hi, hb⟩ := h
    have hs' : va = .slice none 0 0 := hs
    subst hs'
    exact ⟨vd, he, hI w' hi, hb⟩)
theorem p2_of {d : Option Int} {s : MS} {x : Int × Int} {j' : Nat} (h : Calls Try.prog 12 #[.pointer (some ⟨g, 0, none⟩), .int .i64 t] w (Post B w g m (some x) d s)) (hI : ∀ w', IsM B w' g m s → Inv B w' g m wt us n j' t) : Calls Try.prog 12 #[.pointer (some ⟨g, 0, none⟩), .int .i64 t] w (P2 B w g m wt us n j' t x) :=
  h.mono (fun e w' h => by
    obtain ⟨va, vd, he, ⟨ga, ca, hv, hga⟩, hd, hi, hb⟩ := h
    subst hv
    exact ⟨ga, ca, vd, he, hga, hI w' hi, hb⟩)
theorem w12 : wrap64 (1 + 1) = 2 := by unfold wrap64; omega
theorem ord (hI : Inv B w g m wt us n j now) (hB : B ≤ w.heap.size) (hn : n ≤ 60) (h0 : 0 ≤ now) (ht : now ≤ t) (ht2 : t ≤ 1000000) :
    Calls Try.prog 12 #[.pointer (some ⟨g, 0, none⟩), .int .i64 t] w (P1 B w g m wt us n j t) ∨ (j < n ∧ Calls Try.prog 12 #[.pointer (some ⟨g, 0, none⟩), .int .i64 t] w (P2 B w g m wt us n (j + 1) t (((j + 1 : Nat) : Int), us.getD j 0))) ∨ (1 ≤ j ∧ Calls Try.prog 12 #[.pointer (some ⟨g, 0, none⟩), .int .i64 t] w (P2 B w g m wt us n j t ((j : Int), us.getD (j - 1) 0))) := by
  obtain ⟨mn, out, times, last, rest, h, hmn, hr, hj, ho⟩ := hI
  have hr2 : ∀ k, rest k ≤ t := fun k => Int.le_trans (hr k) ht
  have hmt : mn ≤ t := Int.le_trans hmn ht
  have ht0 : 0 ≤ t := Int.le_trans h0 ht
  have hlr : ∀ (u : Int) k, (fun k => if k = u then wrap64 (t + 0) else rest k) k ≤ t := fun u k => by
    show (if k = u then wrap64 (t + 0) else rest k) ≤ t
    rw [Int.add_zero, w_id t (by omega) (by omega)]
    split
    · exact Int.le_refl _
    · exact hr2 k
  rcases ho with rfl | ⟨rfl, hj1, htm, hl0, hl1⟩
  · rcases Nat.lt_or_ge j n with hlt | hge
    · rw [LL_drop us hlt] at h
      refine .inr (.inl ⟨hlt, ?_⟩)
      have := MstE.step_send h hB t ht0 hmt (hr2 _) (drop_len us _ n hn)
      rw [MstH.w01] at this
      exact p2_of this (fun w' hi => ⟨t, _, 1, t, rest, hi, Int.le_refl _, hr2, hlt, .inr ⟨rfl, Nat.succ_pos _, .inl rfl, ht0, Int.le_refl _⟩⟩)
    · have hd := LL_all us hge
      rw [hd] at h
      refine .inl ?_
      have := MstE.step_empty h hB t ht0 hmt
      rw [← hd] at this
      exact p1_of this (fun w' hi => ⟨t, none, times, last, rest, hi, Int.le_refl _, hr2, hj, .inl rfl⟩)
  · have hsub : wrap64 (t - last) = t - last := w_id _ (by omega) (by omega)
    by_cases hw : t - last < wt
    · refine .inl ?_
      have := MstE.step_wait h hB t ht0 hmt (by rw [hsub]; exact hw)
      exact p1_of this (fun w' hi => ⟨t, _, times, last, rest, hi, Int.le_refl _, hr2, hj, .inr ⟨rfl, hj1, htm, hl0, Int.le_trans hl1 ht⟩⟩)
    have hdue : wt ≤ wrap64 (t - last) := by rw [hsub]; omega
    rcases htm with rfl | rfl
    · refine .inr (.inr ⟨hj1, ?_⟩)
      have := MstE.step_again h hB t ht0 hmt hdue (Int.le_refl _)
      rw [w12] at this
      exact p2_of this (fun w' hi => ⟨t, _, 2, t, rest, hi, Int.le_refl _, hr2, hj, .inr ⟨rfl, hj1, .inr rfl, ht0, Int.le_refl _⟩⟩)
    · rcases Nat.lt_or_ge j n with hlt | hge
      · rw [LL_drop us hlt] at h
        refine .inr (.inl ⟨hlt, ?_⟩)
        have := MstE.step_late_send h hB t ht0 hmt hdue (by decide) (hlr _ _) (drop_len us _ n hn)
        rw [MstH.w01] at this
        exact p2_of this (fun w' hi => ⟨t, _, 1, t, _, hi, Int.le_refl _, hlr _, hlt, .inr ⟨rfl, Nat.succ_pos _, .inl rfl, ht0, Int.le_refl _⟩⟩)
      · have hd := LL_all us hge
        rw [hd] at h
        refine .inl ?_
        have := MstE.step_late_empty h hB t ht0 hmt hdue (by decide)
        rw [← hd] at this
        exact p1_of this (fun w' hi => ⟨t, none, 2, last, _, hi, Int.le_refl _, hlr _, hj, .inl rfl⟩)
end
end Go.Proofs.Ytlalpooiegganaa.MthO
end
